/- PktTells: that its call returns true, for every two packets and bytes. Conditions stand in each theorem. -/
import Derived.Test.YtieolhhokepkjaaDoorHandPT
import Derived.Test.YtieolhhokepkjaaDoorHandQS
import Derived.Test.YtieolhhokepkjaaDoorHandPS
namespace Go.Proofs.YtieolhhokepkjaaDoor.Print
set_option linter.unusedVariables false
set_option linter.unusedSimpArgs false
open Go.RowKit Go.Proofs.YtieolhhokepkjaaDoorW.PrintWords Go.Proofs.YtieolhhokepkjaaDoorW.PrintLast Go.Proofs.YtieolhhokepkjaaDoorW.PrintMore Go.Proofs.YtieolhhokepkjaaDoor.NumPlain Go.Proofs.YtieolhhokepkjaaDoor.Crc
/-- The cells of a packet's box. -/
def Cells15 (g : Nat) (v0 v1 v2 v3 v4 v5 v6 v7 v8 v9 v10 v11 v12 v13 v14 : Value) (w' : World) : Prop := w'.cell? ⟨g, 0, none⟩ = some v0 ∧ w'.cell? ⟨g, 1, none⟩ = some v1 ∧ w'.cell? ⟨g, 2, none⟩ = some v2 ∧ w'.cell? ⟨g, 3, none⟩ = some v3 ∧ w'.cell? ⟨g, 4, none⟩ = some v4 ∧ w'.cell? ⟨g, 5, none⟩ = some v5 ∧ w'.cell? ⟨g, 6, none⟩ = some v6 ∧ w'.cell? ⟨g, 7, none⟩ = some v7 ∧ w'.cell? ⟨g, 8, none⟩ = some v8 ∧ w'.cell? ⟨g, 9, none⟩ = some v9 ∧ w'.cell? ⟨g, 10, none⟩ = some v10 ∧ w'.cell? ⟨g, 11, none⟩ = some v11 ∧ w'.cell? ⟨g, 12, none⟩ = some v12 ∧ w'.cell? ⟨g, 13, none⟩ = some v13 ∧ w'.cell? ⟨g, 14, none⟩ = some v14
theorem Cells15.mk_ {g t : Nat} {v0 v1 v2 v3 v4 v5 v6 v7 v8 v9 v10 v11 v12 v13 v14 : Value} {w' : World} (h : w'.heap[g]? = some (.cells #[v0, v1, v2, v3, v4, v5, v6, v7, v8, v9, v10, v11, v12, v13, v14] t (0, 0))) : Cells15 g v0 v1 v2 v3 v4 v5 v6 v7 v8 v9 v10 v11 v12 v13 v14 w' := (cells15 h).1
theorem okRead4_ {l : List Int} (hb : By l) (hl : l.length < 5000) : precentorref04_Read.f l = some (readP l) := if_pos ⟨List.all_eq_true.2 fun x hx => decide_eq_true (hb x hx), hl⟩
/-- What is read has few enough parts. -/
theorem read_small_ {l : List Int} (hb : By l) (hl : l.length < 5000) {y1 y2 y3 y4 y5 y6 y7 y8 : Int} {y9 y10 : List Int} {y11 y12 y13 y14 : Int} {y15 : List Int} {y16 : Int} (hx : readP l = (y1, y2, y3, y4, y5, y6, y7, y8, y9, y10, y11, y12, y13, y14, y15, y16)) : y9.length < 10000 ∧ y15.length < 10000 := by
 rcases read_cases hb hl with ⟨kd, fr, p, hp, h1, _, h3⟩ | ⟨q, _, hp⟩
 ·
  have hw := wf_may h3 h1
  rw [hx] at hp
  unfold tell16 at hp
  simp only [Prod.mk.injEq] at hp
  obtain ⟨_, _, _, _, _, _, _, _, rfl, _, _, _, _, _, rfl, rfl⟩ := hp
  exact ⟨hw.2.1, hw.2.2.2⟩
 ·
  rw [hx] at hp
  unfold tell16 at hp
  simp only [Prod.mk.injEq] at hp
  obtain ⟨_, _, _, _, _, _, _, _, rfl, _, _, _, _, _, rfl, rfl⟩ := hp
  exact ⟨by decide, by decide⟩
open Classical in
noncomputable def precentorlaw04_PktTells.f (kd fr k s e i t c : Int) (L bo : List Int) (T O M P : Int) (R : List Int) (kd' fr' k' s' e' i' t' c' : Int) (L' bo' : List Int) (T' O' M' P' : Int) (R' : List Int) (b : List Int) : Option Bool :=
 if (Lit.int .i64 k).wf = true ∧ (Lit.int .i64 k').wf = true ∧ By bo ∧ By bo' ∧ By b then some true else none
def fstL_ : Code → Code
 | .seq a _ => a
 | c => c
def sndL_ : Code → Code
 | .seq _ b => b
 | c => c
set_option maxRecDepth 100000 in
set_option maxHeartbeats 40000000 in
theorem precentorlaw04_PktTells.last (kd fr k s e i t c : Int) (A8 : Option Addr) (c8 : Nat) (L : List Int) (A9 : Option Addr) (c9 : Nat) (bo : List Int) (T O M P : Int) (A14 : Option Addr) (c14 : Nat) (R : List Int) (kd' fr' k' s' e' i' t' c' : Int) (B8 : Option Addr) (d8 : Nat) (L' : List Int) (B9 : Option Addr) (d9 : Nat) (bo' : List Int) (T' O' M' P' : Int) (B14 : Option Addr) (d14 : Nat) (R' : List Int) (y1 y2 y3 y4 y5 y6 y7 y8 : Int) (y9 y10 : List Int) (y11 y12 y13 y14 : Int) (y15 : List Int) (y16 : Int) (D8 : Option Addr) (e8 : Nat) (D9 : Option Addr) (e9 : Nat) (D14 : Option Addr) (e14 : Nat) (Z8 : Option Addr) (f8 : Nat) (Z9 : Option Addr) (f9 : Nat) (Z14 : Option Addr) (f14 : Nat) (g1 g2 gx gy : Nat) (x0 x1 x2 x5 x6 x12 x13 x14 x15 x16 x17 x18 x19 x20 x21 x22 x23 x24 x25 x26 x27 x28 x29 x30 x31 x32 x33 x34 x35 x36 x37 x38 x39 x40 x41 x42 x43 x44 x45 x46 x47 x48 x49 x50 x51 x52 x53 x54 x55 x56 x57 x58 x59 x60 x61 x62 x63 x64 x65 x66 x67 x68 x69 x70 x71 x72 : Value) (w : World) (h8 : Kd.C (Kd.int .i64) w A8 L.length L) (l8 : L.length ≤ c8) (h9 : Kd.C (Kd.int .u8) w A9 bo.length bo) (l9 : bo.length ≤ c9) (h14 : Kd.C (Kd.int .i64) w A14 R.length R) (l14 : R.length ≤ c14) (g8 : Kd.C (Kd.int .i64) w B8 L'.length L') (m8 : L'.length ≤ d8) (g9 : Kd.C (Kd.int .u8) w B9 bo'.length bo') (m9 : bo'.length ≤ d9) (g14 : Kd.C (Kd.int .i64) w B14 R'.length R') (m14 : R'.length ≤ d14) (u8 : Kd.C (Kd.int .i64) w D8 y9.length y9) (ul8 : y9.length ≤ e8) (u9 : Kd.C (Kd.int .u8) w D9 y10.length y10) (ul9 : y10.length ≤ e9) (u14 : Kd.C (Kd.int .i64) w D14 y15.length y15) (ul14 : y15.length ≤ e14) (v8 : Kd.C (Kd.int .i64) w Z8 y9.length y9) (vl8 : y9.length ≤ f8) (v9 : Kd.C (Kd.int .u8) w Z9 y10.length y10) (vl9 : y10.length ≤ f9) (v14 : Kd.C (Kd.int .i64) w Z14 y15.length y15) (vl14 : y15.length ≤ f14) (hG : GB w) (hk : (Lit.int .i64 k).wf = true) (hbo : By bo) (hf : L.length ≤ 80 ∧ bo.length ≤ 1100 ∧ R.length ≤ 80) (hsm : y9.length < 10000 ∧ y15.length < 10000)
  (hX : w.heap[g1]? = some (.cells #[.int .i64 kd, .int .i64 fr, .int .i64 k, .int .i64 s, .int .i64 e, .int .i64 i, .int .i64 t, .int .i64 c, .slice A8 L.length c8, .slice A9 bo.length c9, .int .i64 T, .int .i64 O, .int .i64 M, .int .i64 P, .slice A14 R.length c14] 27 (0, 0))) (hO : w.heap[g2]? = some (.cells #[.int .i64 kd', .int .i64 fr', .int .i64 k', .int .i64 s', .int .i64 e', .int .i64 i', .int .i64 t', .int .i64 c', .slice B8 L'.length d8, .slice B9 bo'.length d9, .int .i64 T', .int .i64 O', .int .i64 M', .int .i64 P', .slice B14 R'.length d14] 27 (0, 0))) (hXX : w.heap[gx]? = some (.cells #[.int .i64 y1, .int .i64 y2, .int .i64 y3, .int .i64 y4, .int .i64 y5, .int .i64 y6, .int .i64 y7, .int .i64 y8, .slice D8 y9.length e8, .slice D9 y10.length e9, .int .i64 y11, .int .i64 y12, .int .i64 y13, .int .i64 y14, .slice D14 y15.length e14] 27 (0, 0))) (hYY : w.heap[gy]? = some (.cells #[.int .i64 y1, .int .i64 y2, .int .i64 y3, .int .i64 y4, .int .i64 y5, .int .i64 y6, .int .i64 y7, .int .i64 y8, .slice Z8 y9.length f8, .slice Z9 y10.length f9, .int .i64 y11, .int .i64 y12, .int .i64 y13, .int .i64 y14, .slice Z14 y15.length f14] 27 (0, 0))) :
  Code.wp Tryd.prog (fstL_ (sndL_ (sndL_ (sndL_ (sndL_ (sndL_ (Tryd.f3.body.getD .skip))))))) (Exit.then (fun a W => a.tmps[6]? = some (.bool true) ∧ a.defers = [] ∧ Below w.heap.size w W) (fun _ _ _ => False)) { tmps := #[x0, x1, x2, .pointer (some ⟨g1, 0, none⟩), .pointer (some ⟨g2, 0, none⟩), x5, x6, .bool true, .pointer (some ⟨gx, 0, none⟩), .int .i64 y16, .pointer (some ⟨gy, 0, none⟩), .int .i64 y16, x12, x13, x14, x15, x16, x17, x18, x19, x20, x21, x22, x23, x24, x25, x26, x27, x28, x29, x30, x31, x32, x33, x34, x35, x36, x37, x38, x39, x40, x41, x42, x43, x44, x45, x46, x47, x48, x49, x50, x51, x52, x53, x54, x55, x56, x57, x58, x59, x60, x61, x62, x63, x64, x65, x66, x67, x68, x69, x70, x71, x72], defers := [] } w := by
 have H8 := ak h8
 have H9 := ak h9
 have H14 := ak h14
 have HC8 := Lib.hid l8
 have HC9 := Lib.hid l9
 have HC14 := Lib.hid l14
 have G8 := ak g8
 have G9 := ak g9
 have G14 := ak g14
 have GC8 := Lib.hid m8
 have GC9 := Lib.hid m9
 have GC14 := Lib.hid m14
 have X8 := ak u8
 have X9 := ak u9
 have X14 := ak u14
 have Xl8 := Lib.hid ul8
 have Xl9 := Lib.hid ul9
 have Xl14 := Lib.hid ul14
 have Y8 := ak v8
 have Y9 := ak v9
 have Y14 := ak v14
 have Yl8 := Lib.hid vl8
 have Yl9 := Lib.hid vl9
 have Yl14 := Lib.hid vl14
 have HG := Lib.hid hG
 have HK := Lib.hid hk
 have HBO := Lib.hid hbo
 have HFW1 := Lib.hid hf
 have HSM := Lib.hid hsm
 have HX := ak hX
 have HO := ak hO
 have HXX := ak hXX
 have HYY := ak hYY
 clear h8 h9 h14 l8 l9 l14 g8 g9 g14 m8 m9 m14 u8 u9 u14 ul8 ul9 ul14 v8 v9 v14 vl8 vl9 vl14 hG hk hbo hf hsm hX hO hXX hYY
 dsimp only [Tryd.f3, Option.getD_some, sndL_, fstL_]
 obtain ⟨my, hmy⟩ : ∃ m, mayP kd fr (mayB k s e i t c L bo.length) (bareB k s e i t c L bo) T O M P R = m := ⟨_, rfl⟩
 have HMY := Lib.hid hmy
 obtain ⟨sb, hsb⟩ : ∃ l, (if my = true then sealP kd fr k s e i t c L bo T O M P R else []) = l := ⟨_, rfl⟩
 have HSB := Lib.hid hsb
 obtain ⟨z, hz⟩ : ∃ z, sameP kd fr k s e i t c L bo T O M P R kd' fr' k' s' e' i' t' c' L' bo' T' O' M' P' R' = z := ⟨_, rfl⟩
 have HZ := Lib.hid hz
 clear hmy hsb hz
 have m1 : (my == my) = true := beq_self_eq_true my
 have z1 : (z == z) = true := beq_self_eq_true z
 have t1 : ((strOfNums sb).toList == (strOfNums sb).toList) = true := beq_self_eq_true _
 have q1 : (y16 == y16) = true := beq_self_eq_true y16
 refine start_ (n := 37) (S := fun w' => Cells15 g1 (.int .i64 kd) (.int .i64 fr) (.int .i64 k) (.int .i64 s) (.int .i64 e) (.int .i64 i) (.int .i64 t) (.int .i64 c) (.slice A8 L.length c8) (.slice A9 bo.length c9) (.int .i64 T) (.int .i64 O) (.int .i64 M) (.int .i64 P) (.slice A14 R.length c14) w' ∧ Cells15 g2 (.int .i64 kd') (.int .i64 fr') (.int .i64 k') (.int .i64 s') (.int .i64 e') (.int .i64 i') (.int .i64 t') (.int .i64 c') (.slice B8 L'.length d8) (.slice B9 bo'.length d9) (.int .i64 T') (.int .i64 O') (.int .i64 M') (.int .i64 P') (.slice B14 R'.length d14) w' ∧ Cells15 gx (.int .i64 y1) (.int .i64 y2) (.int .i64 y3) (.int .i64 y4) (.int .i64 y5) (.int .i64 y6) (.int .i64 y7) (.int .i64 y8) (.slice D8 y9.length e8) (.slice D9 y10.length e9) (.int .i64 y11) (.int .i64 y12) (.int .i64 y13) (.int .i64 y14) (.slice D14 y15.length e14) w' ∧ Cells15 gy (.int .i64 y1) (.int .i64 y2) (.int .i64 y3) (.int .i64 y4) (.int .i64 y5) (.int .i64 y6) (.int .i64 y7) (.int .i64 y8) (.slice Z8 y9.length f8) (.slice Z9 y10.length f9) (.int .i64 y11) (.int .i64 y12) (.int .i64 y13) (.int .i64 y14) (.slice Z14 y15.length f14) w') (ds := []) #[false, false, false, false, false, false, false, false, false, false, false, false, false, false, false, false, false, false, false, false, false, false, false, false, false, false, false, false, false, false, false, false, false, false, false, false, false] (by kernel_rfl) rfl rfl ⟨Cells15.mk_ (blk_below HX.out (below_drew1 (Below.refl _ _))), Cells15.mk_ (blk_below HO.out (below_drew1 (Below.refl _ _))), Cells15.mk_ (blk_below HXX.out (below_drew1 (Below.refl _ _))), Cells15.mk_ (blk_below HYY.out (below_drew1 (Below.refl _ _)))⟩ (fun hHeld => ?_)
 have HBq := ak (below_drew1 (Below.refl w.heap.size w))
 generalize hwa_ : w.drew = wa at *
 clear hwa_
 refine pure_ (i := 0) (N := some 37) (v := ?_) (a' := ?_) #[true, false, false, false, false, false, false, false, false, false, false, false, false, false, false, false, false, false, false, false, false, false, false, false, false, false, false, false, false, false, false, false, false, false, false, false, false] rfl rfl (by kernel_rfl) (fun _ _ _ h => h) (Or.inl ⟨by rfl, ?_⟩) ?_ ?_
 rotate_left
 ·
  intro w'
  go_simp
  with_reducible rfl
 rotate_left
 ·
  simp only [Act.put, sq1, sq2, sq3, i64_w, i32_w]
  rfl
 refine pure_ (i := 1) (N := some 38) (v := ?_) (a' := ?_) #[true, true, false, false, false, false, false, false, false, false, false, false, false, false, false, false, false, false, false, false, false, false, false, false, false, false, false, false, false, false, false, false, false, false, false, false, false] rfl rfl (by kernel_rfl) (fun _ _ _ h => h) (Or.inl ⟨by rfl, ?_⟩) ?_ ?_
 rotate_left
 ·
  intro w'
  go_simp
  with_reducible rfl
 rotate_left
 ·
  simp only [Act.put, sq1, sq2, sq3, i64_w, i32_w]
  rfl
 refine take_ (i := 2) (N := some 39) (v := ?_) (a' := ?_) #[true, true, true, false, false, false, false, false, false, false, false, false, false, false, false, false, false, false, false, false, false, false, false, false, false, false, false, false, false, false, false, false, false, false, false, false, false] rfl rfl (by kernel_rfl) (fun _ _ _ h => h) (Or.inl ⟨by rfl, ?_⟩) hHeld ?_ ?_
 rotate_left
 ·
  rintro w' ⟨s, t, x, y⟩
  unfold Cells15 at s t x y
  go_simp
  with_reducible rfl
 rotate_left
 ·
  simp only [Act.put, sq1, sq2, sq3, i64_w, i32_w]
  rfl
 refine take_ (i := 4) (N := some 41) (v := ?_) (a' := ?_) #[true, true, true, false, true, false, false, false, false, false, false, false, false, false, false, false, false, false, false, false, false, false, false, false, false, false, false, false, false, false, false, false, false, false, false, false, false] rfl rfl (by kernel_rfl) (fun _ _ _ h => h) (Or.inl ⟨by rfl, ?_⟩) hHeld ?_ ?_
 rotate_left
 ·
  rintro w' ⟨s, t, x, y⟩
  unfold Cells15 at s t x y
  go_simp
  with_reducible rfl
 rotate_left
 ·
  simp only [Act.put, sq1, sq2, sq3, i64_w, i32_w]
  rfl
 refine one_ (i := 3) (N := some 40) #[true, true, true, true, true, false, false, false, false, false, false, false, false, false, false, false, false, false, false, false, false, false, false, false, false, false, false, false, false, false, false, false, false, false, false, false, false] rfl rfl (by kernel_rfl) (by decide) (fun K hK => ?_)
 have HCT := Lib.hid (show Calls Tryd.prog 13 #[.agg #[.int .i64 kd, .int .i64 fr, .int .i64 k, .int .i64 s, .int .i64 e, .int .i64 i, .int .i64 t, .int .i64 c, .slice A8 L.length c8, .slice A9 bo.length c9, .int .i64 T, .int .i64 O, .int .i64 M, .int .i64 P, .slice A14 R.length c14]] wa _ from pkt_May.calls 10000 kd fr k s e i t c A8 c8 L A9 c9 bo T O M P A14 c14 R my wa (Kd.C_below H8.out HBq.out) HC8.out (Kd.C_below H9.out HBq.out) HC9.out (Kd.C_below H14.out HBq.out) HC14.out (by rw [pmay_is _ _ _ _ _ _ _ _ _ _ _ _ _ _ _ HK.out (by have := HFW1.out; omega) (by have := HFW1.out; omega), HMY.out]))
 refine goes_ Tryd.func13 (by kernel_rfl) rfl #[.agg #[.int .i64 kd, .int .i64 fr, .int .i64 k, .int .i64 s, .int .i64 e, .int .i64 i, .int .i64 t, .int .i64 c, .slice A8 L.length c8, .slice A9 bo.length c9, .int .i64 T, .int .i64 O, .int .i64 M, .int .i64 P, .slice A14 R.length c14]] (by rfl) rfl rfl (by simp only [List.map_toArray, List.map_cons, List.map_nil]; rfl) ?_
 with_reducible refine (HCT.out).mono ?_
 rintro e0 wb ⟨rfl, hb⟩
 refine ⟨_, rfl, ?_⟩
 have n0_ := ak (below_step HBq.out hb)
 clear HBq hb HCT
 have HBq := n0_
 clear n0_
 refine hK.out _ _ ⟨Cells15.mk_ (blk_below HX.out HBq.out), Cells15.mk_ (blk_below HO.out HBq.out), Cells15.mk_ (blk_below HXX.out HBq.out), Cells15.mk_ (blk_below HYY.out HBq.out)⟩ (fun hHeld => ?_)
 clear hK K
 refine norm_ (a' := ?_) ?_ ?_
 rotate_left
 ·
  show Act.put _ (some 40) _ = _
  simp only [Act.put, sq1, sq2, sq3, i64_w, i32_w]
  rfl
 refine one_ (i := 5) (N := some 42) #[true, true, true, true, true, true, false, false, false, false, false, false, false, false, false, false, false, false, false, false, false, false, false, false, false, false, false, false, false, false, false, false, false, false, false, false, false] rfl rfl (by kernel_rfl) (by decide) (fun K hK => ?_)
 have HCT := Lib.hid (show Calls Tryd.prog 14 #[.agg #[.int .i64 kd, .int .i64 fr, .int .i64 k, .int .i64 s, .int .i64 e, .int .i64 i, .int .i64 t, .int .i64 c, .slice A8 L.length c8, .slice A9 bo.length c9, .int .i64 T, .int .i64 O, .int .i64 M, .int .i64 P, .slice A14 R.length c14]] wb _ from precentorref04_May.calls 10010 kd fr k s e i t c A8 c8 L A9 c9 bo T O M P A14 c14 R my wb (Kd.C_below H8.out HBq.out) HC8.out (Kd.C_below H9.out HBq.out) HC9.out (Kd.C_below H14.out HBq.out) HC14.out ((rmayP_is _ _ _ _ _ _ _ _ _ _ _ _ _ _ _ (by have := HFW1.out; omega) (by have := HFW1.out; omega) _ (Nat.le_refl _)).trans (by rw [HMY.out])))
 refine goes_ Tryd.func14 (by kernel_rfl) rfl #[.agg #[.int .i64 kd, .int .i64 fr, .int .i64 k, .int .i64 s, .int .i64 e, .int .i64 i, .int .i64 t, .int .i64 c, .slice A8 L.length c8, .slice A9 bo.length c9, .int .i64 T, .int .i64 O, .int .i64 M, .int .i64 P, .slice A14 R.length c14]] (by rfl) rfl rfl (by simp only [List.map_toArray, List.map_cons, List.map_nil]; rfl) ?_
 with_reducible refine (HCT.out).mono ?_
 rintro e0 wc ⟨rfl, hb⟩
 refine ⟨_, rfl, ?_⟩
 have n0_ := ak (below_step HBq.out hb)
 clear HBq hb HCT
 have HBq := n0_
 clear n0_
 refine hK.out _ _ ⟨Cells15.mk_ (blk_below HX.out HBq.out), Cells15.mk_ (blk_below HO.out HBq.out), Cells15.mk_ (blk_below HXX.out HBq.out), Cells15.mk_ (blk_below HYY.out HBq.out)⟩ (fun hHeld => ?_)
 clear hK K
 refine norm_ (a' := ?_) ?_ ?_
 rotate_left
 ·
  show Act.put _ (some 42) _ = _
  simp only [Act.put, sq1, sq2, sq3, i64_w, i32_w]
  rfl
 refine pure_ (i := 6) (N := some 43) (v := ?_) (a' := ?_) #[true, true, true, true, true, true, true, false, false, false, false, false, false, false, false, false, false, false, false, false, false, false, false, false, false, false, false, false, false, false, false, false, false, false, false, false, false] rfl rfl (by kernel_rfl) (fun _ _ _ h => h) (Or.inl ⟨by rfl, ?_⟩) ?_ ?_
 rotate_left
 ·
  intro w'
  go_simp
  with_reducible rfl
 rotate_left
 ·
  simp only [Act.put, sq1, sq2, sq3, i64_w, i32_w]
  rfl
 refine pure_ (i := 7) (N := some 44) (v := ?_) (a' := ?_) #[true, true, true, true, true, true, true, true, false, false, false, false, false, false, false, false, false, false, false, false, false, false, false, false, false, false, false, false, false, false, false, false, false, false, false, false, false] rfl rfl (by kernel_rfl) (fun _ _ _ h => h) (Or.inl ⟨by rfl, ?_⟩) ?_ ?_
 rotate_left
 ·
  intro w'
  go_simp
  with_reducible rfl
 rotate_left
 ·
  simp only [Act.put, sq1, sq2, sq3, i64_w, i32_w]
  rfl
 refine pure_ (i := 8) (N := some 45) (v := ?_) (a' := ?_) #[true, true, true, true, true, true, true, true, true, false, false, false, false, false, false, false, false, false, false, false, false, false, false, false, false, false, false, false, false, false, false, false, false, false, false, false, false] rfl rfl (by kernel_rfl) (fun _ _ _ h => h) (Or.inl ⟨by rfl, ?_⟩) ?_ ?_
 rotate_left
 ·
  intro w'
  go_simp
  with_reducible rfl
 rotate_left
 ·
  simp only [Act.put, sq1, sq2, sq3, i64_w, i32_w]
  rfl
 refine take_ (i := 9) (N := some 46) (v := ?_) (a' := ?_) #[true, true, true, true, true, true, true, true, true, true, false, false, false, false, false, false, false, false, false, false, false, false, false, false, false, false, false, false, false, false, false, false, false, false, false, false, false] rfl rfl (by kernel_rfl) (fun _ _ _ h => h) (Or.inl ⟨by rfl, ?_⟩) hHeld ?_ ?_
 rotate_left
 ·
  rintro w' ⟨s, t, x, y⟩
  unfold Cells15 at s t x y
  go_simp
  with_reducible rfl
 rotate_left
 ·
  simp only [Act.put, sq1, sq2, sq3, i64_w, i32_w]
  rfl
 refine take_ (i := 10) (N := some 47) (v := ?_) (a' := ?_) #[true, true, true, true, true, true, true, true, true, true, true, false, false, false, false, false, false, false, false, false, false, false, false, false, false, false, false, false, false, false, false, false, false, false, false, false, false] rfl rfl (by kernel_rfl) (fun _ _ _ h => h) (Or.inl ⟨by rfl, ?_⟩) hHeld ?_ ?_
 rotate_left
 ·
  rintro w' ⟨s, t, x, y⟩
  unfold Cells15 at s t x y
  go_simp
  with_reducible rfl
 rotate_left
 ·
  simp only [Act.put, sq1, sq2, sq3, i64_w, i32_w]
  rfl
 refine take_ (i := 12) (N := some 49) (v := ?_) (a' := ?_) #[true, true, true, true, true, true, true, true, true, true, true, false, true, false, false, false, false, false, false, false, false, false, false, false, false, false, false, false, false, false, false, false, false, false, false, false, false] rfl rfl (by kernel_rfl) (fun _ _ _ h => h) (Or.inl ⟨by rfl, ?_⟩) hHeld ?_ ?_
 rotate_left
 ·
  rintro w' ⟨s, t, x, y⟩
  unfold Cells15 at s t x y
  go_simp
  with_reducible rfl
 rotate_left
 ·
  simp only [Act.put, sq1, sq2, sq3, i64_w, i32_w]
  rfl
 refine take_ (i := 13) (N := some 50) (v := ?_) (a' := ?_) #[true, true, true, true, true, true, true, true, true, true, true, false, true, true, false, false, false, false, false, false, false, false, false, false, false, false, false, false, false, false, false, false, false, false, false, false, false] rfl rfl (by kernel_rfl) (fun _ _ _ h => h) (Or.inl ⟨by rfl, ?_⟩) hHeld ?_ ?_
 rotate_left
 ·
  rintro w' ⟨s, t, x, y⟩
  unfold Cells15 at s t x y
  go_simp
  with_reducible rfl
 rotate_left
 ·
  simp only [Act.put, sq1, sq2, sq3, i64_w, i32_w]
  rfl
 as_aux_lemma =>
  refine one_ (i := 11) (N := some 48) #[true, true, true, true, true, true, true, true, true, true, true, true, true, true, false, false, false, false, false, false, false, false, false, false, false, false, false, false, false, false, false, false, false, false, false, false, false] rfl rfl (by kernel_rfl) (by decide) (fun K hK => ?_)
  have HCT := Lib.hid (show Calls Tryd.prog 15 #[.agg #[.int .i64 kd, .int .i64 fr, .int .i64 k, .int .i64 s, .int .i64 e, .int .i64 i, .int .i64 t, .int .i64 c, .slice A8 L.length c8, .slice A9 bo.length c9, .int .i64 T, .int .i64 O, .int .i64 M, .int .i64 P, .slice A14 R.length c14], .agg #[.int .i64 kd', .int .i64 fr', .int .i64 k', .int .i64 s', .int .i64 e', .int .i64 i', .int .i64 t', .int .i64 c', .slice B8 L'.length d8, .slice B9 bo'.length d9, .int .i64 T', .int .i64 O', .int .i64 M', .int .i64 P', .slice B14 R'.length d14]] wc _ from pkt_Same.calls 10000 kd fr k s e i t c A8 c8 L A9 c9 bo T O M P A14 c14 R kd' fr' k' s' e' i' t' c' B8 d8 L' B9 d9 bo' T' O' M' P' B14 d14 R' z wc (Kd.C_below H8.out HBq.out) HC8.out (Kd.C_below H9.out HBq.out) HC9.out (Kd.C_below H14.out HBq.out) HC14.out (Kd.C_below G8.out HBq.out) GC8.out (Kd.C_below G9.out HBq.out) GC9.out (Kd.C_below G14.out HBq.out) GC14.out (by rw [psame_is _ _ _ _ _ _ _ _ _ _ _ _ _ _ _ _ _ _ _ _ _ _ _ _ _ _ _ _ _ _ (by have := HFW1.out; omega) (by have := HFW1.out; omega), HZ.out]))
  refine goes_ Tryd.func15 (by kernel_rfl) rfl #[.agg #[.int .i64 kd, .int .i64 fr, .int .i64 k, .int .i64 s, .int .i64 e, .int .i64 i, .int .i64 t, .int .i64 c, .slice A8 L.length c8, .slice A9 bo.length c9, .int .i64 T, .int .i64 O, .int .i64 M, .int .i64 P, .slice A14 R.length c14], .agg #[.int .i64 kd', .int .i64 fr', .int .i64 k', .int .i64 s', .int .i64 e', .int .i64 i', .int .i64 t', .int .i64 c', .slice B8 L'.length d8, .slice B9 bo'.length d9, .int .i64 T', .int .i64 O', .int .i64 M', .int .i64 P', .slice B14 R'.length d14]] (by rfl) rfl rfl (by simp only [List.map_toArray, List.map_cons, List.map_nil]; rfl) ?_
  with_reducible refine (HCT.out).mono ?_
  rintro e0 wd ⟨rfl, hb⟩
  refine ⟨_, rfl, ?_⟩
  have n0_ := ak (below_step HBq.out hb)
  clear HBq hb HCT
  have HBq := n0_
  clear n0_
  refine hK.out _ _ ⟨Cells15.mk_ (blk_below HX.out HBq.out), Cells15.mk_ (blk_below HO.out HBq.out), Cells15.mk_ (blk_below HXX.out HBq.out), Cells15.mk_ (blk_below HYY.out HBq.out)⟩ (fun hHeld => ?_)
  clear hK K
  refine norm_ (a' := ?_) ?_ ?_
  rotate_left
  ·
   show Act.put _ (some 48) _ = _
   simp only [Act.put, sq1, sq2, sq3, i64_w, i32_w]
   rfl
  refine one_ (i := 14) (N := some 51) #[true, true, true, true, true, true, true, true, true, true, true, true, true, true, true, false, false, false, false, false, false, false, false, false, false, false, false, false, false, false, false, false, false, false, false, false, false] rfl rfl (by kernel_rfl) (by decide) (fun K hK => ?_)
  have HCT := Lib.hid (show Calls Tryd.prog 16 #[.agg #[.int .i64 kd, .int .i64 fr, .int .i64 k, .int .i64 s, .int .i64 e, .int .i64 i, .int .i64 t, .int .i64 c, .slice A8 L.length c8, .slice A9 bo.length c9, .int .i64 T, .int .i64 O, .int .i64 M, .int .i64 P, .slice A14 R.length c14], .agg #[.int .i64 kd', .int .i64 fr', .int .i64 k', .int .i64 s', .int .i64 e', .int .i64 i', .int .i64 t', .int .i64 c', .slice B8 L'.length d8, .slice B9 bo'.length d9, .int .i64 T', .int .i64 O', .int .i64 M', .int .i64 P', .slice B14 R'.length d14]] wd _ from precentorref04_Same.calls 1 kd fr k s e i t c A8 c8 L A9 c9 bo T O M P A14 c14 R kd' fr' k' s' e' i' t' c' B8 d8 L' B9 d9 bo' T' O' M' P' B14 d14 R' z wd (Kd.C_below H8.out HBq.out) HC8.out (Kd.C_below H9.out HBq.out) HC9.out (Kd.C_below H14.out HBq.out) HC14.out (Kd.C_below G8.out HBq.out) GC8.out (Kd.C_below G9.out HBq.out) GC9.out (Kd.C_below G14.out HBq.out) GC14.out ((if_pos ⟨by have := HFW1.out; omega, by have := HFW1.out; omega⟩).trans (by rw [HZ.out])))
  refine goes_ Tryd.func16 (by kernel_rfl) rfl #[.agg #[.int .i64 kd, .int .i64 fr, .int .i64 k, .int .i64 s, .int .i64 e, .int .i64 i, .int .i64 t, .int .i64 c, .slice A8 L.length c8, .slice A9 bo.length c9, .int .i64 T, .int .i64 O, .int .i64 M, .int .i64 P, .slice A14 R.length c14], .agg #[.int .i64 kd', .int .i64 fr', .int .i64 k', .int .i64 s', .int .i64 e', .int .i64 i', .int .i64 t', .int .i64 c', .slice B8 L'.length d8, .slice B9 bo'.length d9, .int .i64 T', .int .i64 O', .int .i64 M', .int .i64 P', .slice B14 R'.length d14]] (by rfl) rfl rfl (by simp only [List.map_toArray, List.map_cons, List.map_nil]; rfl) ?_
  with_reducible refine (HCT.out).mono ?_
  rintro e0 we ⟨rfl, hb⟩
  refine ⟨_, rfl, ?_⟩
  have n0_ := ak (below_step HBq.out hb)
  clear HBq hb HCT
  have HBq := n0_
  clear n0_
  refine hK.out _ _ ⟨Cells15.mk_ (blk_below HX.out HBq.out), Cells15.mk_ (blk_below HO.out HBq.out), Cells15.mk_ (blk_below HXX.out HBq.out), Cells15.mk_ (blk_below HYY.out HBq.out)⟩ (fun hHeld => ?_)
  clear hK K
  refine norm_ (a' := ?_) ?_ ?_
  rotate_left
  ·
   show Act.put _ (some 51) _ = _
   simp only [Act.put, sq1, sq2, sq3, i64_w, i32_w]
   rfl
  refine pure_ (i := 15) (N := some 52) (v := ?_) (a' := ?_) #[true, true, true, true, true, true, true, true, true, true, true, true, true, true, true, true, false, false, false, false, false, false, false, false, false, false, false, false, false, false, false, false, false, false, false, false, false] rfl rfl (by kernel_rfl) (fun _ _ _ h => h) (Or.inl ⟨by rfl, ?_⟩) ?_ ?_
  rotate_left
  ·
   intro w'
   go_simp
   with_reducible rfl
  rotate_left
  ·
   simp only [Act.put, sq1, sq2, sq3, i64_w, i32_w]
   rfl
  refine pure_ (i := 16) (N := some 53) (v := ?_) (a' := ?_) #[true, true, true, true, true, true, true, true, true, true, true, true, true, true, true, true, true, false, false, false, false, false, false, false, false, false, false, false, false, false, false, false, false, false, false, false, false] rfl rfl (by kernel_rfl) (fun _ _ _ h => h) (Or.inl ⟨by rfl, ?_⟩) ?_ ?_
  rotate_left
  ·
   intro w'
   go_simp
   with_reducible rfl
  rotate_left
  ·
   simp only [Act.put, sq1, sq2, sq3, i64_w, i32_w]
   rfl
  refine pure_ (i := 17) (N := some 54) (v := ?_) (a' := ?_) #[true, true, true, true, true, true, true, true, true, true, true, true, true, true, true, true, true, true, false, false, false, false, false, false, false, false, false, false, false, false, false, false, false, false, false, false, false] rfl rfl (by kernel_rfl) (fun _ _ _ h => h) (Or.inl ⟨by rfl, ?_⟩) ?_ ?_
  rotate_left
  ·
   intro w'
   go_simp
   with_reducible rfl
  rotate_left
  ·
   simp only [Act.put, sq1, sq2, sq3, i64_w, i32_w]
   rfl
  refine take_ (i := 18) (N := some 55) (v := ?_) (a' := ?_) #[true, true, true, true, true, true, true, true, true, true, true, true, true, true, true, true, true, true, true, false, false, false, false, false, false, false, false, false, false, false, false, false, false, false, false, false, false] rfl rfl (by kernel_rfl) (fun _ _ _ h => h) (Or.inl ⟨by rfl, ?_⟩) hHeld ?_ ?_
  rotate_left
  ·
   rintro w' ⟨s, t, x, y⟩
   unfold Cells15 at s t x y
   go_simp
   with_reducible rfl
  rotate_left
  ·
   simp only [Act.put, sq1, sq2, sq3, i64_w, i32_w]
   rfl
  refine take_ (i := 21) (N := some 58) (v := ?_) (a' := ?_) #[true, true, true, true, true, true, true, true, true, true, true, true, true, true, true, true, true, true, true, false, false, true, false, false, false, false, false, false, false, false, false, false, false, false, false, false, false] rfl rfl (by kernel_rfl) (fun _ _ _ h => h) (Or.inl ⟨by rfl, ?_⟩) hHeld ?_ ?_
  rotate_left
  ·
   rintro w' ⟨s, t, x, y⟩
   unfold Cells15 at s t x y
   go_simp
   with_reducible rfl
  rotate_left
  ·
   simp only [Act.put, sq1, sq2, sq3, i64_w, i32_w]
   rfl
  as_aux_lemma =>
   refine one_ (i := 19) (N := some 56) #[true, true, true, true, true, true, true, true, true, true, true, true, true, true, true, true, true, true, true, true, false, true, false, false, false, false, false, false, false, false, false, false, false, false, false, false, false] rfl rfl (by kernel_rfl) (by decide) (fun K hK => ?_)
   have HCT := Lib.hid (show Calls Tryd.prog 17 #[.agg #[.int .i64 kd, .int .i64 fr, .int .i64 k, .int .i64 s, .int .i64 e, .int .i64 i, .int .i64 t, .int .i64 c, .slice A8 L.length c8, .slice A9 bo.length c9, .int .i64 T, .int .i64 O, .int .i64 M, .int .i64 P, .slice A14 R.length c14]] we _ from pkt_Bytes.calls kd fr k s e i t c A8 c8 L A9 c9 bo T O M P A14 c14 R sb we (Kd.C_below H8.out HBq.out) HC8.out (Kd.C_below H9.out HBq.out) HC9.out (Kd.C_below H14.out HBq.out) HC14.out (GB.below HG.out HBq.out) ((if_pos ⟨HK.out, by have := HFW1.out; omega, by have := HFW1.out; omega, by have := HFW1.out; omega⟩).trans (by rw [HMY.out, ← HSB.out]; rfl)))
   refine goes_ Tryd.func17 (by kernel_rfl) rfl #[.agg #[.int .i64 kd, .int .i64 fr, .int .i64 k, .int .i64 s, .int .i64 e, .int .i64 i, .int .i64 t, .int .i64 c, .slice A8 L.length c8, .slice A9 bo.length c9, .int .i64 T, .int .i64 O, .int .i64 M, .int .i64 P, .slice A14 R.length c14]] (by rfl) rfl rfl (by simp only [List.map_toArray, List.map_cons, List.map_nil]; rfl) ?_
   with_reducible refine (HCT.out).mono ?_
   rintro e0 wf ⟨vs, rfl, hr, hb⟩
   refine ⟨_, rfl, ?_⟩
   have HRS := ak hr
   clear hr
   have n0_ := ak (below_step HBq.out hb)
   clear HBq hb HCT
   have HBq := n0_
   clear n0_
   refine hK.out _ _ ⟨Cells15.mk_ (blk_below HX.out HBq.out), Cells15.mk_ (blk_below HO.out HBq.out), Cells15.mk_ (blk_below HXX.out HBq.out), Cells15.mk_ (blk_below HYY.out HBq.out)⟩ (fun hHeld => ?_)
   clear hK K
   refine norm_ (a' := ?_) ?_ ?_
   rotate_left
   ·
    show Act.put _ (some 56) _ = _
    simp only [Act.put, sq1, sq2, sq3, i64_w, i32_w]
    rfl
   as_aux_lemma =>
    refine join_ (σ := Option Addr × Nat) 13 #[true, true, true, true, true, true, true, true, true, true, true, true, true, true, true, true, true, true, true, true, true, true, true, true, false, false, false, false, false, false, false, false, false, false, false, false, false] (fun s_ => [(57, .string (strOfNums sb)), (59, .slice s_.1 sb.length s_.2), (60, .string (strOfNums sb))]) (fun (s_ : Option Addr × Nat) w2_ => (Cells15 g1 (.int .i64 kd) (.int .i64 fr) (.int .i64 k) (.int .i64 s) (.int .i64 e) (.int .i64 i) (.int .i64 t) (.int .i64 c) (.slice A8 L.length c8) (.slice A9 bo.length c9) (.int .i64 T) (.int .i64 O) (.int .i64 M) (.int .i64 P) (.slice A14 R.length c14) w2_ ∧ Cells15 g2 (.int .i64 kd') (.int .i64 fr') (.int .i64 k') (.int .i64 s') (.int .i64 e') (.int .i64 i') (.int .i64 t') (.int .i64 c') (.slice B8 L'.length d8) (.slice B9 bo'.length d9) (.int .i64 T') (.int .i64 O') (.int .i64 M') (.int .i64 P') (.slice B14 R'.length d14) w2_ ∧ Cells15 gx (.int .i64 y1) (.int .i64 y2) (.int .i64 y3) (.int .i64 y4) (.int .i64 y5) (.int .i64 y6) (.int .i64 y7) (.int .i64 y8) (.slice D8 y9.length e8) (.slice D9 y10.length e9) (.int .i64 y11) (.int .i64 y12) (.int .i64 y13) (.int .i64 y14) (.slice D14 y15.length e14) w2_ ∧ Cells15 gy (.int .i64 y1) (.int .i64 y2) (.int .i64 y3) (.int .i64 y4) (.int .i64 y5) (.int .i64 y6) (.int .i64 y7) (.int .i64 y8) (.slice Z8 y9.length f8) (.slice Z9 y10.length f9) (.int .i64 y11) (.int .i64 y12) (.int .i64 y13) (.int .i64 y14) (.slice Z14 y15.length f14) w2_) ∧ sb.length ≤ s_.2 ∧ Kd.C (Kd.int .u8) w2_ s_.1 sb.length sb ∧ Below w.heap.size w w2_) ?_ ?_
    rotate_left
    ·
     intro hCont
     refine two_ (i := 20) (j := 22) (Ni := some 57) (Nj := some 59) #[true, true, true, true, true, true, true, true, true, true, true, true, true, true, true, true, true, true, true, true, true, true, false, false, false, false, false, false, false, false, false, false, false, false, false, false, false] #[true, true, true, true, true, true, true, true, true, true, true, true, true, true, true, true, true, true, true, true, false, true, true, false, false, false, false, false, false, false, false, false, false, false, false, false, false] rfl rfl rfl rfl (by kernel_rfl) (by decide) (by decide) (fun K hK => ?_) (fun K hK => ?_)
     ·
      skip
      have hcv := own_string (P := Tryd.prog) Tryd.underlying23 Tryd.underlying5 Tryd.underlying9 (Kd.own_of_R HRS.out)
      refine value_ (w1 := ?_) (v := ?_) (by rfl) rfl ?_ ?_
      rotate_left 2
      ·
       go_simp
       constructor
       ·
        rfl
       ·
        rfl
      clear hcv
      refine hK.out _ _ ⟨Cells15.mk_ (blk_below HX.out HBq.out), Cells15.mk_ (blk_below HO.out HBq.out), Cells15.mk_ (blk_below HXX.out HBq.out), Cells15.mk_ (blk_below HYY.out HBq.out)⟩ (fun hHeld => ?_)
      clear hK K
      refine norm_ (a' := ?_) ?_ ?_
      rotate_left
      ·
       show Act.put _ (some 57) _ = _
       simp only [Act.put, sq1, sq2, sq3, i64_w, i32_w]
       rfl
      refine one_ (i := 22) (N := some 59) #[true, true, true, true, true, true, true, true, true, true, true, true, true, true, true, true, true, true, true, true, true, true, true, false, false, false, false, false, false, false, false, false, false, false, false, false, false] rfl rfl (by kernel_rfl) (by decide) (fun K hK => ?_)
      have HCT := Lib.hid (show Calls Tryd.prog 18 #[.agg #[.int .i64 kd, .int .i64 fr, .int .i64 k, .int .i64 s, .int .i64 e, .int .i64 i, .int .i64 t, .int .i64 c, .slice A8 L.length c8, .slice A9 bo.length c9, .int .i64 T, .int .i64 O, .int .i64 M, .int .i64 P, .slice A14 R.length c14]] wf _ from precentorref04_Bytes.calls 1 kd fr k s e i t c A8 c8 L A9 c9 bo T O M P A14 c14 R sb wf (Kd.C_below H8.out HBq.out) HC8.out (Kd.C_below H9.out HBq.out) HC9.out (Kd.C_below H14.out HBq.out) HC14.out ((rbytes4_is HBO.out (by have := HFW1.out; omega) (by have := HFW1.out; omega) (by have := HFW1.out; omega) _).trans (by rw [HMY.out, ← HSB.out])))
      refine goes_ Tryd.func18 (by kernel_rfl) rfl #[.agg #[.int .i64 kd, .int .i64 fr, .int .i64 k, .int .i64 s, .int .i64 e, .int .i64 i, .int .i64 t, .int .i64 c, .slice A8 L.length c8, .slice A9 bo.length c9, .int .i64 T, .int .i64 O, .int .i64 M, .int .i64 P, .slice A14 R.length c14]] (by rfl) rfl rfl (by simp only [List.map_toArray, List.map_cons, List.map_nil]; rfl) ?_
      with_reducible refine (HCT.out).mono ?_
      rintro e0 wg ⟨vt, rfl, hr, hb⟩
      refine ⟨_, rfl, ?_⟩
      obtain ⟨A7, c7, rfl, hl7, hC7⟩ := Kd.R_reads hr
      have HC7 := ak hC7
      have HL7 := Lib.hid hl7
      clear hr hC7 hl7
      have n0_ := ak (below_step HBq.out hb)
      clear HBq hb HCT
      have HBq := n0_
      clear n0_
      refine hK.out _ _ ⟨Cells15.mk_ (blk_below HX.out HBq.out), Cells15.mk_ (blk_below HO.out HBq.out), Cells15.mk_ (blk_below HXX.out HBq.out), Cells15.mk_ (blk_below HYY.out HBq.out)⟩ (fun hHeld => ?_)
      clear hK K
      refine norm_ (a' := ?_) ?_ ?_
      rotate_left
      ·
       show Act.put _ (some 59) _ = _
       simp only [Act.put, sq1, sq2, sq3, i64_w, i32_w]
       rfl
      refine one_ (i := 23) (N := some 60) #[true, true, true, true, true, true, true, true, true, true, true, true, true, true, true, true, true, true, true, true, true, true, true, true, false, false, false, false, false, false, false, false, false, false, false, false, false] rfl rfl (by kernel_rfl) (by decide) (fun K hK => ?_)
      have hcv := Kd.C_string (P := Tryd.prog) (A := A7) (c := c7) Tryd.underlying23 Tryd.underlying5 Tryd.underlying9 HC7.out
      refine value_ (w1 := ?_) (v := ?_) (by rfl) rfl ?_ ?_
      rotate_left 2
      ·
       go_simp
       constructor
       ·
        rfl
       ·
        rfl
      clear hcv
      refine hK.out _ _ ⟨Cells15.mk_ (blk_below HX.out HBq.out), Cells15.mk_ (blk_below HO.out HBq.out), Cells15.mk_ (blk_below HXX.out HBq.out), Cells15.mk_ (blk_below HYY.out HBq.out)⟩ (fun hHeld => ?_)
      clear hK K
      refine norm_ (a' := ?_) ?_ ?_
      rotate_left
      ·
       show Act.put _ (some 60) _ = _
       simp only [Act.put, sq1, sq2, sq3, i64_w, i32_w]
       rfl
      exact norm_ (by simp only [putAll, Act.put, sq1, sq2, sq3]) (hCont (A7, c7) _ ⟨hHeld, HL7.out, HC7.out, HBq.out⟩)
     ·
      skip
      have HCT := Lib.hid (show Calls Tryd.prog 18 #[.agg #[.int .i64 kd, .int .i64 fr, .int .i64 k, .int .i64 s, .int .i64 e, .int .i64 i, .int .i64 t, .int .i64 c, .slice A8 L.length c8, .slice A9 bo.length c9, .int .i64 T, .int .i64 O, .int .i64 M, .int .i64 P, .slice A14 R.length c14]] wf _ from precentorref04_Bytes.calls 1 kd fr k s e i t c A8 c8 L A9 c9 bo T O M P A14 c14 R sb wf (Kd.C_below H8.out HBq.out) HC8.out (Kd.C_below H9.out HBq.out) HC9.out (Kd.C_below H14.out HBq.out) HC14.out ((rbytes4_is HBO.out (by have := HFW1.out; omega) (by have := HFW1.out; omega) (by have := HFW1.out; omega) _).trans (by rw [HMY.out, ← HSB.out])))
      refine goes_ Tryd.func18 (by kernel_rfl) rfl #[.agg #[.int .i64 kd, .int .i64 fr, .int .i64 k, .int .i64 s, .int .i64 e, .int .i64 i, .int .i64 t, .int .i64 c, .slice A8 L.length c8, .slice A9 bo.length c9, .int .i64 T, .int .i64 O, .int .i64 M, .int .i64 P, .slice A14 R.length c14]] (by rfl) rfl rfl (by simp only [List.map_toArray, List.map_cons, List.map_nil]; rfl) ?_
      with_reducible refine (HCT.out).mono ?_
      rintro e0 wg ⟨vt, rfl, hr, hb⟩
      refine ⟨_, rfl, ?_⟩
      obtain ⟨A7, c7, rfl, hl7, hC7⟩ := Kd.R_reads hr
      have HC7 := ak hC7
      have HL7 := Lib.hid hl7
      clear hr hC7 hl7
      have n1_ := ak (Kd.R_below HRS.out hb)
      clear HRS
      have HRS := n1_
      clear n1_
      have n0_ := ak (below_step HBq.out hb)
      clear HBq hb HCT
      have HBq := n0_
      clear n0_
      refine hK.out _ _ ⟨Cells15.mk_ (blk_below HX.out HBq.out), Cells15.mk_ (blk_below HO.out HBq.out), Cells15.mk_ (blk_below HXX.out HBq.out), Cells15.mk_ (blk_below HYY.out HBq.out)⟩ (fun hHeld => ?_)
      clear hK K
      refine norm_ (a' := ?_) ?_ ?_
      rotate_left
      ·
       show Act.put _ (some 59) _ = _
       simp only [Act.put, sq1, sq2, sq3, i64_w, i32_w]
       rfl
      refine two_ (i := 20) (j := 23) (Ni := some 57) (Nj := some 60) #[true, true, true, true, true, true, true, true, true, true, true, true, true, true, true, true, true, true, true, true, true, true, true, false, false, false, false, false, false, false, false, false, false, false, false, false, false] #[true, true, true, true, true, true, true, true, true, true, true, true, true, true, true, true, true, true, true, true, false, true, true, true, false, false, false, false, false, false, false, false, false, false, false, false, false] rfl rfl rfl rfl (by kernel_rfl) (by decide) (by decide) (fun K hK => ?_) (fun K hK => ?_)
      ·
       skip
       have hcv := own_string (P := Tryd.prog) Tryd.underlying23 Tryd.underlying5 Tryd.underlying9 (Kd.own_of_R HRS.out)
       refine value_ (w1 := ?_) (v := ?_) (by rfl) rfl ?_ ?_
       rotate_left 2
       ·
        go_simp
        constructor
        ·
         rfl
        ·
         rfl
       clear hcv
       refine hK.out _ _ ⟨Cells15.mk_ (blk_below HX.out HBq.out), Cells15.mk_ (blk_below HO.out HBq.out), Cells15.mk_ (blk_below HXX.out HBq.out), Cells15.mk_ (blk_below HYY.out HBq.out)⟩ (fun hHeld => ?_)
       clear hK K
       refine norm_ (a' := ?_) ?_ ?_
       rotate_left
       ·
        show Act.put _ (some 57) _ = _
        simp only [Act.put, sq1, sq2, sq3, i64_w, i32_w]
        rfl
       refine one_ (i := 23) (N := some 60) #[true, true, true, true, true, true, true, true, true, true, true, true, true, true, true, true, true, true, true, true, true, true, true, true, false, false, false, false, false, false, false, false, false, false, false, false, false] rfl rfl (by kernel_rfl) (by decide) (fun K hK => ?_)
       have hcv := Kd.C_string (P := Tryd.prog) (A := A7) (c := c7) Tryd.underlying23 Tryd.underlying5 Tryd.underlying9 HC7.out
       refine value_ (w1 := ?_) (v := ?_) (by rfl) rfl ?_ ?_
       rotate_left 2
       ·
        go_simp
        constructor
        ·
         rfl
        ·
         rfl
       clear hcv
       refine hK.out _ _ ⟨Cells15.mk_ (blk_below HX.out HBq.out), Cells15.mk_ (blk_below HO.out HBq.out), Cells15.mk_ (blk_below HXX.out HBq.out), Cells15.mk_ (blk_below HYY.out HBq.out)⟩ (fun hHeld => ?_)
       clear hK K
       refine norm_ (a' := ?_) ?_ ?_
       rotate_left
       ·
        show Act.put _ (some 60) _ = _
        simp only [Act.put, sq1, sq2, sq3, i64_w, i32_w]
        rfl
       exact norm_ (by simp only [putAll, Act.put, sq1, sq2, sq3]) (hCont (A7, c7) _ ⟨hHeld, HL7.out, HC7.out, HBq.out⟩)
      ·
       skip
       have hcv := Kd.C_string (P := Tryd.prog) (A := A7) (c := c7) Tryd.underlying23 Tryd.underlying5 Tryd.underlying9 HC7.out
       refine value_ (w1 := ?_) (v := ?_) (by rfl) rfl ?_ ?_
       rotate_left 2
       ·
        go_simp
        constructor
        ·
         rfl
        ·
         rfl
       clear hcv
       refine hK.out _ _ ⟨Cells15.mk_ (blk_below HX.out HBq.out), Cells15.mk_ (blk_below HO.out HBq.out), Cells15.mk_ (blk_below HXX.out HBq.out), Cells15.mk_ (blk_below HYY.out HBq.out)⟩ (fun hHeld => ?_)
       clear hK K
       refine norm_ (a' := ?_) ?_ ?_
       rotate_left
       ·
        show Act.put _ (some 60) _ = _
        simp only [Act.put, sq1, sq2, sq3, i64_w, i32_w]
        rfl
       refine one_ (i := 20) (N := some 57) #[true, true, true, true, true, true, true, true, true, true, true, true, true, true, true, true, true, true, true, true, true, true, true, true, false, false, false, false, false, false, false, false, false, false, false, false, false] rfl rfl (by kernel_rfl) (by decide) (fun K hK => ?_)
       have hcv := own_string (P := Tryd.prog) Tryd.underlying23 Tryd.underlying5 Tryd.underlying9 (Kd.own_of_R HRS.out)
       refine value_ (w1 := ?_) (v := ?_) (by rfl) rfl ?_ ?_
       rotate_left 2
       ·
        go_simp
        constructor
        ·
         rfl
        ·
         rfl
       clear hcv
       refine hK.out _ _ ⟨Cells15.mk_ (blk_below HX.out HBq.out), Cells15.mk_ (blk_below HO.out HBq.out), Cells15.mk_ (blk_below HXX.out HBq.out), Cells15.mk_ (blk_below HYY.out HBq.out)⟩ (fun hHeld => ?_)
       clear hK K
       refine norm_ (a' := ?_) ?_ ?_
       rotate_left
       ·
        show Act.put _ (some 57) _ = _
        simp only [Act.put, sq1, sq2, sq3, i64_w, i32_w]
        rfl
       exact norm_ (by simp only [putAll, Act.put, sq1, sq2, sq3]) (hCont (A7, c7) _ ⟨hHeld, HL7.out, HC7.out, HBq.out⟩)
    rintro ⟨A7, c7⟩ wh ⟨hS_, hl_, hC_, hD_⟩
    have hHeld := hS_
    have HBq := ak hD_
    have HC7 := ak hC_
    clear hS_ hD_ hC_ hl_
    refine norm_ (a' := ?_) ?_ ?_
    rotate_left
    ·
     simp only [putAll, Act.put, sq1, sq2, sq3]
     rfl
    refine pure_ (i := 24) (N := some 61) (v := ?_) (a' := ?_) #[true, true, true, true, true, true, true, true, true, true, true, true, true, true, true, true, true, true, true, true, true, true, true, true, true, false, false, false, false, false, false, false, false, false, false, false, false] rfl rfl (by kernel_rfl) (fun _ _ _ h => h) (Or.inl ⟨by rfl, ?_⟩) ?_ ?_
    rotate_left
    ·
     intro w'
     go_simp
     with_reducible rfl
    rotate_left
    ·
     simp only [Act.put, sq1, sq2, sq3, i64_w, i32_w]
     rfl
    refine pure_ (i := 25) (N := some 62) (v := ?_) (a' := ?_) #[true, true, true, true, true, true, true, true, true, true, true, true, true, true, true, true, true, true, true, true, true, true, true, true, true, true, false, false, false, false, false, false, false, false, false, false, false] rfl rfl (by kernel_rfl) (fun _ _ _ h => h) (Or.inl ⟨by rfl, ?_⟩) ?_ ?_
    rotate_left
    ·
     intro w'
     go_simp
     with_reducible rfl
    rotate_left
    ·
     simp only [Act.put, sq1, sq2, sq3, i64_w, i32_w]
     rfl
    refine pure_ (i := 26) (N := some 63) (v := ?_) (a' := ?_) #[true, true, true, true, true, true, true, true, true, true, true, true, true, true, true, true, true, true, true, true, true, true, true, true, true, true, true, false, false, false, false, false, false, false, false, false, false] rfl rfl (by kernel_rfl) (fun _ _ _ h => h) (Or.inl ⟨by rfl, ?_⟩) ?_ ?_
    rotate_left
    ·
     intro w'
     go_simp
     with_reducible rfl
    rotate_left
    ·
     simp only [Act.put, sq1, sq2, sq3, i64_w, i32_w]
     rfl
    refine take_ (i := 27) (N := some 64) (v := ?_) (a' := ?_) #[true, true, true, true, true, true, true, true, true, true, true, true, true, true, true, true, true, true, true, true, true, true, true, true, true, true, true, true, false, false, false, false, false, false, false, false, false] rfl rfl (by kernel_rfl) (fun _ _ _ h => h) (Or.inl ⟨by rfl, ?_⟩) hHeld ?_ ?_
    rotate_left
    ·
     rintro w' ⟨s, t, x, y⟩
     unfold Cells15 at s t x y
     go_simp
     with_reducible rfl
    rotate_left
    ·
     simp only [Act.put, sq1, sq2, sq3, i64_w, i32_w]
     rfl
    refine take_ (i := 28) (N := some 65) (v := ?_) (a' := ?_) #[true, true, true, true, true, true, true, true, true, true, true, true, true, true, true, true, true, true, true, true, true, true, true, true, true, true, true, true, true, false, false, false, false, false, false, false, false] rfl rfl (by kernel_rfl) (fun _ _ _ h => h) (Or.inl ⟨by rfl, ?_⟩) hHeld ?_ ?_
    rotate_left
    ·
     rintro w' ⟨s, t, x, y⟩
     unfold Cells15 at s t x y
     go_simp
     with_reducible rfl
    rotate_left
    ·
     simp only [Act.put, sq1, sq2, sq3, i64_w, i32_w]
     rfl
    as_aux_lemma =>
     refine one_ (i := 29) (N := some 66) #[true, true, true, true, true, true, true, true, true, true, true, true, true, true, true, true, true, true, true, true, true, true, true, true, true, true, true, true, true, true, false, false, false, false, false, false, false] rfl rfl (by kernel_rfl) (by decide) (fun K hK => ?_)
     have HCT := Lib.hid (show Calls Tryd.prog 16 #[.agg #[.int .i64 y1, .int .i64 y2, .int .i64 y3, .int .i64 y4, .int .i64 y5, .int .i64 y6, .int .i64 y7, .int .i64 y8, .slice D8 y9.length e8, .slice D9 y10.length e9, .int .i64 y11, .int .i64 y12, .int .i64 y13, .int .i64 y14, .slice D14 y15.length e14], .agg #[.int .i64 y1, .int .i64 y2, .int .i64 y3, .int .i64 y4, .int .i64 y5, .int .i64 y6, .int .i64 y7, .int .i64 y8, .slice Z8 y9.length f8, .slice Z9 y10.length f9, .int .i64 y11, .int .i64 y12, .int .i64 y13, .int .i64 y14, .slice Z14 y15.length f14]] wh _ from precentorref04_Same.calls 1 y1 y2 y3 y4 y5 y6 y7 y8 D8 e8 y9 D9 e9 y10 y11 y12 y13 y14 D14 e14 y15 y1 y2 y3 y4 y5 y6 y7 y8 Z8 f8 y9 Z9 f9 y10 y11 y12 y13 y14 Z14 f14 y15 true wh (Kd.C_below X8.out HBq.out) Xl8.out (Kd.C_below X9.out HBq.out) Xl9.out (Kd.C_below X14.out HBq.out) Xl14.out (Kd.C_below Y8.out HBq.out) Yl8.out (Kd.C_below Y9.out HBq.out) Yl9.out (Kd.C_below Y14.out HBq.out) Yl14.out ((if_pos HSM.out).trans (by rw [sameP_refl])))
     refine goes_ Tryd.func16 (by kernel_rfl) rfl #[.agg #[.int .i64 y1, .int .i64 y2, .int .i64 y3, .int .i64 y4, .int .i64 y5, .int .i64 y6, .int .i64 y7, .int .i64 y8, .slice D8 y9.length e8, .slice D9 y10.length e9, .int .i64 y11, .int .i64 y12, .int .i64 y13, .int .i64 y14, .slice D14 y15.length e14], .agg #[.int .i64 y1, .int .i64 y2, .int .i64 y3, .int .i64 y4, .int .i64 y5, .int .i64 y6, .int .i64 y7, .int .i64 y8, .slice Z8 y9.length f8, .slice Z9 y10.length f9, .int .i64 y11, .int .i64 y12, .int .i64 y13, .int .i64 y14, .slice Z14 y15.length f14]] (by rfl) rfl rfl (by simp only [List.map_toArray, List.map_cons, List.map_nil]; rfl) ?_
     with_reducible refine (HCT.out).mono ?_
     rintro e0 wi ⟨rfl, hb⟩
     refine ⟨_, rfl, ?_⟩
     have n0_ := ak (below_step HBq.out hb)
     clear HBq hb HCT
     have HBq := n0_
     clear n0_
     refine hK.out _ _ ⟨Cells15.mk_ (blk_below HX.out HBq.out), Cells15.mk_ (blk_below HO.out HBq.out), Cells15.mk_ (blk_below HXX.out HBq.out), Cells15.mk_ (blk_below HYY.out HBq.out)⟩ (fun hHeld => ?_)
     clear hK K
     refine norm_ (a' := ?_) ?_ ?_
     rotate_left
     ·
      show Act.put _ (some 66) _ = _
      simp only [Act.put, sq1, sq2, sq3, i64_w, i32_w]
      rfl
     refine pure_ (i := 30) (N := some 67) (v := ?_) (a' := ?_) #[true, true, true, true, true, true, true, true, true, true, true, true, true, true, true, true, true, true, true, true, true, true, true, true, true, true, true, true, true, true, true, false, false, false, false, false, false] rfl rfl (by kernel_rfl) (fun _ _ _ h => h) (Or.inl ⟨by rfl, ?_⟩) ?_ ?_
     rotate_left
     ·
      intro w'
      go_simp
      with_reducible rfl
     rotate_left
     ·
      simp only [Act.put, sq1, sq2, sq3, i64_w, i32_w]
      rfl
     refine pure_ (i := 31) (N := some 68) (v := ?_) (a' := ?_) #[true, true, true, true, true, true, true, true, true, true, true, true, true, true, true, true, true, true, true, true, true, true, true, true, true, true, true, true, true, true, true, true, false, false, false, false, false] rfl rfl (by kernel_rfl) (fun _ _ _ h => h) (Or.inl ⟨by rfl, ?_⟩) ?_ ?_
     rotate_left
     ·
      intro w'
      go_simp
      with_reducible rfl
     rotate_left
     ·
      simp only [Act.put, sq1, sq2, sq3, i64_w, i32_w]
      rfl
     refine pure_ (i := 32) (N := some 69) (v := ?_) (a' := ?_) #[true, true, true, true, true, true, true, true, true, true, true, true, true, true, true, true, true, true, true, true, true, true, true, true, true, true, true, true, true, true, true, true, true, false, false, false, false] rfl rfl (by kernel_rfl) (fun _ _ _ h => h) (Or.inl ⟨by rfl, ?_⟩) ?_ ?_
     rotate_left
     ·
      intro w'
      go_simp
      with_reducible rfl
     rotate_left
     ·
      simp only [Act.put, sq1, sq2, sq3, i64_w, i32_w]
      rfl
     refine pure_ (i := 33) (N := some 70) (v := ?_) (a' := ?_) #[true, true, true, true, true, true, true, true, true, true, true, true, true, true, true, true, true, true, true, true, true, true, true, true, true, true, true, true, true, true, true, true, true, true, false, false, false] rfl rfl (by kernel_rfl) (fun _ _ _ h => h) (Or.inl ⟨by rfl, ?_⟩) ?_ ?_
     rotate_left
     ·
      intro w'
      go_simp
      with_reducible rfl
     rotate_left
     ·
      simp only [Act.put, sq1, sq2, sq3, i64_w, i32_w]
      rfl
     refine pure_ (i := 34) (N := some 71) (v := ?_) (a' := ?_) #[true, true, true, true, true, true, true, true, true, true, true, true, true, true, true, true, true, true, true, true, true, true, true, true, true, true, true, true, true, true, true, true, true, true, true, false, false] rfl rfl (by kernel_rfl) (fun _ _ _ h => h) (Or.inl ⟨by rfl, ?_⟩) ?_ ?_
     rotate_left
     ·
      intro w'
      go_simp
      with_reducible rfl
     rotate_left
     ·
      simp only [Act.put, sq1, sq2, sq3, i64_w, i32_w]
      rfl
     refine pure_ (i := 35) (N := some 72) (v := ?_) (a' := ?_) #[true, true, true, true, true, true, true, true, true, true, true, true, true, true, true, true, true, true, true, true, true, true, true, true, true, true, true, true, true, true, true, true, true, true, true, true, false] rfl rfl (by kernel_rfl) (fun _ _ _ h => h) (Or.inl ⟨by rfl, ?_⟩) ?_ ?_
     rotate_left
     ·
      intro w'
      go_simp
      with_reducible rfl
     rotate_left
     ·
      simp only [Act.put, sq1, sq2, sq3, i64_w, i32_w]
      rfl
     refine pure_ (i := 36) (N := some 6) (v := ?_) (a' := ?_) #[true, true, true, true, true, true, true, true, true, true, true, true, true, true, true, true, true, true, true, true, true, true, true, true, true, true, true, true, true, true, true, true, true, true, true, true, true] rfl rfl (by kernel_rfl) (fun _ _ _ h => h) (Or.inl ⟨by rfl, ?_⟩) ?_ ?_
     rotate_left
     ·
      intro w'
      go_simp
      with_reducible rfl
     rotate_left
     ·
      simp only [Act.put, sq1, sq2, sq3, i64_w, i32_w]
      rfl
     refine done_ (by kernel_rfl) ?_
     clear hHeld
     exact ⟨rfl, rfl, HBq.out⟩
set_option maxRecDepth 100000 in
set_option maxHeartbeats 40000000 in
theorem precentorlaw04_PktTells.is (kd fr k s e i t c : Int) (A8 : Option Addr) (c8 : Nat) (L : List Int) (A9 : Option Addr) (c9 : Nat) (bo : List Int) (T O M P : Int) (A14 : Option Addr) (c14 : Nat) (R : List Int) (kd' fr' k' s' e' i' t' c' : Int) (B8 : Option Addr) (d8 : Nat) (L' : List Int) (B9 : Option Addr) (d9 : Nat) (bo' : List Int) (T' O' M' P' : Int) (B14 : Option Addr) (d14 : Nat) (R' : List Int) (Ab : Option Addr) (cb : Nat) (b : List Int) (w : World) (h8 : Kd.C (Kd.int .i64) w A8 L.length L) (l8 : L.length ≤ c8) (h9 : Kd.C (Kd.int .u8) w A9 bo.length bo) (l9 : bo.length ≤ c9) (h14 : Kd.C (Kd.int .i64) w A14 R.length R) (l14 : R.length ≤ c14) (g8 : Kd.C (Kd.int .i64) w B8 L'.length L') (m8 : L'.length ≤ d8) (g9 : Kd.C (Kd.int .u8) w B9 bo'.length bo') (m9 : bo'.length ≤ d9) (g14 : Kd.C (Kd.int .i64) w B14 R'.length R') (m14 : R'.length ≤ d14) (hb : Kd.C (Kd.int .u8) w Ab b.length b) (lb : b.length ≤ cb) (hG : GB w) (hk : (Lit.int .i64 k).wf = true) (hk' : (Lit.int .i64 k').wf = true) (hbo : By bo) (hbo' : By bo') (hbb : By b) :
  Calls Tryd.prog 3 #[.agg #[.int .i64 kd, .int .i64 fr, .int .i64 k, .int .i64 s, .int .i64 e, .int .i64 i, .int .i64 t, .int .i64 c, .slice A8 L.length c8, .slice A9 bo.length c9, .int .i64 T, .int .i64 O, .int .i64 M, .int .i64 P, .slice A14 R.length c14], .agg #[.int .i64 kd', .int .i64 fr', .int .i64 k', .int .i64 s', .int .i64 e', .int .i64 i', .int .i64 t', .int .i64 c', .slice B8 L'.length d8, .slice B9 bo'.length d9, .int .i64 T', .int .i64 O', .int .i64 M', .int .i64 P', .slice B14 R'.length d14], .slice Ab b.length cb] w fun e' w' => e' = .returned (.bool true) ∧ Below w.heap.size w w' := by
 obtain ⟨w0, hw0, hB0, X0, Y0⟩ := boxes15 w #[.int .i64 kd, .int .i64 fr, .int .i64 k, .int .i64 s, .int .i64 e, .int .i64 i, .int .i64 t, .int .i64 c, .slice A8 L.length c8, .slice A9 bo.length c9, .int .i64 T, .int .i64 O, .int .i64 M, .int .i64 P, .slice A14 R.length c14] #[.int .i64 kd', .int .i64 fr', .int .i64 k', .int .i64 s', .int .i64 e', .int .i64 i', .int .i64 t', .int .i64 c', .slice B8 L'.length d8, .slice B9 bo'.length d9, .int .i64 T', .int .i64 O', .int .i64 M', .int .i64 P', .slice B14 R'.length d14]
 have HB := ak hB0
 have HX := ak X0
 have HO := ak Y0
 have H8 := ak (Kd.C_below h8 hB0)
 have H9 := ak (Kd.C_below h9 hB0)
 have H14 := ak (Kd.C_below h14 hB0)
 have G8 := ak (Kd.C_below g8 hB0)
 have G9 := ak (Kd.C_below g9 hB0)
 have G14 := ak (Kd.C_below g14 hB0)
 have HBR := ak (Kd.C_below hb hB0)
 have HG := Lib.hid hG
 have HK := Lib.hid hk
 have HK' := Lib.hid hk'
 have HBO := Lib.hid hbo
 have HBO' := Lib.hid hbo'
 have HBB := Lib.hid hbb
 have HLB := Lib.hid lb
 have HC8 := Lib.hid l8
 have HC9 := Lib.hid l9
 have HC14 := Lib.hid l14
 have GC8 := Lib.hid m8
 have GC9 := Lib.hid m9
 have GC14 := Lib.hid m14
 clear hB0 X0 Y0 h8 h9 h14 g8 g9 g14 hb hG hk hk' hbo hbo' hbb lb l8 l9 l14 m8 m9 m14
 go_enter Tryd.func3, Tryd.ntmps3
 go_wp2_with fail
 refine (show Calls Tryd.prog 9 #[] w0 _ from precentorlaw04_shown.calls true w0 (GB.below HG.out HB.out) rfl).mono ?_
 rintro e_ w1 ⟨rfl, hb⟩
 have n0_ := ak (below_step HB.out hb)
 have n1_ := ak (blk_below HX.out hb)
 have n2_ := ak (blk_below HO.out hb)
 have n3_ := ak (Kd.C_below H8.out hb)
 have n4_ := ak (Kd.C_below H9.out hb)
 have n5_ := ak (Kd.C_below H14.out hb)
 have n6_ := ak (Kd.C_below G8.out hb)
 have n7_ := ak (Kd.C_below G9.out hb)
 have n8_ := ak (Kd.C_below G14.out hb)
 have n9_ := ak (Kd.C_below HBR.out hb)
 clear HB HX HO H8 H9 H14 G8 G9 G14 HBR
 have HB := n0_
 have HX := n1_
 have HO := n2_
 have H8 := n3_
 have H9 := n4_
 have H14 := n5_
 have G8 := n6_
 have G9 := n7_
 have G14 := n8_
 have HBR := n9_
 clear n0_ n1_ n2_ n3_ n4_ n5_ n6_ n7_ n8_ n9_
 clear hb hw0
 obtain ⟨⟨q0, q1, q2, q3, q4, q5, q6, q7, q8, q9, q10, q11, q12, q13, q14⟩, ⟨qf0, qf1, qf2, qf3, qf4, qf5, qf6, qf7, qf8, qf9, qf10, qf11, qf12, qf13, qf14⟩⟩ := cells15 HX.out
 obtain ⟨fw, hfw⟩ : ∃ b, (decide (L.length ≤ 80) && decide (bo.length ≤ 1100) && decide (R.length ≤ 80)) = b := ⟨_, rfl⟩
 have HFW := Lib.hid hfw
 have HCT := Lib.hid (show Calls Tryd.prog 10 #[.agg #[.int .i64 kd, .int .i64 fr, .int .i64 k, .int .i64 s, .int .i64 e, .int .i64 i, .int .i64 t, .int .i64 c, .slice A8 L.length c8, .slice A9 bo.length c9, .int .i64 T, .int .i64 O, .int .i64 M, .int .i64 P, .slice A14 R.length c14]] w1 _ from precentorref04_Few.calls kd fr k s e i t c A8 c8 L A9 c9 bo T O M P A14 c14 R fw w1 H8.out HC8.out H9.out HC9.out H14.out HC14.out (by rw [few4_is, hfw]))
 clear hfw
 go_wp2_with fail
 refine HCT.out.mono ?_
 rintro e_ w2 ⟨rfl, hb⟩
 clear HCT q0 qf0 q1 qf1 q2 qf2 q3 qf3 q4 qf4 q5 qf5 q6 qf6 q7 qf7 q8 qf8 q9 qf9 q10 qf10 q11 qf11 q12 qf12 q13 qf13 q14 qf14
 have n0_ := ak (below_step HB.out hb)
 have n1_ := ak (blk_below HX.out hb)
 have n2_ := ak (blk_below HO.out hb)
 have n3_ := ak (Kd.C_below H8.out hb)
 have n4_ := ak (Kd.C_below H9.out hb)
 have n5_ := ak (Kd.C_below H14.out hb)
 have n6_ := ak (Kd.C_below G8.out hb)
 have n7_ := ak (Kd.C_below G9.out hb)
 have n8_ := ak (Kd.C_below G14.out hb)
 have n9_ := ak (Kd.C_below HBR.out hb)
 clear HB HX HO H8 H9 H14 G8 G9 G14 HBR
 have HB := n0_
 have HX := n1_
 have HO := n2_
 have H8 := n3_
 have H9 := n4_
 have H14 := n5_
 have G8 := n6_
 have G9 := n7_
 have G14 := n8_
 have HBR := n9_
 clear n0_ n1_ n2_ n3_ n4_ n5_ n6_ n7_ n8_ n9_
 cases fw
 ·
  go_wp2_with fail
  go_ret
  exact ⟨rfl, HB.out⟩
 have hfw := HFW.out
 rw [Bool.and_eq_true, Bool.and_eq_true, decide_eq_true_eq, decide_eq_true_eq, decide_eq_true_eq] at hfw
 clear HFW
 have HFW1 := Lib.hid hfw
 clear hfw
 clear hb
 obtain ⟨⟨p0, p1, p2, p3, p4, p5, p6, p7, p8, p9, p10, p11, p12, p13, p14⟩, ⟨pf0, pf1, pf2, pf3, pf4, pf5, pf6, pf7, pf8, pf9, pf10, pf11, pf12, pf13, pf14⟩⟩ := cells15 HO.out
 obtain ⟨fw, hfw⟩ : ∃ b, (decide (L'.length ≤ 80) && decide (bo'.length ≤ 1100) && decide (R'.length ≤ 80)) = b := ⟨_, rfl⟩
 have HFW := Lib.hid hfw
 have HCT := Lib.hid (show Calls Tryd.prog 10 #[.agg #[.int .i64 kd', .int .i64 fr', .int .i64 k', .int .i64 s', .int .i64 e', .int .i64 i', .int .i64 t', .int .i64 c', .slice B8 L'.length d8, .slice B9 bo'.length d9, .int .i64 T', .int .i64 O', .int .i64 M', .int .i64 P', .slice B14 R'.length d14]] w2 _ from precentorref04_Few.calls kd' fr' k' s' e' i' t' c' B8 d8 L' B9 d9 bo' T' O' M' P' B14 d14 R' fw w2 G8.out GC8.out G9.out GC9.out G14.out GC14.out (by rw [few4_is, hfw]))
 clear hfw
 go_wp2_with fail
 refine HCT.out.mono ?_
 rintro e_ w3 ⟨rfl, hb⟩
 clear HCT p0 pf0 p1 pf1 p2 pf2 p3 pf3 p4 pf4 p5 pf5 p6 pf6 p7 pf7 p8 pf8 p9 pf9 p10 pf10 p11 pf11 p12 pf12 p13 pf13 p14 pf14
 have n0_ := ak (below_step HB.out hb)
 have n1_ := ak (blk_below HX.out hb)
 have n2_ := ak (blk_below HO.out hb)
 have n3_ := ak (Kd.C_below H8.out hb)
 have n4_ := ak (Kd.C_below H9.out hb)
 have n5_ := ak (Kd.C_below H14.out hb)
 have n6_ := ak (Kd.C_below G8.out hb)
 have n7_ := ak (Kd.C_below G9.out hb)
 have n8_ := ak (Kd.C_below G14.out hb)
 have n9_ := ak (Kd.C_below HBR.out hb)
 clear HB HX HO H8 H9 H14 G8 G9 G14 HBR
 have HB := n0_
 have HX := n1_
 have HO := n2_
 have H8 := n3_
 have H9 := n4_
 have H14 := n5_
 have G8 := n6_
 have G9 := n7_
 have G14 := n8_
 have HBR := n9_
 clear n0_ n1_ n2_ n3_ n4_ n5_ n6_ n7_ n8_ n9_
 cases fw
 ·
  go_wp2_with fail
  go_ret
  exact ⟨rfl, HB.out⟩
 have hfw := HFW.out
 rw [Bool.and_eq_true, Bool.and_eq_true, decide_eq_true_eq, decide_eq_true_eq, decide_eq_true_eq] at hfw
 clear HFW
 have HFW2 := Lib.hid hfw
 clear hfw
 clear hb
 by_cases hlb : (b.length : Int) > 1300
 ·
  have a1 : decide ((b.length : Int) > 1300) = true := decide_eq_true hlb
  have a2 : decide ((1300 : Int) < (b.length : Int)) = true := decide_eq_true hlb
  have a3 : decide (1300 < b.length) = true := decide_eq_true (by omega)
  clear hlb
  go_wp2_with fail
  go_ret
  exact ⟨rfl, HB.out⟩
 have a1 : decide ((b.length : Int) > 1300) = false := decide_eq_false hlb
 have a2 : decide ((1300 : Int) < (b.length : Int)) = false := decide_eq_false hlb
 have a3 : decide (1300 < b.length) = false := decide_eq_false (by omega)
 have HBL := Lib.hid (show b.length ≤ 1300 by omega)
 clear hlb
 obtain ⟨y1, y2, y3, y4, y5, y6, y7, y8, y9, y10, y11, y12, y13, y14, y15, y16, hy⟩ : ∃ y1 y2 y3 y4 y5 y6 y7 y8 y9 y10 y11 y12 y13 y14 y15 y16, readP b = (y1, y2, y3, y4, y5, y6, y7, y8, y9, y10, y11, y12, y13, y14, y15, y16) := ⟨_, _, _, _, _, _, _, _, _, _, _, _, _, _, _, _, rfl⟩
 have HYR := Lib.hid hy
 have HSM := Lib.hid (read_small_ HBB.out (by have := HBL.out; omega) hy)
 clear hy
 have HCT := Lib.hid (show Calls Tryd.prog 11 #[.slice Ab b.length cb] w3 _ from pkt_Read.calls Ab cb b _ _ _ _ _ _ _ _ _ _ _ _ _ _ _ _ w3 HBR.out HLB.out (GB.below HG.out HB.out) (by rw [okRead HBB.out (by have := HBL.out; omega), HYR.out]))
 go_wp2_with fail
 clear a1 a2 a3
 refine HCT.out.mono ?_
 rintro e_ w4 ⟨v8, v9, v14, rfl, h8, h9, h14, hb⟩
 obtain ⟨D8, e8, rfl, l8_, C8_⟩ := Kd.R_reads h8
 obtain ⟨D9, e9, rfl, l9_, C9_⟩ := Kd.R_reads h9
 obtain ⟨D14, e14, rfl, l14_, C14_⟩ := Kd.R_reads h14
 clear HCT h8 h9 h14
 have n0_ := ak (below_step HB.out hb)
 have n1_ := ak (blk_below HX.out hb)
 have n2_ := ak (blk_below HO.out hb)
 have n3_ := ak (Kd.C_below H8.out hb)
 have n4_ := ak (Kd.C_below H9.out hb)
 have n5_ := ak (Kd.C_below H14.out hb)
 have n6_ := ak (Kd.C_below G8.out hb)
 have n7_ := ak (Kd.C_below G9.out hb)
 have n8_ := ak (Kd.C_below G14.out hb)
 have n9_ := ak (Kd.C_below HBR.out hb)
 clear HB HX HO H8 H9 H14 G8 G9 G14 HBR
 have HB := n0_
 have HX := n1_
 have HO := n2_
 have H8 := n3_
 have H9 := n4_
 have H14 := n5_
 have G8 := n6_
 have G9 := n7_
 have G14 := n8_
 have HBR := n9_
 clear n0_ n1_ n2_ n3_ n4_ n5_ n6_ n7_ n8_ n9_
 clear hb
 have X8 := ak C8_
 have X9 := ak C9_
 have X14 := ak C14_
 have Xl8 := Lib.hid l8_
 have Xl9 := Lib.hid l9_
 have Xl14 := Lib.hid l14_
 clear C8_ C9_ C14_ l8_ l9_ l14_
 obtain ⟨u1, hu, hBu, hsu, Xu⟩ := boxed15 w4 (.int .i64 0) (.int .i64 0) (.int .i64 0) (.int .i64 0) (.int .i64 0) (.int .i64 0) (.int .i64 0) (.int .i64 0) (.slice none 0 0) (.slice none 0 0) (.int .i64 0) (.int .i64 0) (.int .i64 0) (.int .i64 0) (.slice none 0 0)
 obtain ⟨⟨q0, q1, q2, q3, q4, q5, q6, q7, q8, q9, q10, q11, q12, q13, q14⟩, ⟨qf0, qf1, qf2, qf3, qf4, qf5, qf6, qf7, qf8, qf9, qf10, qf11, qf12, qf13, qf14⟩⟩ := cells15 Xu
 have HBu := ak hBu
 have HXu := ak Xu
 clear hBu Xu
 go_upto_region 5 with fail
 clear q0 qf0 q1 qf1 q2 qf2 q3 qf3 q4 qf4 q5 qf5 q6 qf6 q7 qf7 q8 qf8 q9 qf9 q10 qf10 q11 qf11 q12 qf12 q13 qf13 q14 qf14
 obtain ⟨w5, hv, Xv, hmv⟩ := box15 HXu.out (.int .i64 y1) (.int .i64 y2) (.int .i64 y3) (.int .i64 y4) (.int .i64 y5) (.int .i64 y6) (.int .i64 y7) (.int .i64 y8) (.slice D8 y9.length e8) (.slice D9 y10.length e9) (.int .i64 y11) (.int .i64 y12) (.int .i64 y13) (.int .i64 y14) (.slice D14 y15.length e14)
 rw [hv]
 clear hv hu
 have hBv : Below w4.heap.size w4 w5 := Mv.to HBu.out hmv (fun k hk => by omega) HBu.out.size
 have HXX := ak Xv
 clear Xv HXu HBu hmv hsu
 have n0_ := ak (below_step HB.out hBv)
 have n1_ := ak (blk_below HX.out hBv)
 have n2_ := ak (blk_below HO.out hBv)
 have n3_ := ak (Kd.C_below H8.out hBv)
 have n4_ := ak (Kd.C_below H9.out hBv)
 have n5_ := ak (Kd.C_below H14.out hBv)
 have n6_ := ak (Kd.C_below G8.out hBv)
 have n7_ := ak (Kd.C_below G9.out hBv)
 have n8_ := ak (Kd.C_below G14.out hBv)
 have n9_ := ak (Kd.C_below HBR.out hBv)
 have n10_ := ak (Kd.C_below X8.out hBv)
 have n11_ := ak (Kd.C_below X9.out hBv)
 have n12_ := ak (Kd.C_below X14.out hBv)
 clear HB HX HO H8 H9 H14 G8 G9 G14 HBR X8 X9 X14
 have HB := n0_
 have HX := n1_
 have HO := n2_
 have H8 := n3_
 have H9 := n4_
 have H14 := n5_
 have G8 := n6_
 have G9 := n7_
 have G14 := n8_
 have HBR := n9_
 have X8 := n10_
 have X9 := n11_
 have X14 := n12_
 clear n0_ n1_ n2_ n3_ n4_ n5_ n6_ n7_ n8_ n9_ n10_ n11_ n12_
 clear hBv u1
 generalize w4.heap.size = gx at *
 have HCT := Lib.hid (show Calls Tryd.prog 12 #[.slice Ab b.length cb] w5 _ from precentorref04_Read.calls Ab cb b _ _ _ _ _ _ _ _ _ _ _ _ _ _ _ _ w5 HBR.out HLB.out (by rw [okRead4_ HBB.out (by have := HBL.out; omega), HYR.out]))
 go_wp2_with fail
 refine HCT.out.mono ?_
 rintro e_ w7 ⟨v8, v9, v14, rfl, h8, h9, h14, hb⟩
 obtain ⟨Z8, f8, rfl, l8_, C8_⟩ := Kd.R_reads h8
 obtain ⟨Z9, f9, rfl, l9_, C9_⟩ := Kd.R_reads h9
 obtain ⟨Z14, f14, rfl, l14_, C14_⟩ := Kd.R_reads h14
 clear HCT h8 h9 h14
 have n0_ := ak (below_step HB.out hb)
 have n1_ := ak (blk_below HX.out hb)
 have n2_ := ak (blk_below HO.out hb)
 have n3_ := ak (Kd.C_below H8.out hb)
 have n4_ := ak (Kd.C_below H9.out hb)
 have n5_ := ak (Kd.C_below H14.out hb)
 have n6_ := ak (Kd.C_below G8.out hb)
 have n7_ := ak (Kd.C_below G9.out hb)
 have n8_ := ak (Kd.C_below G14.out hb)
 have n9_ := ak (Kd.C_below HBR.out hb)
 have n10_ := ak (blk_below HXX.out hb)
 have n11_ := ak (Kd.C_below X8.out hb)
 have n12_ := ak (Kd.C_below X9.out hb)
 have n13_ := ak (Kd.C_below X14.out hb)
 clear HB HX HO H8 H9 H14 G8 G9 G14 HBR HXX X8 X9 X14
 have HB := n0_
 have HX := n1_
 have HO := n2_
 have H8 := n3_
 have H9 := n4_
 have H14 := n5_
 have G8 := n6_
 have G9 := n7_
 have G14 := n8_
 have HBR := n9_
 have HXX := n10_
 have X8 := n11_
 have X9 := n12_
 have X14 := n13_
 clear n0_ n1_ n2_ n3_ n4_ n5_ n6_ n7_ n8_ n9_ n10_ n11_ n12_ n13_
 clear hb
 have Y8 := ak C8_
 have Y9 := ak C9_
 have Y14 := ak C14_
 have Yl8 := Lib.hid l8_
 have Yl9 := Lib.hid l9_
 have Yl14 := Lib.hid l14_
 clear C8_ C9_ C14_ l8_ l9_ l14_
 obtain ⟨u2, hu, hBu, hsu, Xu⟩ := boxed15 w7 (.int .i64 0) (.int .i64 0) (.int .i64 0) (.int .i64 0) (.int .i64 0) (.int .i64 0) (.int .i64 0) (.int .i64 0) (.slice none 0 0) (.slice none 0 0) (.int .i64 0) (.int .i64 0) (.int .i64 0) (.int .i64 0) (.slice none 0 0)
 obtain ⟨⟨q0, q1, q2, q3, q4, q5, q6, q7, q8, q9, q10, q11, q12, q13, q14⟩, ⟨qf0, qf1, qf2, qf3, qf4, qf5, qf6, qf7, qf8, qf9, qf10, qf11, qf12, qf13, qf14⟩⟩ := cells15 Xu
 have HBu := ak hBu
 have HXu := ak Xu
 clear hBu Xu
 go_upto_region 6 with fail
 clear q0 qf0 q1 qf1 q2 qf2 q3 qf3 q4 qf4 q5 qf5 q6 qf6 q7 qf7 q8 qf8 q9 qf9 q10 qf10 q11 qf11 q12 qf12 q13 qf13 q14 qf14
 obtain ⟨w9, hv, Xv, hmv⟩ := box15 HXu.out (.int .i64 y1) (.int .i64 y2) (.int .i64 y3) (.int .i64 y4) (.int .i64 y5) (.int .i64 y6) (.int .i64 y7) (.int .i64 y8) (.slice Z8 y9.length f8) (.slice Z9 y10.length f9) (.int .i64 y11) (.int .i64 y12) (.int .i64 y13) (.int .i64 y14) (.slice Z14 y15.length f14)
 rw [hv]
 clear hv hu
 have hBv : Below w7.heap.size w7 w9 := Mv.to HBu.out hmv (fun k hk => by omega) HBu.out.size
 have HYY := ak Xv
 clear Xv HXu HBu hmv hsu
 have n0_ := ak (below_step HB.out hBv)
 have n1_ := ak (blk_below HX.out hBv)
 have n2_ := ak (blk_below HO.out hBv)
 have n3_ := ak (Kd.C_below H8.out hBv)
 have n4_ := ak (Kd.C_below H9.out hBv)
 have n5_ := ak (Kd.C_below H14.out hBv)
 have n6_ := ak (Kd.C_below G8.out hBv)
 have n7_ := ak (Kd.C_below G9.out hBv)
 have n8_ := ak (Kd.C_below G14.out hBv)
 have n9_ := ak (Kd.C_below HBR.out hBv)
 have n10_ := ak (blk_below HXX.out hBv)
 have n11_ := ak (Kd.C_below X8.out hBv)
 have n12_ := ak (Kd.C_below X9.out hBv)
 have n13_ := ak (Kd.C_below X14.out hBv)
 have n14_ := ak (Kd.C_below Y8.out hBv)
 have n15_ := ak (Kd.C_below Y9.out hBv)
 have n16_ := ak (Kd.C_below Y14.out hBv)
 clear HB HX HO H8 H9 H14 G8 G9 G14 HBR HXX X8 X9 X14 Y8 Y9 Y14
 have HB := n0_
 have HX := n1_
 have HO := n2_
 have H8 := n3_
 have H9 := n4_
 have H14 := n5_
 have G8 := n6_
 have G9 := n7_
 have G14 := n8_
 have HBR := n9_
 have HXX := n10_
 have X8 := n11_
 have X9 := n12_
 have X14 := n13_
 have Y8 := n14_
 have Y9 := n15_
 have Y14 := n16_
 clear n0_ n1_ n2_ n3_ n4_ n5_ n6_ n7_ n8_ n9_ n10_ n11_ n12_ n13_ n14_ n15_ n16_
 clear hBv u2
 generalize w7.heap.size = gy at *
 clear HYR HLB HBB HBL HBR
 refine wp_mono (precentorlaw04_PktTells.last kd fr k s e i t c A8 c8 L A9 c9 bo T O M P A14 c14 R kd' fr' k' s' e' i' t' c' B8 d8 L' B9 d9 bo' T' O' M' P' B14 d14 R' y1 y2 y3 y4 y5 y6 y7 y8 y9 y10 y11 y12 y13 y14 y15 y16 D8 e8 D9 e9 D14 e14 Z8 f8 Z9 f9 Z14 f14 w.heap.size (w.heap.size + 1) gx gy _ _ _ _ _ _ _ _ _ _ _ _ _ _ _ _ _ _ _ _ _ _ _ _ _ _ _ _ _ _ _ _ _ _ _ _ _ _ _ _ _ _ _ _ _ _ _ _ _ _ _ _ _ _ _ _ _ _ _ _ _ _ _ _ _ _ w9 H8.out HC8.out H9.out HC9.out H14.out HC14.out G8.out GC8.out G9.out GC9.out G14.out GC14.out X8.out Xl8.out X9.out Xl9.out X14.out Xl14.out Y8.out Yl8.out Y9.out Yl9.out Y14.out Yl14.out (GB.below HG.out HB.out) HK.out HBO.out (by have := HFW1.out; omega) HSM.out HX.out HO.out HXX.out HYY.out) ?_
 intro e_ a_ W_ h_
 obtain ⟨rfl, ht, hd, hb⟩ : e_ = .normal ∧ a_.tmps[6]? = some (.bool true) ∧ a_.defers = [] ∧ Below w9.heap.size w9 W_ := by cases e_ <;> first | exact ⟨rfl, h_⟩ | exact h_.elim
 clear h_
 refine ‹∀ (a : Act) (w' : World), _ → _› _ _ ?_
 refine wp_ret ?_
 change bodyPost _ _ (fun e w' => e = .returned (.bool true) ∧ Below w.heap.size w w') Exit.ret _ _
 exact bodyPost_ret (v := .bool true) (by simp [results, Tryd.results3, go_sem, ht]) hd ⟨rfl, below_step HB.out hb⟩
theorem precentorlaw04_PktTells.calls (kd fr k s e i t c : Int) (A8 : Option Addr) (c8 : Nat) (L : List Int) (A9 : Option Addr) (c9 : Nat) (bo : List Int) (T O M P : Int) (A14 : Option Addr) (c14 : Nat) (R : List Int) (kd' fr' k' s' e' i' t' c' : Int) (B8 : Option Addr) (d8 : Nat) (L' : List Int) (B9 : Option Addr) (d9 : Nat) (bo' : List Int) (T' O' M' P' : Int) (B14 : Option Addr) (d14 : Nat) (R' : List Int) (Ab : Option Addr) (cb : Nat) (b : List Int) (r : Bool) (w : World) (h8 : Kd.C (Kd.int .i64) w A8 L.length L) (l8 : L.length ≤ c8) (h9 : Kd.C (Kd.int .u8) w A9 bo.length bo) (l9 : bo.length ≤ c9) (h14 : Kd.C (Kd.int .i64) w A14 R.length R) (l14 : R.length ≤ c14) (g8 : Kd.C (Kd.int .i64) w B8 L'.length L') (m8 : L'.length ≤ d8) (g9 : Kd.C (Kd.int .u8) w B9 bo'.length bo') (m9 : bo'.length ≤ d9) (g14 : Kd.C (Kd.int .i64) w B14 R'.length R') (m14 : R'.length ≤ d14) (hb : Kd.C (Kd.int .u8) w Ab b.length b) (lb : b.length ≤ cb) (hG : GB w) (h : precentorlaw04_PktTells.f kd fr k s e i t c L bo T O M P R kd' fr' k' s' e' i' t' c' L' bo' T' O' M' P' R' b = some r) :
  Calls Tryd.prog 3 #[.agg #[.int .i64 kd, .int .i64 fr, .int .i64 k, .int .i64 s, .int .i64 e, .int .i64 i, .int .i64 t, .int .i64 c, .slice A8 L.length c8, .slice A9 bo.length c9, .int .i64 T, .int .i64 O, .int .i64 M, .int .i64 P, .slice A14 R.length c14], .agg #[.int .i64 kd', .int .i64 fr', .int .i64 k', .int .i64 s', .int .i64 e', .int .i64 i', .int .i64 t', .int .i64 c', .slice B8 L'.length d8, .slice B9 bo'.length d9, .int .i64 T', .int .i64 O', .int .i64 M', .int .i64 P', .slice B14 R'.length d14], .slice Ab b.length cb] w fun e' w' => e' = .returned (.bool r) ∧ Below w.heap.size w w' := by
 unfold precentorlaw04_PktTells.f at h
 split at h
 ·
  rename_i hc
  obtain rfl := Option.some.inj h
  exact precentorlaw04_PktTells.is kd fr k s e i t c A8 c8 L A9 c9 bo T O M P A14 c14 R kd' fr' k' s' e' i' t' c' B8 d8 L' B9 d9 bo' T' O' M' P' B14 d14 R' Ab cb b w h8 l8 h9 l9 h14 l14 g8 m8 g9 m9 g14 m14 hb lb hG hc.1 hc.2.1 hc.2.2.1 hc.2.2.2.1 hc.2.2.2.2
 ·
  cases h

end Go.Proofs.YtieolhhokepkjaaDoor.Print
