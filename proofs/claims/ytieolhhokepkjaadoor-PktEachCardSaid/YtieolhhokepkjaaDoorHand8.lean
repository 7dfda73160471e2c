/- What item.Bytes gives: an item's bytes, if it may be; and that a call does just that. Conditions stand in each theorem. -/
import Derived.Test.YtieolhhokepkjaaDoorHand6
import Derived.Test.YtieolhhokepkjaaDoorHand5
import Derived.Test.YtieolhhokepkjaaDoorNumRef
namespace Go.Proofs.YtieolhhokepkjaaDoor.Print
set_option linter.unusedVariables false
set_option linter.unusedSimpArgs false
open Go.RowKit Go.Proofs.YtieolhhokepkjaaDoorW.PrintWords Go.Proofs.YtieolhhokepkjaaDoorW.PrintLast Go.Proofs.YtieolhhokepkjaaDoorW.PrintMore Go.Proofs.YtieolhhokepkjaaDoor.NumPlain
theorem C_rows3 {w : World} {g : Nat} {t : TypeId} {A1 A2 A3 : Option Addr} {c1 c2 c3 : Nat} {p1 p2 p3 : List Int} (h : w.heap[g]? = some (.cells #[.slice A1 p1.length c1, .slice A2 p2.length c2, .slice A3 p3.length c3] t (0, 0)))
  (l1 : p1.length ≤ c1) (h1 : Kd.C (Kd.int .u8) w A1 p1.length p1) (l2 : p2.length ≤ c2) (h2 : Kd.C (Kd.int .u8) w A2 p2.length p2) (l3 : p3.length ≤ c3) (h3 : Kd.C (Kd.int .u8) w A3 p3.length p3) :
  Kd.C (Kd.slice 5 (Kd.int .u8)) w (some ⟨g, 0, none⟩) 3 [p1, p2, p3] := by
 refine ⟨rfl, by omega, fun _ => ⟨_, rfl, fun j p hp => ?_⟩⟩
 have hk : ∀ (i : Nat) (v : Value), #[.slice A1 p1.length c1, .slice A2 p2.length c2, .slice A3 p3.length c3][i]? = some v → ∀ (j' : Nat) (u : Value), [v][j']? = some u → w.cell? ((⟨g, 0, none⟩ : Addr).add (i * 1 + j')) = some u := by
  intro i v hv j' u hu
  have hj : j' = 0 := by
   have := (List.getElem?_eq_some_iff.1 hu).1
   simp at this
   exact this
  subst hj
  simp at hu
  subst hu
  rw [show ((⟨g, 0, none⟩ : Addr).add (i * 1 + 0)) = ⟨g, i, none⟩ by simp [Addr.add]; omega, blk_cell h]
  exact hv
 rcases j with _ | _ | _ | j
 ·
  simp at hp; subst hp; exact ⟨_, rfl, ⟨A1, c1, rfl, l1, h1⟩, hk 0 _ rfl⟩
 ·
  simp at hp; subst hp; exact ⟨_, rfl, ⟨A2, c2, rfl, l2, h2⟩, hk 1 _ rfl⟩
 ·
  simp at hp; subst hp; exact ⟨_, rfl, ⟨A3, c3, rfl, l3, h3⟩, hk 2 _ rfl⟩
 ·
  simp at hp
/-- What stands behind an item's head. -/
def tailOf (k i t c : Int) (L bo : List Int) : List Int :=
 if k = 1 then enc 1 i ++ enc 1 t ++ bo else if k = 2 then enc 1 i ++ flat 1 L else if k = 4 then enc 1 i else if k = 5 then enc 8 c else if k = 6 then flat 8 L else []
def headOf (k s e : Int) : List Int := enc 1 k ++ enc 8 s ++ enc 8 e
def bytesOf (k s e i t c : Int) (L bo : List Int) : List Int := headOf k s e ++ tailOf k i t c L bo
def item_Bytes.f (k s e i t c : Int) (L bo : List Int) : Option (List Int) :=
 if (Lit.int .i64 k).wf = true ∧ L.length < 10000 ∧ bo.length < 100000000 then some (if mayB k s e i t c L bo.length = true then bytesOf k s e i t c L bo else []) else none
theorem mayB_head {k s e i t c : Int} {L : List Int} {m : Nat} (h : mayB k s e i t c L m = true) : (1 ≤ k ∧ k ≤ 6) ∧ (1 ≤ s ∧ s ≤ 4611686018427387904) ∧ (0 ≤ e ∧ e ≤ 4611686018427387904) := by
 unfold mayB at h
 rw [Bool.and_eq_true, Bool.and_eq_true] at h
 obtain ⟨h1, h2, h3⟩ := h
 refine ⟨?_, of_decide_eq_true h2, of_decide_eq_true h3⟩
 unfold mayK at h1
 repeat' split at h1
 all_goals first | omega | cases h1
theorem put1 {k : Int} (h : 0 ≤ k ∧ k ≤ 255) : num_Put.f 20 k 1 = some (enc 1 k) := put_good (W := 1) ⟨Or.inl rfl, h⟩ (by omega)
theorem put8 {k : Int} (h : 0 ≤ k ∧ k ≤ 4611686018427387904) : num_Put.f 20 k 8 = some (enc 8 k) := put_good (W := 8) ⟨Or.inr (Or.inr rfl), h⟩ (by omega)
theorem u8w (n : Int) : IntKind.u8.wrap n = n % 256 := by simp [IntKind.wrap, IntKind.bits, IntKind.signed]
theorem fa2 {s e i t c : Int} {L : List Int} {m : Nat} (h1 : mayB 2 s e i t c L m = true) : Fa L 1 := fun x hx => ⟨Or.inl rfl, by
 unfold mayB mayK may2B each at h1
 simp only [Int.reduceEq, if_false, if_true, Bool.and_eq_true, List.all_eq_true] at h1
 have h2 := of_decide_eq_true (h1.1.2.2.2.1 x hx)
 exact ⟨h2.1, by have := h2.2; show x ≤ 255; omega⟩⟩
theorem fa6 {s e i t c : Int} {L : List Int} {m : Nat} (h1 : mayB 6 s e i t c L m = true) : Fa L 8 := fun x hx => ⟨Or.inr (Or.inr rfl), by
 unfold mayB mayK may6B each at h1
 simp only [Int.reduceEq, if_false, if_true, Bool.and_eq_true, List.all_eq_true] at h1
 exact of_decide_eq_true (h1.1.2.2.1 x hx)⟩
theorem cc5 {s e i t c : Int} {L : List Int} {m : Nat} (h1 : mayB 5 s e i t c L m = true) : 0 ≤ c ∧ c ≤ 4611686018427387904 := by
 unfold mayB mayK may5B at h1
 simp only [Int.reduceEq, if_false, if_true, Bool.and_eq_true] at h1
 exact of_decide_eq_true h1.1.2.2
/-- What is known behind a call of item.Bytes. -/
def BytesPost (w : World) (r : List Int) (e' : Ending) (w' : World) : Prop := ∃ v, e' = .returned v ∧ O8 w' w.heap.size v r ∧ Below w.heap.size w w'
set_option maxRecDepth 100000 in
set_option maxHeartbeats 4000000 in
theorem item_Bytes.yes (k s e i t c : Int) (A6 : Option Addr) (c6 : Nat) (L : List Int) (A7 : Option Addr) (c7 : Nat) (bo : List Int) (w : World) (hr6 : Kd.C (Kd.int .i64) w A6 L.length L) (hc6 : L.length ≤ c6) (hr7 : Kd.C (Kd.int .u8) w A7 bo.length bo) (hc7 : bo.length ≤ c7) (hG : GB w) (hw : (Lit.int .i64 k).wf = true) (hL : L.length < 10000) (hbo : bo.length < 100000000) (hm : mayB k s e i t c L bo.length = true) :
  Calls Tryd.prog 40 #[.agg #[.int .i64 k, .int .i64 s, .int .i64 e, .int .i64 i, .int .i64 t, .int .i64 c, .slice A6 L.length c6, .slice A7 bo.length c7]] w (BytesPost w (bytesOf k s e i t c L bo)) := by
 obtain ⟨hk, hs, he⟩ := mayB_head hm
 obtain ⟨w0, hw0, hB0, hs0, X0⟩ := boxed1 w (.int .i64 k) (.int .i64 s) (.int .i64 e) (.int .i64 i) (.int .i64 t) (.int .i64 c) (.slice A6 L.length c6) (.slice A7 bo.length c7)
 have HX := ak X0
 obtain ⟨⟨q0, q1, q2, q3, q4, q5, q6, q7⟩, _⟩ := cells8 X0
 have HB0 := ak hB0
 have HG := Lib.hid (GB.below hG hB0)
 have HMAY := Lib.hid (item_May.calls k s e i t c A6 c6 L A7 c7 bo true w0 (Kd.C_below hr6 hB0) hc6 (Kd.C_below hr7 hB0) hc7 (by unfold item_May.f; rw [if_pos hw, hm]))
 have HR6 := ak (Kd.C_below hr6 hB0)
 have HR7 := ak (Kd.C_below hr7 hB0)
 have HL := Lib.hid hL
 have HBO := Lib.hid hbo
 have HMM := Lib.hid hm
 have HC6 := Lib.hid hc6
 have HC7 := Lib.hid hc7
 obtain ⟨p1, hp1⟩ : ∃ p, enc 1 k = p := ⟨_, rfl⟩
 obtain ⟨p2, hp2⟩ : ∃ p, enc 8 s = p := ⟨_, rfl⟩
 obtain ⟨p3, hp3⟩ : ∃ p, enc 8 e = p := ⟨_, rfl⟩
 have HP1 := Lib.hid (show num_Put.f 20 k 1 = some p1 by rw [← hp1]; exact put1 (by omega))
 have HP2 := Lib.hid (show num_Put.f 20 s 8 = some p2 by rw [← hp2]; exact put8 (by omega))
 have HP3 := Lib.hid (show num_Put.f 20 e 8 = some p3 by rw [← hp3]; exact put8 (by omega))
 have HPL := Lib.hid (show p1.length = 1 ∧ p2.length = 8 ∧ p3.length = 8 from ⟨by rw [← hp1]; rfl, by rw [← hp2]; rfl, by rw [← hp3]; rfl⟩)
 have HH := Lib.hid (show headOf k s e = p1 ++ p2 ++ p3 by unfold headOf; rw [hp1, hp2, hp3])
 clear X0 hB0 hG hr6 hr7 hL hbo hm hc6 hc7 hw hp1 hp2 hp3 hs he
 go_enter Tryd.func40, Tryd.ntmps40
 go_wp2_with fail
 refine HMAY.out.mono ?_
 rintro e1 w1 ⟨rfl, hb⟩
 have HBq := ak hb
 clear hb hw0
 go_wp2_with fail
 refine start_ (n := 12) (S := fun w' => w'.cell? ⟨w.heap.size, 0, none⟩ = some (.int .i64 k) ∧ w'.cell? ⟨w.heap.size, 1, none⟩ = some (.int .i64 s) ∧ w'.cell? ⟨w.heap.size, 2, none⟩ = some (.int .i64 e)) (ds := []) #[false, false, false, false, false, false, false, false, false, false, false, false] (by kernel_rfl) rfl rfl ⟨pw_cell_below (below_drew1 HBq.out) q0, pw_cell_below (below_drew1 HBq.out) q1, pw_cell_below (below_drew1 HBq.out) q2⟩ (fun hHeld => ?_)
 have n0_ := ak (below_drew1 HBq.out)
 clear HBq
 have HBq := n0_
 clear n0_
 generalize hw2_ : w1.drew = w2 at *
 clear hw2_
 refine pure_ (i := 0) (N := some 7) (v := ?_) (a' := ?_) #[true, false, false, false, false, false, false, false, false, false, false, false] rfl rfl (by kernel_rfl) (fun _ _ _ h => h) (Or.inl ⟨by rfl, ?_⟩) ?_ ?_
 rotate_left
 ·
  intro w'
  go_simp
  with_reducible rfl
 rotate_left
 ·
  simp only [Act.put, sq1, sq2, sq3, i64_w, i32_w]
  rfl
 refine pure_ (i := 3) (N := some 10) (v := ?_) (a' := ?_) #[true, false, false, true, false, false, false, false, false, false, false, false] rfl rfl (by kernel_rfl) (fun _ _ _ h => h) (Or.inl ⟨by rfl, ?_⟩) ?_ ?_
 rotate_left
 ·
  intro w'
  go_simp
  with_reducible rfl
 rotate_left
 ·
  simp only [Act.put, sq1, sq2, sq3, i64_w, i32_w]
  rfl
 refine pure_ (i := 6) (N := some 13) (v := ?_) (a' := ?_) #[true, false, false, true, false, false, true, false, false, false, false, false] rfl rfl (by kernel_rfl) (fun _ _ _ h => h) (Or.inl ⟨by rfl, ?_⟩) ?_ ?_
 rotate_left
 ·
  intro w'
  go_simp
  with_reducible rfl
 rotate_left
 ·
  simp only [Act.put, sq1, sq2, sq3, i64_w, i32_w]
  rfl
 refine take_ (i := 1) (N := some 8) (v := ?_) (a' := ?_) #[true, true, false, true, false, false, true, false, false, false, false, false] rfl rfl (by kernel_rfl) (fun _ _ _ h => h) (Or.inl ⟨by rfl, ?_⟩) hHeld ?_ ?_
 rotate_left
 ·
  rintro w' ⟨s0, s1, s2⟩
  go_simp
  with_reducible rfl
 rotate_left
 ·
  simp only [Act.put, sq1, sq2, sq3, i64_w, i32_w]
  rfl
 refine take_ (i := 4) (N := some 11) (v := ?_) (a' := ?_) #[true, true, false, true, true, false, true, false, false, false, false, false] rfl rfl (by kernel_rfl) (fun _ _ _ h => h) (Or.inl ⟨by rfl, ?_⟩) hHeld ?_ ?_
 rotate_left
 ·
  rintro w' ⟨s0, s1, s2⟩
  go_simp
  with_reducible rfl
 rotate_left
 ·
  simp only [Act.put, sq1, sq2, sq3, i64_w, i32_w]
  rfl
 refine take_ (i := 7) (N := some 14) (v := ?_) (a' := ?_) #[true, true, false, true, true, false, true, true, false, false, false, false] rfl rfl (by kernel_rfl) (fun _ _ _ h => h) (Or.inl ⟨by rfl, ?_⟩) hHeld ?_ ?_
 rotate_left
 ·
  rintro w' ⟨s0, s1, s2⟩
  go_simp
  with_reducible rfl
 rotate_left
 ·
  simp only [Act.put, sq1, sq2, sq3, i64_w, i32_w]
  rfl
 refine one_ (i := 2) (N := some 9) #[true, true, true, true, true, false, true, true, false, false, false, false] rfl rfl (by kernel_rfl) (by decide) (fun K hK => ?_)
 refine goes_ Tryd.func38 (by kernel_rfl) rfl #[.int .i64 k, .int .i64 1] (by rfl) rfl rfl (by simp only [List.map_toArray, List.map_cons, List.map_nil]; rfl) ?_
 with_reducible refine (num_Put.calls 20 k 1 p1 w2 (GB.below HG.out HBq.out) HP1.out).mono ?_
 rintro e0 w3 ⟨v1, rfl, hr, hb⟩
 refine ⟨_, rfl, ?_⟩
 obtain ⟨A11, c11, rfl, hl1, hC1⟩ := Kd.R_reads hr
 have HC1 := ak hC1
 have HL1 := Lib.hid hl1
 clear hr hC1 hl1
 have n0_ := ak (below_step HBq.out hb)
 clear HBq hb
 have HBq := n0_
 clear n0_
 refine hK.out _ _ ⟨pw_cell_below HBq.out q0, pw_cell_below HBq.out q1, pw_cell_below HBq.out q2⟩ (fun hHeld => ?_)
 clear hK K
 refine norm_ (a' := ?_) ?_ ?_
 rotate_left
 ·
  show Act.put _ (some 9) _ = _
  simp only [Act.put, sq1, sq2, sq3, i64_w, i32_w]
  rfl
 refine one_ (i := 5) (N := some 12) #[true, true, true, true, true, true, true, true, false, false, false, false] rfl rfl (by kernel_rfl) (by decide) (fun K hK => ?_)
 refine goes_ Tryd.func38 (by kernel_rfl) rfl #[.int .i64 s, .int .i64 8] (by rfl) rfl rfl (by simp only [List.map_toArray, List.map_cons, List.map_nil]; rfl) ?_
 with_reducible refine (num_Put.calls 20 s 8 p2 w3 (GB.below HG.out HBq.out) HP2.out).mono ?_
 rintro e0 w4 ⟨v2, rfl, hr, hb⟩
 refine ⟨_, rfl, ?_⟩
 obtain ⟨A12, c12, rfl, hl2, hC2⟩ := Kd.R_reads hr
 have HC2 := ak hC2
 have HL2 := Lib.hid hl2
 clear hr hC2 hl2
 have n1_ := ak (Kd.C_below HC1.out hb)
 clear HC1
 have HC1 := n1_
 clear n1_
 have n0_ := ak (below_step HBq.out hb)
 clear HBq hb
 have HBq := n0_
 clear n0_
 refine hK.out _ _ ⟨pw_cell_below HBq.out q0, pw_cell_below HBq.out q1, pw_cell_below HBq.out q2⟩ (fun hHeld => ?_)
 clear hK K
 refine norm_ (a' := ?_) ?_ ?_
 rotate_left
 ·
  show Act.put _ (some 12) _ = _
  simp only [Act.put, sq1, sq2, sq3, i64_w, i32_w]
  rfl
 refine one_ (i := 8) (N := some 15) #[true, true, true, true, true, true, true, true, true, false, false, false] rfl rfl (by kernel_rfl) (by decide) (fun K hK => ?_)
 refine goes_ Tryd.func38 (by kernel_rfl) rfl #[.int .i64 e, .int .i64 8] (by rfl) rfl rfl (by simp only [List.map_toArray, List.map_cons, List.map_nil]; rfl) ?_
 with_reducible refine (num_Put.calls 20 e 8 p3 w4 (GB.below HG.out HBq.out) HP3.out).mono ?_
 rintro e0 w5 ⟨v3, rfl, hr, hb⟩
 refine ⟨_, rfl, ?_⟩
 obtain ⟨A13, c13, rfl, hl3, hC3⟩ := Kd.R_reads hr
 have HC3 := ak hC3
 have HL3 := Lib.hid hl3
 clear hr hC3 hl3
 have n1_ := ak (Kd.C_below HC1.out hb)
 clear HC1
 have HC1 := n1_
 clear n1_
 have n1_ := ak (Kd.C_below HC2.out hb)
 clear HC2
 have HC2 := n1_
 clear n1_
 have n0_ := ak (below_step HBq.out hb)
 clear HBq hb
 have HBq := n0_
 clear n0_
 refine hK.out _ _ ⟨pw_cell_below HBq.out q0, pw_cell_below HBq.out q1, pw_cell_below HBq.out q2⟩ (fun hHeld => ?_)
 clear hK K
 refine norm_ (a' := ?_) ?_ ?_
 rotate_left
 ·
  show Act.put _ (some 15) _ = _
  simp only [Act.put, sq1, sq2, sq3, i64_w, i32_w]
  rfl
 refine one_ (i := 9) (N := some 16) #[true, true, true, true, true, true, true, true, true, true, false, false] rfl rfl (by kernel_rfl) (by decide) (fun K hK => ?_)
 refine value_ (w1 := ?_) (v := ?_) (by rfl) rfl ?_ ?_
 rotate_left 2
 ·
  go_simp
  constructor
  ·
   rfl
  ·
   rfl
 have HNB := ak (blk_new w5 (Obj.cells #[.slice A11 p1.length c11, .slice A12 p2.length c12, .slice A13 p3.length c13] 23))
 have n1_ := ak (Kd.C_alloc HC1.out (Obj.cells #[.slice A11 p1.length c11, .slice A12 p2.length c12, .slice A13 p3.length c13] 23))
 clear HC1
 have HC1 := n1_
 clear n1_
 have n1_ := ak (Kd.C_alloc HC2.out (Obj.cells #[.slice A11 p1.length c11, .slice A12 p2.length c12, .slice A13 p3.length c13] 23))
 clear HC2
 have HC2 := n1_
 clear n1_
 have n1_ := ak (Kd.C_alloc HC3.out (Obj.cells #[.slice A11 p1.length c11, .slice A12 p2.length c12, .slice A13 p3.length c13] 23))
 clear HC3
 have HC3 := n1_
 clear n1_
 have n0_ := ak (below_alloc HBq.out (Obj.cells #[.slice A11 p1.length c11, .slice A12 p2.length c12, .slice A13 p3.length c13] 23))
 clear HBq
 have HBq := n0_
 clear n0_
 generalize hgl_ : w5.alloc (Obj.cells #[.slice A11 p1.length c11, .slice A12 p2.length c12, .slice A13 p3.length c13] 23) = w6 at *
 clear hgl_
 generalize w5.heap.size = g6 at HNB ⊢
 refine hK.out _ _ ⟨pw_cell_below HBq.out q0, pw_cell_below HBq.out q1, pw_cell_below HBq.out q2⟩ (fun hHeld => ?_)
 clear hK K
 refine norm_ (a' := ?_) ?_ ?_
 rotate_left
 ·
  show Act.put _ (some 16) _ = _
  simp only [Act.put, sq1, sq2, sq3, i64_w, i32_w]
  rfl
 refine one_ (i := 10) (N := some 17) #[true, true, true, true, true, true, true, true, true, true, true, false] rfl rfl (by kernel_rfl) (by decide) (fun K hK => ?_)
 have HCT := Lib.hid (show Calls Tryd.prog 37 #[.slice (some ⟨g6, 0, none⟩) 3 3] w6 _ from slices_Concat.is (some ⟨g6, 0, none⟩) 3 [p1, p2, p3] w6 (C_rows3 HNB.out HL1.out HC1.out HL2.out HC2.out HL3.out HC3.out) (by obtain ⟨h1, h2, h3⟩ := HPL.out; simp [h1, h2, h3]))
 refine goes_ Tryd.func37 (by kernel_rfl) rfl #[.slice (some ⟨g6, 0, none⟩) 3 3] (by rfl) rfl rfl (by simp only [List.map_toArray, List.map_cons, List.map_nil]; rfl) ?_
 with_reducible refine (HCT.out).mono ?_
 rintro e0 w7 ⟨v7, rfl, ho, hb⟩
 refine ⟨_, rfl, ?_⟩
 have HO := ak (O8.lower (b' := w0.heap.size) ho HBq.out.size)
 clear ho
 have n0_ := ak (below_step HBq.out hb)
 clear HBq hb
 have HBq := n0_
 clear n0_
 refine hK.out _ _ ⟨pw_cell_below HBq.out q0, pw_cell_below HBq.out q1, pw_cell_below HBq.out q2⟩ (fun hHeld => ?_)
 clear hK K
 refine norm_ (a' := ?_) ?_ ?_
 rotate_left
 ·
  show Act.put _ (some 17) _ = _
  simp only [Act.put, sq1, sq2, sq3, i64_w, i32_w]
  rfl
 refine pure_ (i := 11) (N := some 3) (v := ?_) (a' := ?_) #[true, true, true, true, true, true, true, true, true, true, true, true] rfl rfl (by kernel_rfl) (fun _ _ _ h => h) (Or.inl ⟨by rfl, ?_⟩) ?_ ?_
 rotate_left
 ·
  intro w'
  go_simp
  with_reducible rfl
 rotate_left
 ·
  simp only [Act.put, sq1, sq2, sq3, i64_w, i32_w]
  rfl
 refine done_ (by kernel_rfl) ?_
 clear hHeld
 obtain ⟨hd, hhd⟩ : ∃ hd, headOf k s e = hd := ⟨_, rfl⟩
 have HH2 := Lib.hid hhd
 have HHL := Lib.hid (show hd.length = 17 by rw [← hhd, HH.out]; obtain ⟨h1, h2, h3⟩ := HPL.out; simp [h1, h2, h3])
 have HO := ak (show O8 w7 w0.heap.size v7 hd by rw [← hhd, HH.out]; have := HO.out; simpa using this)
 clear hhd
 have y0 := pw_cell_below HBq.out q0
 rcases (show k = 1 ∨ k = 2 ∨ k = 3 ∨ k = 4 ∨ k = 5 ∨ k = 6 by omega) with rfl | rfl | rfl | rfl | rfl | rfl
 ·
  have HBY := Lib.hid (show bytesOf 1 s e i t c L bo = hd ++ [IntKind.u8.wrap i, IntKind.u8.wrap t] ++ bo by unfold bytesOf tailOf; rw [if_pos rfl, HH2.out]; simp [enc, u8w])
  go_wp2_with fail
  refine start_ (n := 13) (S := fun w' => w'.cell? ⟨w.heap.size, 3, none⟩ = some (.int .i64 i) ∧ w'.cell? ⟨w.heap.size, 4, none⟩ = some (.int .i64 t) ∧ w'.cell? ⟨w.heap.size, 7, none⟩ = some (.slice A7 bo.length c7)) (ds := []) #[false, false, false, false, false, false, false, false, false, false, false, false, false] (by kernel_rfl) rfl rfl ⟨pw_cell_below (below_drew1 HBq.out) q3, pw_cell_below (below_drew1 HBq.out) q4, pw_cell_below (below_drew1 HBq.out) q7⟩ (fun hHeld => ?_)
  have hb := below_drew1 HBq.out
  have ho := O8.below HO.out (below_drew1 (Below.refl _ _))
  have n0_ := ak hb
  have n1_ := ak ho
  clear HBq HO hb ho
  have HBq := n0_
  have HO := n1_
  clear n0_ n1_
  generalize hw8_ : w7.drew = w8 at *
  clear hw8_
  refine pure_ (i := 0) (N := some 22) (v := ?_) (a' := ?_) #[true, false, false, false, false, false, false, false, false, false, false, false, false] rfl rfl (by kernel_rfl) (fun _ _ _ h => h) (Or.inl ⟨by rfl, ?_⟩) ?_ ?_
  rotate_left
  ·
   intro w'
   go_simp
   with_reducible rfl
  rotate_left
  ·
   simp only [Act.put, sq1, sq2, sq3, i64_w, i32_w]
   rfl
  refine pure_ (i := 1) (N := some 23) (v := ?_) (a' := ?_) #[true, true, false, false, false, false, false, false, false, false, false, false, false] rfl rfl (by kernel_rfl) (fun _ _ _ h => h) (Or.inl ⟨by rfl, ?_⟩) ?_ ?_
  rotate_left
  ·
   intro w'
   go_simp
   with_reducible rfl
  rotate_left
  ·
   simp only [Act.put, sq1, sq2, sq3, i64_w, i32_w]
   rfl
  refine pure_ (i := 4) (N := some 26) (v := ?_) (a' := ?_) #[true, true, false, false, true, false, false, false, false, false, false, false, false] rfl rfl (by kernel_rfl) (fun _ _ _ h => h) (Or.inl ⟨by rfl, ?_⟩) ?_ ?_
  rotate_left
  ·
   intro w'
   go_simp
   with_reducible rfl
  rotate_left
  ·
   simp only [Act.put, sq1, sq2, sq3, i64_w, i32_w]
   rfl
  refine pure_ (i := 9) (N := some 31) (v := ?_) (a' := ?_) #[true, true, false, false, true, false, false, false, false, true, false, false, false] rfl rfl (by kernel_rfl) (fun _ _ _ h => h) (Or.inl ⟨by rfl, ?_⟩) ?_ ?_
  rotate_left
  ·
   intro w'
   go_simp
   with_reducible rfl
  rotate_left
  ·
   simp only [Act.put, sq1, sq2, sq3, i64_w, i32_w]
   rfl
  refine take_ (i := 2) (N := some 24) (v := ?_) (a' := ?_) #[true, true, true, false, true, false, false, false, false, true, false, false, false] rfl rfl (by kernel_rfl) (fun _ _ _ h => h) (Or.inl ⟨by rfl, ?_⟩) hHeld ?_ ?_
  rotate_left
  ·
   rintro w' ⟨s0, s1, s2⟩
   go_simp
   with_reducible rfl
  rotate_left
  ·
   simp only [Act.put, sq1, sq2, sq3, i64_w, i32_w]
   rfl
  refine pure_ (i := 3) (N := some 25) (v := ?_) (a' := ?_) #[true, true, true, true, true, false, false, false, false, true, false, false, false] rfl rfl (by kernel_rfl) (fun _ _ _ h => h) (Or.inl ⟨by rfl, ?_⟩) ?_ ?_
  rotate_left
  ·
   intro w'
   go_simp
   with_reducible rfl
  rotate_left
  ·
   simp only [Act.put, sq1, sq2, sq3, i64_w, i32_w]
   rfl
  refine take_ (i := 5) (N := some 27) (v := ?_) (a' := ?_) #[true, true, true, true, true, true, false, false, false, true, false, false, false] rfl rfl (by kernel_rfl) (fun _ _ _ h => h) (Or.inl ⟨by rfl, ?_⟩) hHeld ?_ ?_
  rotate_left
  ·
   rintro w' ⟨s0, s1, s2⟩
   go_simp
   with_reducible rfl
  rotate_left
  ·
   simp only [Act.put, sq1, sq2, sq3, i64_w, i32_w]
   rfl
  refine pure_ (i := 6) (N := some 28) (v := ?_) (a' := ?_) #[true, true, true, true, true, true, true, false, false, true, false, false, false] rfl rfl (by kernel_rfl) (fun _ _ _ h => h) (Or.inl ⟨by rfl, ?_⟩) ?_ ?_
  rotate_left
  ·
   intro w'
   go_simp
   with_reducible rfl
  rotate_left
  ·
   simp only [Act.put, sq1, sq2, sq3, i64_w, i32_w]
   rfl
  refine take_ (i := 10) (N := some 32) (v := ?_) (a' := ?_) #[true, true, true, true, true, true, true, false, false, true, true, false, false] rfl rfl (by kernel_rfl) (fun _ _ _ h => h) (Or.inl ⟨by rfl, ?_⟩) hHeld ?_ ?_
  rotate_left
  ·
   rintro w' ⟨s0, s1, s2⟩
   go_simp
   with_reducible rfl
  rotate_left
  ·
   simp only [Act.put, sq1, sq2, sq3, i64_w, i32_w]
   rfl
  refine one_ (i := 7) (N := some 29) #[true, true, true, true, true, true, true, true, false, true, true, false, false] rfl rfl (by kernel_rfl) (by decide) (fun K hK => ?_)
  refine value_ (w1 := ?_) (v := ?_) (by rfl) rfl ?_ ?_
  rotate_left 2
  ·
   go_simp
   constructor
   ·
    rfl
   ·
    rfl
  have HCL := ak (Kd.C_lit8 (blk_new w8 (Obj.cells #[.int .u8 (IntKind.u8.wrap i), .int .u8 (IntKind.u8.wrap t)] 5)) [IntKind.u8.wrap i, IntKind.u8.wrap t] (by simp) rfl)
  have ho := O8.below HO.out (below_alloc (Below.refl _ _) (Obj.cells #[.int .u8 (IntKind.u8.wrap i), .int .u8 (IntKind.u8.wrap t)] 5))
  have hb := below_alloc HBq.out (Obj.cells #[.int .u8 (IntKind.u8.wrap i), .int .u8 (IntKind.u8.wrap t)] 5)
  have n0_ := ak hb
  have n1_ := ak ho
  clear HBq HO hb ho
  have HBq := n0_
  have HO := n1_
  clear n0_ n1_
  generalize hgl_ : w8.alloc (Obj.cells #[.int .u8 (IntKind.u8.wrap i), .int .u8 (IntKind.u8.wrap t)] 5) = w9 at *
  clear hgl_
  refine hK.out _ _ ⟨pw_cell_below HBq.out q3, pw_cell_below HBq.out q4, pw_cell_below HBq.out q7⟩ (fun hHeld => ?_)
  clear hK K
  refine norm_ (a' := ?_) ?_ ?_
  rotate_left
  ·
   show Act.put _ (some 29) _ = _
   simp only [Act.put, sq1, sq2, sq3, i64_w, i32_w]
   rfl
  refine one_ (i := 8) (N := some 30) #[true, true, true, true, true, true, true, true, true, true, true, false, false] rfl rfl (by kernel_rfl) (by decide) (fun K hK => ?_)
  refine ap8_step (w0 := w0) (b := w0.heap.size) (by rfl) rfl rfl rfl HO.out HCL.out HBq.out HBq.out.size (by have := HHL.out; simp; omega) ?_
  intro v8 w10 ho hb
  have n0_ := ak hb
  have n1_ := ak ho
  clear HBq HO hb ho
  have HBq := n0_
  have HO := n1_
  clear n0_ n1_
  clear HCL
  refine hK.out _ _ ⟨pw_cell_below HBq.out q3, pw_cell_below HBq.out q4, pw_cell_below HBq.out q7⟩ (fun hHeld => ?_)
  clear hK K
  refine norm_ (a' := ?_) ?_ ?_
  rotate_left
  ·
   show Act.put _ (some 30) _ = _
   simp only [Act.put, sq1, sq2, sq3, i64_w, i32_w]
   rfl
  refine one_ (i := 11) (N := some 33) #[true, true, true, true, true, true, true, true, true, true, true, true, false] rfl rfl (by kernel_rfl) (by decide) (fun K hK => ?_)
  refine ap8_step (w0 := w0) (b := w0.heap.size) (by rfl) rfl rfl rfl HO.out (Kd.C_below HR7.out HBq.out) HBq.out HBq.out.size (by have h1 := HHL.out; have h2 := HBO.out; simp; omega) ?_
  intro v9 w11 ho hb
  have n0_ := ak hb
  have n1_ := ak ho
  clear HBq HO hb ho
  have HBq := n0_
  have HO := n1_
  clear n0_ n1_
  refine hK.out _ _ ⟨pw_cell_below HBq.out q3, pw_cell_below HBq.out q4, pw_cell_below HBq.out q7⟩ (fun hHeld => ?_)
  clear hK K
  refine norm_ (a' := ?_) ?_ ?_
  rotate_left
  ·
   show Act.put _ (some 33) _ = _
   simp only [Act.put, sq1, sq2, sq3, i64_w, i32_w]
   rfl
  refine pure_ (i := 12) (N := some 2) (v := ?_) (a' := ?_) #[true, true, true, true, true, true, true, true, true, true, true, true, true] rfl rfl (by kernel_rfl) (fun _ _ _ h => h) (Or.inl ⟨by rfl, ?_⟩) ?_ ?_
  rotate_left
  ·
   intro w'
   go_simp
   with_reducible rfl
  rotate_left
  ·
   simp only [Act.put, sq1, sq2, sq3, i64_w, i32_w]
   rfl
  refine done_ (by kernel_rfl) ?_
  go_wp2_with fail
  go_ret
  exact ⟨_, rfl, by rw [HBY.out]; exact O8.lower HO.out HB0.out.size, below_step HB0.out HBq.out⟩
 ·
  obtain ⟨p4, hp4⟩ : ∃ p, flat 1 L = p := ⟨_, rfl⟩
  have HBY := Lib.hid (show bytesOf 2 s e i t c L bo = hd ++ [IntKind.u8.wrap i] ++ p4 by unfold bytesOf tailOf; rw [if_neg (by decide), if_pos rfl, HH2.out, hp4]; simp [enc, u8w])
  have hfa : Fa L 1 := fun x hx => ⟨Or.inl rfl, by
   have h1 := HMM.out
   unfold mayB mayK may2B each at h1
   simp only [Int.reduceEq, if_false, if_true, Bool.and_eq_true, List.all_eq_true] at h1
   have h2 := of_decide_eq_true (h1.1.2.2.2.1 x hx)
   exact ⟨h2.1, by have := h2.2; show x ≤ 255; omega⟩⟩
  have HPR := Lib.hid (show num_PutRow.f (L.length + 10) L 1 = some p4 by rw [putrow_is HL.out (Nat.le_refl _), if_pos hfa, hp4])
  have HP4 := Lib.hid (show p4.length < 10000 by rw [← hp4, flat_length]; have := HL.out; simp; omega)
  clear hp4 hfa
  go_wp2_with fail
  refine start_ (n := 11) (S := fun w' => w'.cell? ⟨w.heap.size, 3, none⟩ = some (.int .i64 i) ∧ w'.cell? ⟨w.heap.size, 6, none⟩ = some (.slice A6 L.length c6)) (ds := []) #[false, false, false, false, false, false, false, false, false, false, false] (by kernel_rfl) rfl rfl ⟨pw_cell_below (below_drew1 HBq.out) q3, pw_cell_below (below_drew1 HBq.out) q6⟩ (fun hHeld => ?_)
  have hb := below_drew1 HBq.out
  have ho := O8.below HO.out (below_drew1 (Below.refl _ _))
  have n0_ := ak hb
  have n1_ := ak ho
  clear HBq HO hb ho
  have HBq := n0_
  have HO := n1_
  clear n0_ n1_
  generalize hw8_ : w7.drew = w8 at *
  clear hw8_
  refine pure_ (i := 0) (N := some 36) (v := ?_) (a' := ?_) #[true, false, false, false, false, false, false, false, false, false, false] rfl rfl (by kernel_rfl) (fun _ _ _ h => h) (Or.inl ⟨by rfl, ?_⟩) ?_ ?_
  rotate_left
  ·
   intro w'
   go_simp
   with_reducible rfl
  rotate_left
  ·
   simp only [Act.put, sq1, sq2, sq3, i64_w, i32_w]
   rfl
  refine pure_ (i := 1) (N := some 37) (v := ?_) (a' := ?_) #[true, true, false, false, false, false, false, false, false, false, false] rfl rfl (by kernel_rfl) (fun _ _ _ h => h) (Or.inl ⟨by rfl, ?_⟩) ?_ ?_
  rotate_left
  ·
   intro w'
   go_simp
   with_reducible rfl
  rotate_left
  ·
   simp only [Act.put, sq1, sq2, sq3, i64_w, i32_w]
   rfl
  refine pure_ (i := 6) (N := some 42) (v := ?_) (a' := ?_) #[true, true, false, false, false, false, true, false, false, false, false] rfl rfl (by kernel_rfl) (fun _ _ _ h => h) (Or.inl ⟨by rfl, ?_⟩) ?_ ?_
  rotate_left
  ·
   intro w'
   go_simp
   with_reducible rfl
  rotate_left
  ·
   simp only [Act.put, sq1, sq2, sq3, i64_w, i32_w]
   rfl
  refine take_ (i := 2) (N := some 38) (v := ?_) (a' := ?_) #[true, true, true, false, false, false, true, false, false, false, false] rfl rfl (by kernel_rfl) (fun _ _ _ h => h) (Or.inl ⟨by rfl, ?_⟩) hHeld ?_ ?_
  rotate_left
  ·
   rintro w' ⟨s0, s1⟩
   go_simp
   with_reducible rfl
  rotate_left
  ·
   simp only [Act.put, sq1, sq2, sq3, i64_w, i32_w]
   rfl
  refine pure_ (i := 3) (N := some 39) (v := ?_) (a' := ?_) #[true, true, true, true, false, false, true, false, false, false, false] rfl rfl (by kernel_rfl) (fun _ _ _ h => h) (Or.inl ⟨by rfl, ?_⟩) ?_ ?_
  rotate_left
  ·
   intro w'
   go_simp
   with_reducible rfl
  rotate_left
  ·
   simp only [Act.put, sq1, sq2, sq3, i64_w, i32_w]
   rfl
  refine take_ (i := 7) (N := some 43) (v := ?_) (a' := ?_) #[true, true, true, true, false, false, true, true, false, false, false] rfl rfl (by kernel_rfl) (fun _ _ _ h => h) (Or.inl ⟨by rfl, ?_⟩) hHeld ?_ ?_
  rotate_left
  ·
   rintro w' ⟨s0, s1⟩
   go_simp
   with_reducible rfl
  rotate_left
  ·
   simp only [Act.put, sq1, sq2, sq3, i64_w, i32_w]
   rfl
  refine one_ (i := 4) (N := some 40) #[true, true, true, true, true, false, true, true, false, false, false] rfl rfl (by kernel_rfl) (by decide) (fun K hK => ?_)
  refine value_ (w1 := ?_) (v := ?_) (by rfl) rfl ?_ ?_
  rotate_left 2
  ·
   go_simp
   constructor
   ·
    rfl
   ·
    rfl
  have HCL := ak (Kd.C_lit8 (blk_new w8 (Obj.cells #[.int .u8 (IntKind.u8.wrap i)] 5)) [IntKind.u8.wrap i] (by simp) rfl)
  have ho := O8.below HO.out (below_alloc (Below.refl _ _) (Obj.cells #[.int .u8 (IntKind.u8.wrap i)] 5))
  have hb := below_alloc HBq.out (Obj.cells #[.int .u8 (IntKind.u8.wrap i)] 5)
  have n0_ := ak hb
  have n1_ := ak ho
  clear HBq HO hb ho
  have HBq := n0_
  have HO := n1_
  clear n0_ n1_
  generalize hgl_ : w8.alloc (Obj.cells #[.int .u8 (IntKind.u8.wrap i)] 5) = w9 at *
  clear hgl_
  refine hK.out _ _ ⟨pw_cell_below HBq.out q3, pw_cell_below HBq.out q6⟩ (fun hHeld => ?_)
  clear hK K
  refine norm_ (a' := ?_) ?_ ?_
  rotate_left
  ·
   show Act.put _ (some 40) _ = _
   simp only [Act.put, sq1, sq2, sq3, i64_w, i32_w]
   rfl
  refine one_ (i := 5) (N := some 41) #[true, true, true, true, true, true, true, true, false, false, false] rfl rfl (by kernel_rfl) (by decide) (fun K hK => ?_)
  refine ap8_step (w0 := w0) (b := w0.heap.size) (by rfl) rfl rfl rfl HO.out HCL.out HBq.out HBq.out.size (by have := HHL.out; simp; omega) ?_
  intro v8 w10 ho hb
  have n0_ := ak hb
  have n1_ := ak ho
  clear HBq HO hb ho
  have HBq := n0_
  have HO := n1_
  clear n0_ n1_
  clear HCL
  refine hK.out _ _ ⟨pw_cell_below HBq.out q3, pw_cell_below HBq.out q6⟩ (fun hHeld => ?_)
  clear hK K
  refine norm_ (a' := ?_) ?_ ?_
  rotate_left
  ·
   show Act.put _ (some 41) _ = _
   simp only [Act.put, sq1, sq2, sq3, i64_w, i32_w]
   rfl
  refine one_ (i := 8) (N := some 44) #[true, true, true, true, true, true, true, true, true, false, false] rfl rfl (by kernel_rfl) (by decide) (fun K hK => ?_)
  refine goes_ Tryd.func39 (by kernel_rfl) rfl #[.slice A6 L.length c6, .int .i64 1] (by rfl) rfl rfl (by simp only [List.map_toArray, List.map_cons, List.map_nil]; rfl) ?_
  with_reducible refine (num_PutRow.calls (L.length + 10) A6 c6 L 1 p4 w10 (Kd.C_below HR6.out HBq.out) HC6.out (GB.below HG.out HBq.out) HPR.out).mono ?_
  rintro e0 w11 ⟨v10, rfl, hr, hbq⟩
  refine ⟨_, rfl, ?_⟩
  obtain ⟨A14, c14, rfl, hl4, hC4⟩ := Kd.R_reads hr
  have HC4 := ak hC4
  have ho := O8.below HO.out hbq
  have hb := below_step HBq.out hbq
  clear hr hC4 hbq
  have n0_ := ak hb
  have n1_ := ak ho
  clear HBq HO hb ho
  have HBq := n0_
  have HO := n1_
  clear n0_ n1_
  refine hK.out _ _ ⟨pw_cell_below HBq.out q3, pw_cell_below HBq.out q6⟩ (fun hHeld => ?_)
  clear hK K
  refine norm_ (a' := ?_) ?_ ?_
  rotate_left
  ·
   show Act.put _ (some 44) _ = _
   simp only [Act.put, sq1, sq2, sq3, i64_w, i32_w]
   rfl
  refine one_ (i := 9) (N := some 45) #[true, true, true, true, true, true, true, true, true, true, false] rfl rfl (by kernel_rfl) (by decide) (fun K hK => ?_)
  refine ap8_step (w0 := w0) (b := w0.heap.size) (by rfl) rfl rfl rfl HO.out HC4.out HBq.out HBq.out.size (by have h1 := HHL.out; have h2 := HP4.out; simp; omega) ?_
  intro v9 w12 ho hb
  have n0_ := ak hb
  have n1_ := ak ho
  clear HBq HO hb ho
  have HBq := n0_
  have HO := n1_
  clear n0_ n1_
  refine hK.out _ _ ⟨pw_cell_below HBq.out q3, pw_cell_below HBq.out q6⟩ (fun hHeld => ?_)
  clear hK K
  refine norm_ (a' := ?_) ?_ ?_
  rotate_left
  ·
   show Act.put _ (some 45) _ = _
   simp only [Act.put, sq1, sq2, sq3, i64_w, i32_w]
   rfl
  refine pure_ (i := 10) (N := some 2) (v := ?_) (a' := ?_) #[true, true, true, true, true, true, true, true, true, true, true] rfl rfl (by kernel_rfl) (fun _ _ _ h => h) (Or.inl ⟨by rfl, ?_⟩) ?_ ?_
  rotate_left
  ·
   intro w'
   go_simp
   with_reducible rfl
  rotate_left
  ·
   simp only [Act.put, sq1, sq2, sq3, i64_w, i32_w]
   rfl
  refine done_ (by kernel_rfl) ?_
  go_wp2_with fail
  go_ret
  exact ⟨_, rfl, by rw [HBY.out]; exact O8.lower HO.out HB0.out.size, below_step HB0.out HBq.out⟩
 ·
  have HBY := Lib.hid (show bytesOf 3 s e i t c L bo = hd by unfold bytesOf tailOf; rw [if_neg (by decide), if_neg (by decide), if_neg (by decide), if_neg (by decide), if_neg (by decide), HH2.out, List.append_nil])
  go_wp2_with fail
  go_ret
  exact ⟨_, rfl, by rw [HBY.out]; exact O8.lower HO.out HB0.out.size, below_step HB0.out HBq.out⟩
 ·
  have HBY := Lib.hid (show bytesOf 4 s e i t c L bo = hd ++ [IntKind.u8.wrap i] by unfold bytesOf tailOf; rw [if_neg (by decide), if_neg (by decide), if_pos rfl, HH2.out]; simp [enc, u8w])
  have y3 := pw_cell_below HBq.out q3
  go_wp2_with ((with_reducible refine gate_builtin (b := .append) (xs := #[.tmp 48, .tmp 52]) rfl ?_); at_builtin; refine ap8 (w0 := w0) (b := w0.heap.size) (ys := [IntKind.u8.wrap i]) rfl rfl rfl rfl (O8.below HO.out (below_alloc (Below.refl _ _) _)) (Kd.C_lit8 (blk_new w7 _) [IntKind.u8.wrap i] (by simp) rfl) (below_alloc HBq.out _) (below_alloc HBq.out _).size (by have := HHL.out; simp; omega) ?_; intro v8 w8 ho hb; have HO1 := ak ho; have HB1 := ak hb; clear ho hb)
  go_ret
  exact ⟨_, rfl, by rw [HBY.out]; exact O8.lower HO1.out HB0.out.size, below_step HB0.out HB1.out⟩
 ·
  obtain ⟨p4, hp4⟩ : ∃ p, enc 8 c = p := ⟨_, rfl⟩
  have HBY := Lib.hid (show bytesOf 5 s e i t c L bo = hd ++ p4 by unfold bytesOf tailOf; rw [if_neg (by decide), if_neg (by decide), if_neg (by decide), if_pos rfl, HH2.out, hp4])
  have hcc : 0 ≤ c ∧ c ≤ 4611686018427387904 := by
   have h1 := HMM.out
   unfold mayB mayK may5B at h1
   simp only [Int.reduceEq, if_false, if_true, Bool.and_eq_true] at h1
   exact of_decide_eq_true h1.1.2.2
  have HPR := Lib.hid (show num_Put.f 20 c 8 = some p4 by rw [← hp4]; exact put8 hcc)
  have HP4 := Lib.hid (show p4.length = 8 by rw [← hp4]; rfl)
  have y5 := pw_cell_below HBq.out q5
  clear hp4 hcc
  go_wp2_with fail
  refine (num_Put.calls 20 c 8 p4 w7 (GB.below HG.out HBq.out) HPR.out).mono ?_
  rintro e8 w8 ⟨v8, rfl, hr, hb⟩
  obtain ⟨A14, c14, rfl, hl4, hC4⟩ := Kd.R_reads hr
  have HC4 := ak hC4
  have HO1 := ak (O8.below HO.out hb)
  have HB1 := ak (below_step HBq.out hb)
  clear hr hb hl4 hC4
  go_wp2_with ((with_reducible refine gate_builtin (b := .append) (xs := #[.tmp 56, .tmp 59]) rfl ?_); at_builtin; refine ap8 (w0 := w0) (b := w0.heap.size) rfl rfl rfl rfl HO1.out HC4.out HB1.out HB1.out.size (by have := HHL.out; have := HP4.out; omega) ?_; intro v9 w9 ho hb; have HO2 := ak ho; have HB2 := ak hb; clear ho hb)
  go_ret
  exact ⟨_, rfl, by rw [HBY.out]; exact O8.lower HO2.out HB0.out.size, below_step HB0.out HB2.out⟩
 ·
  obtain ⟨p4, hp4⟩ : ∃ p, flat 8 L = p := ⟨_, rfl⟩
  have HBY := Lib.hid (show bytesOf 6 s e i t c L bo = hd ++ p4 by unfold bytesOf tailOf; rw [if_neg (by decide), if_neg (by decide), if_neg (by decide), if_neg (by decide), if_pos rfl, HH2.out, hp4])
  have hfa : Fa L 8 := fun x hx => ⟨Or.inr (Or.inr rfl), by
   have h1 := HMM.out
   unfold mayB mayK may6B each at h1
   simp only [Int.reduceEq, if_false, if_true, Bool.and_eq_true, List.all_eq_true] at h1
   exact of_decide_eq_true (h1.1.2.2.1 x hx)⟩
  have HPR := Lib.hid (show num_PutRow.f (L.length + 10) L 8 = some p4 by rw [putrow_is HL.out (Nat.le_refl _), if_pos hfa, hp4])
  have HP4 := Lib.hid (show p4.length < 80000 by rw [← hp4, flat_length]; have := HL.out; simp; omega)
  have y6 := pw_cell_below HBq.out q6
  clear hp4 hfa
  go_wp2_with fail
  refine (num_PutRow.calls (L.length + 10) A6 c6 L 8 p4 w7 (Kd.C_below HR6.out HBq.out) HC6.out (GB.below HG.out HBq.out) HPR.out).mono ?_
  rintro e8 w8 ⟨v8, rfl, hr, hb⟩
  obtain ⟨A14, c14, rfl, hl4, hC4⟩ := Kd.R_reads hr
  have HC4 := ak hC4
  have HO1 := ak (O8.below HO.out hb)
  have HB1 := ak (below_step HBq.out hb)
  clear hr hb hl4 hC4
  go_wp2_with ((with_reducible refine gate_builtin (b := .append) (xs := #[.tmp 63, .tmp 66]) rfl ?_); at_builtin; refine ap8 (w0 := w0) (b := w0.heap.size) rfl rfl rfl rfl HO1.out HC4.out HB1.out HB1.out.size (by have := HHL.out; have := HP4.out; omega) ?_; intro v9 w9 ho hb; have HO2 := ak ho; have HB2 := ak hb; clear ho hb)
  go_ret
  exact ⟨_, rfl, by rw [HBY.out]; exact O8.lower HO2.out HB0.out.size, below_step HB0.out HB2.out⟩
theorem item_Bytes.no (k s e i t c : Int) (A6 : Option Addr) (c6 : Nat) (L : List Int) (A7 : Option Addr) (c7 : Nat) (bo : List Int) (w : World) (hr6 : Kd.C (Kd.int .i64) w A6 L.length L) (hc6 : L.length ≤ c6) (hr7 : Kd.C (Kd.int .u8) w A7 bo.length bo) (hc7 : bo.length ≤ c7) (hw : (Lit.int .i64 k).wf = true) (hm : mayB k s e i t c L bo.length = false) :
  Calls Tryd.prog 40 #[.agg #[.int .i64 k, .int .i64 s, .int .i64 e, .int .i64 i, .int .i64 t, .int .i64 c, .slice A6 L.length c6, .slice A7 bo.length c7]] w (BytesPost w []) := by
 obtain ⟨w0, hw0, hB0, hs0, X0⟩ := boxed1 w (.int .i64 k) (.int .i64 s) (.int .i64 e) (.int .i64 i) (.int .i64 t) (.int .i64 c) (.slice A6 L.length c6) (.slice A7 bo.length c7)
 obtain ⟨⟨q0, q1, q2, q3, q4, q5, q6, q7⟩, _⟩ := cells8 X0
 have HB0 := ak hB0
 have HMAY := Lib.hid (item_May.calls k s e i t c A6 c6 L A7 c7 bo false w0 (Kd.C_below hr6 hB0) hc6 (Kd.C_below hr7 hB0) hc7 (by unfold item_May.f; rw [if_pos hw, hm]))
 clear X0 hB0 hr6 hr7 hm hc6 hc7 hw hs0
 go_enter Tryd.func40, Tryd.ntmps40
 go_wp2_with fail
 refine HMAY.out.mono ?_
 rintro e1 w1 ⟨rfl, hb⟩
 have HBq := ak hb
 clear hb hw0
 go_wp2_with fail
 go_ret
 exact ⟨_, rfl, O8.nil _ _, below_step HB0.out HBq.out⟩
theorem item_Bytes.calls (a0_0 a0_1 a0_2 a0_3 a0_4 a0_5 : Int) (A0_6 : Option Addr) (c0_6 : Nat) (l0_6 : List Int) (A0_7 : Option Addr) (c0_7 : Nat) (l0_7 : List Int) (r : List Int) (w : World) (hr0_6 : Kd.C (Kd.int .i64) w A0_6 l0_6.length l0_6) (hc0_6 : l0_6.length ≤ c0_6) (hr0_7 : Kd.C (Kd.int .u8) w A0_7 l0_7.length l0_7) (hc0_7 : l0_7.length ≤ c0_7) (hG : GB w) (h : item_Bytes.f a0_0 a0_1 a0_2 a0_3 a0_4 a0_5 l0_6 l0_7 = some r) :
  Calls Tryd.prog 40 #[.agg #[.int .i64 a0_0, .int .i64 a0_1, .int .i64 a0_2, .int .i64 a0_3, .int .i64 a0_4, .int .i64 a0_5, .slice A0_6 l0_6.length c0_6, .slice A0_7 l0_7.length c0_7]] w fun e w' => ∃ v0_ : Value, e = .returned (v0_) ∧ Kd.R (Kd.int .u8) 5 w' w.heap.size (fun _ => True) v0_ r ∧ Below w.heap.size w w' := by
 unfold item_Bytes.f at h
 by_cases hc : (Lit.int .i64 a0_0).wf = true ∧ l0_6.length < 10000 ∧ l0_7.length < 100000000
 ·
  rw [if_pos hc] at h
  have h := Option.some.inj h
  cases hm : mayB a0_0 a0_1 a0_2 a0_3 a0_4 a0_5 l0_6 l0_7.length
  ·
   rw [hm, if_neg Bool.false_ne_true] at h
   subst h
   exact (item_Bytes.no a0_0 a0_1 a0_2 a0_3 a0_4 a0_5 A0_6 c0_6 l0_6 A0_7 c0_7 l0_7 w hr0_6 hc0_6 hr0_7 hc0_7 hc.1 hm).mono fun _ _ ⟨v, h1, h2, h3⟩ => ⟨v, h1, Kd.R_mono h2 (fun _ _ => trivial), h3⟩
  ·
   rw [hm, if_pos rfl] at h
   subst h
   exact (item_Bytes.yes a0_0 a0_1 a0_2 a0_3 a0_4 a0_5 A0_6 c0_6 l0_6 A0_7 c0_7 l0_7 w hr0_6 hc0_6 hr0_7 hc0_7 hG hc.1 hc.2.1 hc.2.2 hm).mono fun _ _ ⟨v, h1, h2, h3⟩ => ⟨v, h1, Kd.R_mono h2 (fun _ _ => trivial), h3⟩
 ·
  rw [if_neg hc] at h; cases h
end Go.Proofs.YtieolhhokepkjaaDoor.Print
