/- What giving, dropping and doubling letters give, the program's and the document's, as Lean functions, and that each call does just that. Conditions stand in each theorem. -/
import Derived.Test.YthmgaeecfhmenaaHand
namespace Go.Proofs.Ythmgaeecfhmenaa.Print
set_option linter.unusedVariables false
set_option linter.unusedSimpArgs false
open Go.RowKit Go.Proofs.YthmgaeecfhmenaaW.PrintWords Go.Proofs.YthmgaeecfhmenaaW.PrintLast Go.Proofs.YthmgaeecfhmenaaW.PrintMore
theorem reps_take {α : Type} {R : α → List Value → Prop} {s : Nat} {ps : List α} {cs : List Value} (h : Reps R s ps cs) (p : Nat) (hp : p ≤ ps.length) : Reps R s (ps.take p) (cs.take (p * s)) := by
  have hl := h.1
  have h1 : p * s ≤ cs.length := by rw [hl]; exact Nat.mul_le_mul_right _ hp
  refine ⟨by rw [List.length_take, List.length_take, Nat.min_eq_left h1, Nat.min_eq_left hp], fun j q hq => ?_⟩
  rw [List.getElem?_take] at hq
  by_cases hj : j < p
  · rw [if_pos hj] at hq
    have hb := h.2 j q hq
    have h2 : j * s + s ≤ p * s := by rw [← Nat.succ_mul]; exact Nat.mul_le_mul_right _ hj
    rw [List.drop_take, List.take_take, Nat.min_eq_left (by omega)]
    exact hb
  · rw [if_neg hj] at hq; cases hq
theorem reps_append {α : Type} {R : α → List Value → Prop} {s : Nat} {a b : List α} {ca cb : List Value} (ha : Reps R s a ca) (hb : Reps R s b cb) : Reps R s (a ++ b) (ca ++ cb) := by
  have la := ha.1
  have lb := hb.1
  refine ⟨by rw [List.length_append, la, lb, List.length_append, Nat.add_mul], fun j q hq => ?_⟩
  by_cases hj : j < a.length
  · rw [List.getElem?_append_left hj] at hq
    have h2 : j * s + s ≤ a.length * s := by rw [← Nat.succ_mul]; exact Nat.mul_le_mul_right _ hj
    rw [List.drop_append_of_le_length (by omega), List.take_append_of_le_length (by rw [List.length_drop]; omega)]
    exact ha.2 j q hq
  · rw [List.getElem?_append_right (by omega)] at hq
    have h3 := hb.2 (j - a.length) q hq
    rw [List.drop_append, List.drop_of_length_le (by rw [la]; exact Nat.mul_le_mul_right _ (by omega)), List.nil_append, la, ← Nat.sub_mul]
    exact h3
def net_Give.f (l0 : List S29) (a1 : Int) : Option (Int × List Int × Bool × List S29 × Int) :=
  if limL l0 then some (if 0 ≤ a1 ∧ a1 < (l0.length : Int) then ((rd_T29 l0 a1).f0, (rd_T29 l0 a1).f1, (rd_T29 l0 a1).f2, l0.take a1.toNat ++ l0.drop (a1.toNat + 1), 0) else (0, [], false, l0, 7)) else none
theorem net_Give.calls (P0_ : Nat → Prop) (A0 : Option Addr) (c0 : Nat) (l0 : List S29) (a1 : Int) (r1 : Int) (r2 : List Int) (r3 : Bool) (r4 : List S29) (r5 : Int) (w : World) (hs0 : Kd.V k29 29 w w.heap.size (fun k_ => P0_ k_) (.slice A0 l0.length c0) l0) (h : net_Give.f l0 a1 = some (r1, r2, r3, r4, r5)) :
    Calls Try.prog 11 #[.slice A0 l0.length c0, .int .i64 a1] w fun e w' => ∃ v1_ v3_ : Value, e = .returned (.tuple #[.agg #[.int .i64 r1, v1_, .bool r3], v3_, .int .i64 r5]) ∧ Kd.V (Kd.int .u8) 5 w' w.heap.size (fun k_ => (P0_ k_ ∨ w.heap.size ≤ k_)) v1_ r2 ∧
      Kd.V k29 29 w' w.heap.size (fun k_ => (P0_ k_ ∨ w.heap.size ≤ k_)) v3_ r4 ∧ Below w.heap.size w w' := by
  unfold net_Give.f at h
  by_cases hc : limL l0
  · rw [if_pos hc] at h
    have h := Option.some.inj h
    have hlim : l0.length < 3518437208000 := hc
    have HTH := Lib.hid (fun w' => net_there.calls0 A0 l0.length c0 a1 w' (by omega))
    by_cases hin : 0 ≤ a1 ∧ a1 < (l0.length : Int)
    · rw [if_pos hin] at h
      rw [decide_eq_true hin] at HTH
      obtain ⟨p, rfl⟩ : ∃ p : Nat, a1 = (p : Int) := ⟨a1.toNat, by omega⟩
      rw [Int.toNat_natCast] at h
      simp only [Prod.mk.injEq] at h
      obtain ⟨rfl, rfl, rfl, rfl, rfl⟩ := h
      obtain ⟨k, hk⟩ : ∃ k : Nat, l0.length = p + k + 1 := ⟨l0.length - p - 1, by omega⟩
      obtain ⟨_, hcap, hF⟩ := Kd.V_at hs0
      have hFb := Kd.F_bound hF
      obtain ⟨ad, A1, c1, rfl, q0, q1, q2, hl1, hF1⟩ := elem hFb p (by omega)
      have hFc := Kd.F_cut hFb (show p + 1 ≤ l0.length by omega) hcap
      obtain ⟨iL, hiL, hzL, hsL, hbL⟩ := info_parts info29
      have hsz : k29.sz = 3 := rfl
      rw [hsz] at hFc
      have hsl1 := cut_from (P := Try.prog) 22 29 .i64 Try.underlying22 hiL 3 hsL (some ad) l0.length c0 ((p : Int) + 1) (by omega) (by omega)
      rw [show ((p : Int) + 1).toNat = p + 1 by omega] at hsl1
      generalize hpA : (if c0 = p + 1 then some ad else Option.map (fun x => x.add ((p + 1) * 3)) (some ad)) = pA at hsl1 hFc
      obtain ⟨cs2, hcl2, hR2, hpos2, hsrc2⟩ := flat hFc
      have h1c2 := reps_one hR2 (by decide)
      have hcl2' : cs2.length = k * 3 := by rw [hcl2, List.length_drop, hsz, show l0.length - (p + 1) = k by omega]
      have HF := Aside0.mk hFb
      have HF1 := Aside0.mk hF1
      have HL1 := Aside0.mk hl1
      have HIL := Lib.hid hiL
      have HSL := Lib.hid hsL
      have HSZ := Lib.hid (show (Try.prog.info? 29).map (·.size) = some 3 by rw [hiL]; simp [hsL])
      have HCL2 := Lib.hid hcl2'
      have HR2 := Lib.hid hR2
      have HPOS2 := Lib.hid hpos2
      have HSRC2 := Lib.hid hsrc2
      have H1C2 := Lib.hid h1c2
      have HK := Lib.hid hk
      have hw1 : IntKind.i64.wrap ((p : Int) + (k : Int)) = (p : Int) + (k : Int) := IntWalk.i64_in _ (by omega)
      have hw2 : IntKind.i64.wrap ((p : Int) + 1) = (p : Int) + 1 := IntWalk.i64_in _ (by omega)
      generalize (rd_T29 l0 p).f0 = xa at *
      generalize (rd_T29 l0 p).f1 = xb at *
      generalize (rd_T29 l0 p).f2 = xc at *
      have hpi : (p : Int) < (l0.length : Int) := hin.2
      have hp0 : (0 : Int) ≤ (p : Int) := by omega
      have HCAP := Lib.hid hcap
      have HLIM := Lib.hid hlim
      replace q0 := pk (below_alloc (Below.refl w.heap.size w) (Obj.cells #[.int .i64 0, .slice none 0 0, .bool false] 29)) q0
      replace q1 := pk (below_alloc (Below.refl w.heap.size w) (Obj.cells #[.int .i64 0, .slice none 0 0, .bool false] 29)) q1
      replace q2 := pk (below_alloc (Below.refl w.heap.size w) (Obj.cells #[.int .i64 0, .slice none 0 0, .bool false] 29)) q2
      clear hs0 hF hFb hF1 hl1 hin hc hcap hlim h hFc hcl2 hcl2' hR2 hpos2 hsrc2 h1c2 hiL hzL hsL hbL hsz hpA hk
      go_enter Try.func11, Try.ntmps11
      go_wp2_with fail
      refine (HTH.out _).mono ?_
      rintro e w' ⟨rfl, rfl⟩
      go_wp2_with fail
      have hW := blk_new (w.alloc (Obj.cells #[.int .i64 0, .slice none 0 0, .bool false] 29)) (Obj.cells #[.int .i64 xa, .slice A1 xb.length c1, .bool xc] 29)
      have hW0 := blk_alloc (blk_new w (Obj.cells #[.int .i64 0, .slice none 0 0, .bool false] 29)) (Obj.cells #[.int .i64 xa, .slice A1 xb.length c1, .bool xc] 29)
      have HB := Aside0.mk (below_alloc (below_alloc (Below.refl w.heap.size w) (Obj.cells #[.int .i64 0, .slice none 0 0, .bool false] 29)) (Obj.cells #[.int .i64 xa, .slice A1 xb.length c1, .bool xc] 29))
      rw [show (w.alloc (Obj.cells #[.int .i64 0, .slice none 0 0, .bool false] 29)).heap.size = w.heap.size + 1 by simp] at hW
      generalize (w.alloc (Obj.cells #[.int .i64 0, .slice none 0 0, .bool false] 29)).alloc (Obj.cells #[.int .i64 xa, .slice A1 xb.length c1, .bool xc] 29) = W2 at *
      refine (net_row.raw (fun k => P0_ k ∧ k < w.heap.size) (some ad) c0 l0 0 (by decide) W2 (Kd.V_mk HCAP.out (Kd.F_below HF.out HB.out)) HLIM.out).mono ?_
      rintro e w3 ⟨rfl, hb, cs, zs, hg, hz, hR⟩
      obtain rfl := List.eq_nil_of_length_eq_zero (show zs.length = 0 by omega)
      rw [List.append_nil] at hg
      have hcl : cs.length = l0.length * 3 := hR.1
      have hW3 := blk_below hW hb
      have hW4 := blk_below hW0 hb
      have hlt7 := blk_lt hW
      have n0_ := Aside0.mk (below_step HB.out hb)
      have HB23 := Aside0.mk hb
      clear HB hW hW0 hb hz
      have HB := n0_
      clear n0_
      generalize hgg : W2.heap.size = g at *
      have hsl2 := cut_from (P := Try.prog) 22 29 .i64 Try.underlying22 HIL.out 3 HSL.out (some ⟨g, 0, none⟩) l0.length l0.length (p : Int) (by omega) (by omega)
      rw [Int.toNat_natCast, if_neg (by omega), Option.map_some, add_plain] at hsl2
      have hsl3 := cut_to (P := Try.prog) 22 29 .i64 Try.underlying22 HIL.out (some ⟨g, 0, none⟩) l0.length l0.length ((p : Int) + (k : Int)) (by omega) (by have := HK.out; omega) (Nat.le_refl _)
      rw [show ((p : Int) + (k : Int)).toNat = p + k by omega] at hsl3
      have HG := Lib.hid hg
      have HR := Lib.hid hR
      have HCL := Lib.hid hcl
      have HW3 := Lib.hid hW3
      have HW4 := Lib.hid hW4
      have HGG := Lib.hid hgg
      have HLT7 := Lib.hid hlt7
      clear hg hR hcl hW3 hW4 hgg hlt7
      go_wp2_with fail
      refine start_ (n := 11) (S := fun w' => True) (ds := []) #[false, false, false, false, false, false, false, false, false, false, false] (by kernel_rfl) rfl rfl trivial (fun hHeld => ?_)
      have HG1 := Lib.hid (blk_drew HG.out)
      have HW5 := Lib.hid (blk_drew HW3.out)
      have HW6 := Lib.hid (blk_drew HW4.out)
      have HB3 := HB
      have n0_ := Aside0.mk (below_drew1 HB.out)
      clear HB
      have HB := n0_
      clear n0_
      have HBw := HB
      generalize hw4_ : w3.drew = w4 at *
      clear hw4_
      refine pure_ (i := 0) (N := some 22) (v := ?_) (a' := ?_) #[true, false, false, false, false, false, false, false, false, false, false] rfl rfl (by kernel_rfl) (fun _ _ _ h => h) (Or.inl ⟨by rfl, ?_⟩) ?_ ?_
      rotate_left
      · intro w'
        go_simp
        with_reducible rfl
      rotate_left
      · simp only [Act.put, List.setIfInBounds_toArray, List.set_cons_zero, List.set_cons_succ, i64_w, i32_w]
        rfl
      refine pure_ (i := 1) (N := some 23) (v := ?_) (a' := ?_) #[true, true, false, false, false, false, false, false, false, false, false] rfl rfl (by kernel_rfl) (fun _ _ _ h => h) (Or.inl ⟨by rfl, ?_⟩) ?_ ?_
      rotate_left
      · intro w'
        go_simp
        with_reducible rfl
      rotate_left
      · simp only [Act.put, List.setIfInBounds_toArray, List.set_cons_zero, List.set_cons_succ, i64_w, i32_w]
        rfl
      refine pure_ (i := 2) (N := some 24) (v := ?_) (a' := ?_) #[true, true, true, false, false, false, false, false, false, false, false] rfl rfl (by kernel_rfl) (fun _ _ _ h => h) (Or.inl ⟨by rfl, ?_⟩) ?_ ?_
      rotate_left
      · intro w'
        go_simp
        with_reducible rfl
      rotate_left
      · simp only [Act.put, List.setIfInBounds_toArray, List.set_cons_zero, List.set_cons_succ, i64_w, i32_w]
        rfl
      refine pure_ (i := 3) (N := some 25) (v := ?_) (a' := ?_) #[true, true, true, true, false, false, false, false, false, false, false] rfl rfl (by kernel_rfl) (fun _ _ _ h => h) (Or.inl ⟨by rfl, ?_⟩) ?_ ?_
      rotate_left
      · intro w'
        go_simp
        with_reducible rfl
      rotate_left
      · simp only [Act.put, List.setIfInBounds_toArray, List.set_cons_zero, List.set_cons_succ, i64_w, i32_w]
        rfl
      refine pure_ (i := 4) (N := some 26) (v := ?_) (a' := ?_) #[true, true, true, true, true, false, false, false, false, false, false] rfl rfl (by kernel_rfl) (fun _ _ _ h => h) (Or.inl ⟨by rfl, ?_⟩) ?_ ?_
      rotate_left
      · intro w'
        go_simp
        with_reducible rfl
      rotate_left
      · simp only [Act.put, List.setIfInBounds_toArray, List.set_cons_zero, List.set_cons_succ, i64_w, i32_w]
        rfl
      refine pure_ (i := 5) (N := some 27) (v := ?_) (a' := ?_) #[true, true, true, true, true, true, false, false, false, false, false] rfl rfl (by kernel_rfl) (fun _ _ _ h => h) (Or.inl ⟨by rfl, ?_⟩) ?_ ?_
      rotate_left
      · intro w'
        go_simp
        with_reducible rfl
      rotate_left
      · simp only [Act.put, List.setIfInBounds_toArray, List.set_cons_zero, List.set_cons_succ, i64_w, i32_w]
        rfl
      refine pure_ (i := 6) (N := some 28) (v := ?_) (a' := ?_) #[true, true, true, true, true, true, true, false, false, false, false] rfl rfl (by kernel_rfl) (fun _ _ _ h => h) (Or.inl ⟨by rfl, ?_⟩) ?_ ?_
      rotate_left
      · intro w'
        go_simp
        with_reducible rfl
      rotate_left
      · simp only [Act.put, List.setIfInBounds_toArray, List.set_cons_zero, List.set_cons_succ, i64_w, i32_w]
        rfl
      refine pure_ (i := 7) (N := some 29) (v := ?_) (a' := ?_) #[true, true, true, true, true, true, true, true, false, false, false] rfl rfl (by kernel_rfl) (fun _ _ _ h => h) (Or.inl ⟨by rfl, ?_⟩) ?_ ?_
      rotate_left
      · intro w'
        go_simp
        with_reducible rfl
      rotate_left
      · simp only [Act.put, List.setIfInBounds_toArray, List.set_cons_zero, List.set_cons_succ, i64_w, i32_w]
        rfl
      refine one_ (i := 8) (N := some 30) #[true, true, true, true, true, true, true, true, true, false, false] rfl rfl (by kernel_rfl) (by decide) (fun K hK => ?_)
      refine step_copy_sz (by rfl) (.tmp 25) (.tmp 29) 22 22 rfl 29 Try.underlying22 3 HSZ.out g (p * 3) (l0.length - p) (l0.length - p) pA (l0.length - (p + 1)) (c0 - (p + 1)) rfl rfl cs 29 HG1.out cs2 ?k1 HPOS2.out ?k2 ?k3 H1C2.out g w4 (Below.refl g w4) (Nat.le_refl _) ?_
      (case k1 => rw [HCL2.out, show Nat.min (l0.length - (p + 1)) (l0.length - p) = k from (show min (l0.length - (p + 1)) (l0.length - p) = k by have := HK.out; omega)])
      (case k2 => exact fun a2 he j v hv => pk HBw.out (HSRC2.out a2 he j v hv))
      (case k3 => rw [HCL2.out, HCL.out]; have := HK.out; omega)
      intro w5 hg5 hb5
      rw [show Nat.min (l0.length - (p + 1)) (l0.length - p) = k from (show min (l0.length - (p + 1)) (l0.length - p) = k by have := HK.out; omega)]
      have HG5 := Lib.hid hg5
      have HB5 := Aside0.mk hb5
      clear hg5 hb5
      refine hK.out _ _ trivial (fun hHeld => ?_)
      clear hK K
      refine norm_ (a' := ?_) ?_ ?_
      rotate_left
      · show Act.put _ (some 30) _ = _
        simp only [Act.put, List.setIfInBounds_toArray, List.set_cons_zero, List.set_cons_succ, i64_w, i32_w]
        rfl
      refine pure_ (i := 9) (N := some 31) (v := ?_) (a' := ?_) #[true, true, true, true, true, true, true, true, true, true, false] rfl rfl (by kernel_rfl) (fun _ _ _ h => h) (Or.inl ⟨by rfl, ?_⟩) ?_ ?_
      rotate_left
      · intro w'
        go_simp
        with_reducible rfl
      rotate_left
      · simp only [Act.put, List.setIfInBounds_toArray, List.set_cons_zero, List.set_cons_succ, i64_w, i32_w]
        rfl
      refine pure_ (i := 10) (N := some 9) (v := ?_) (a' := ?_) #[true, true, true, true, true, true, true, true, true, true, true] rfl rfl (by kernel_rfl) (fun _ _ _ h => h) (Or.inl ⟨by rfl, ?_⟩) ?_ ?_
      rotate_left
      · intro w'
        go_simp
        with_reducible rfl
      rotate_left
      · simp only [Act.put, List.setIfInBounds_toArray, List.set_cons_zero, List.set_cons_succ, i64_w, i32_w]
        rfl
      refine done_ (by kernel_rfl) ?_
      go_wp2_with fail
      clear hHeld
      have hgw : w.heap.size + 1 < g := HLT7.out
      have hb4 := HB5.out
      have n0_ := Aside0.mk ((HB.out).trans (hb4.mono (by omega)))
      have hX7 := (hb4.block _ hgw).trans HW5.out
      have hX4 := (hb4.block _ (by omega : w.heap.size < g)).trans HW6.out
      have HB9 := n0_
      clear HB n0_
      have HB := HB9
      clear HB9
      have q0 := (blk_cell hX7 0).trans (show _ = some (Value.int .i64 xa) from rfl)
      have q1 := (blk_cell hX7 1).trans (show _ = some (Value.slice A1 xb.length c1) from rfl)
      have q2 := (blk_cell hX7 2).trans (show _ = some (Value.bool xc) from rfl)
      have y0 := (blk_cell hX4 0).trans (show _ = some (Value.int .i64 0) from rfl)
      have y1 := (blk_cell hX4 1).trans (show _ = some (Value.slice none 0 0) from rfl)
      have y2 := (blk_cell hX4 2).trans (show _ = some (Value.bool false) from rfl)
      have f0 := blk_frozen hX4 0
      have f1 := blk_frozen hX4 1
      have f2 := blk_frozen hX4 2
      have HX4 := Aside0.mk hX4
      clear hX4 hX7 hb4
      refine start_ (n := 7) (S := fun w' => w'.cell? ⟨w.heap.size + 1, 0, none⟩ = some (.int .i64 xa) ∧ w'.cell? ⟨w.heap.size + 1, 1, none⟩ = some (.slice A1 xb.length c1) ∧ w'.cell? ⟨w.heap.size + 1, 2, none⟩ = some (.bool xc)) (ds := [4]) #[false, false, false, false, false, false, false] (by kernel_rfl) rfl rfl ⟨q0, q1, q2⟩ (fun hHeld => ?_)
      refine pure_ (i := 1) (N := some 33) (v := ?_) (a' := ?_) #[false, true, false, false, false, false, false] rfl rfl (by kernel_rfl) (fun _ _ _ h => h) (Or.inl ⟨by rfl, ?_⟩) ?_ ?_
      rotate_left
      · intro w'
        go_simp
        with_reducible rfl
      rotate_left
      · simp only [Act.put, List.setIfInBounds_toArray, List.set_cons_zero, List.set_cons_succ, i64_w, i32_w]
        rfl
      refine pure_ (i := 2) (N := some 34) (v := ?_) (a' := ?_) #[false, true, true, false, false, false, false] rfl rfl (by kernel_rfl) (fun _ _ _ h => h) (Or.inl ⟨by rfl, ?_⟩) ?_ ?_
      rotate_left
      · intro w'
        go_simp
        with_reducible rfl
      rotate_left
      · simp only [Act.put, List.setIfInBounds_toArray, List.set_cons_zero, List.set_cons_succ, i64_w, i32_w]
        rfl
      refine pure_ (i := 3) (N := some 35) (v := ?_) (a' := ?_) #[false, true, true, true, false, false, false] rfl rfl (by kernel_rfl) (fun _ _ _ h => h) (Or.inl ⟨by rfl, ?_⟩) ?_ ?_
      rotate_left
      · intro w'
        go_simp
        with_reducible rfl
      rotate_left
      · simp only [Act.put, List.setIfInBounds_toArray, List.set_cons_zero, List.set_cons_succ, i64_w, i32_w]
        rfl
      refine take_ (i := 0) (N := some 32) (v := ?_) (a' := ?_) #[true, true, true, true, false, false, false] rfl rfl (by kernel_rfl) (fun _ _ _ h => h) (Or.inl ⟨by rfl, ?_⟩) hHeld ?_ ?_
      rotate_left
      · rintro w' ⟨s0, s1, s2⟩
        go_simp
        with_reducible rfl
      rotate_left
      · simp only [Act.put, List.setIfInBounds_toArray, List.set_cons_zero, List.set_cons_succ, i64_w, i32_w]
        rfl
      refine last_ (i := 4) (N := none) #[true, true, true, true, true, false, false] rfl rfl (by kernel_rfl) (by decide) (fun K hK => ?_)
      refine skip_ (w1 := ?_) (by rfl) rfl ?_ ?_
      rotate_left
      · go_simp
        rfl
      refine hK.out _ _ ?_
      clear hK K
      refine pure_ (i := 5) (N := some 5) (v := ?_) (a' := ?_) #[true, true, true, true, true, true, false] rfl rfl (by kernel_rfl) (fun _ _ _ h => h) (Or.inl ⟨by rfl, ?_⟩) ?_ ?_
      rotate_left
      · intro w'
        go_simp
        with_reducible rfl
      rotate_left
      · simp only [Act.put, List.setIfInBounds_toArray, List.set_cons_zero, List.set_cons_succ, i64_w, i32_w]
        rfl
      refine pure_ (i := 6) (N := some 6) (v := ?_) (a' := ?_) #[true, true, true, true, true, true, true] rfl rfl (by kernel_rfl) (fun _ _ _ h => h) (Or.inl ⟨by rfl, ?_⟩) ?_ ?_
      rotate_left
      · intro w'
        go_simp
        with_reducible rfl
      rotate_left
      · simp only [Act.put, List.setIfInBounds_toArray, List.set_cons_zero, List.set_cons_succ, i64_w, i32_w]
        rfl
      refine done_ (by kernel_rfl) ?_
      go_wp2_with fail
      have hbA : Below w.heap.size w ((((w5.setCell ⟨w.heap.size, 0, none⟩ (.int .i64 xa)).setCell ⟨w.heap.size, 1, none⟩ (.slice A1 xb.length c1)).setCell ⟨w.heap.size, 2, none⟩ (.bool xc)).drew) := below_drew1 (((HB.out.setCell (Nat.le_refl _) _).setCell (Nat.le_refl _) _).setCell (Nat.le_refl _) _)
      have hX9 := blk_drew (blk_set (blk_set (blk_set HX4.out 0 (.int .i64 xa)) 1 (.slice A1 xb.length c1)) 2 (.bool xc))
      have hneg : g ≠ w.heap.size := by omega
      have hG9 := blk_drew (blk_far (blk_far (blk_far HG5.out (p := ⟨w.heap.size, 0, none⟩) hneg (.int .i64 xa)) (p := ⟨w.heap.size, 1, none⟩) hneg (.slice A1 xb.length c1)) (p := ⟨w.heap.size, 2, none⟩) hneg (.bool xc))
      generalize ((((w5.setCell ⟨w.heap.size, 0, none⟩ (.int .i64 xa)).setCell ⟨w.heap.size, 1, none⟩ (.slice A1 xb.length c1)).setCell ⟨w.heap.size, 2, none⟩ (.bool xc)).drew) = w9 at *
      have hRa := (reps_take HR.out p (by have := HK.out; omega)).imp_ (R' := Kd.FK k29 w9 (fun k => P0_ k ∧ k < w.heap.size)) (fun x c hk => Kd.FK_mono (Kd.FK_step hk (fun j hj _ => (hbA.block j hj.1.2).trans (HB3.out.block j hj.1.2).symm)) (fun j hj => hj.1))
      have hRb := HR2.out.imp_ (R' := Kd.FK k29 w9 (fun k => P0_ k ∧ k < w.heap.size)) (fun x c hk => Kd.FK_below hk hbA)
      have hlen : (l0.take p ++ l0.drop (p + 1)).length = p + k := by rw [List.length_append, List.length_take, List.length_drop]; have := HK.out; omega
      have hN := N_block (base := w.heap.size) (cap := l0.length) (ok := fun k => P0_ k ∨ w.heap.size ≤ k) hG9 (by omega) (by rw [hlen, List.length_drop, HCL.out, HCL2.out, show k29.sz = 3 from rfl]; have := HK.out; omega) (by rw [hlen]; have := HK.out; omega) (by have := HLIM.out; omega) (reps_append hRa hRb) (Or.inr (by omega)) (fun j hj => ⟨Or.inl hj.1, by have := hj.2; omega⟩)
      rw [hlen] at hN
      have HN := Aside0.mk hN
      have HBA := Aside0.mk hbA
      have hc9 := (blk_cell hX9 0).trans (show _ = some (Value.int .i64 xa) from rfl)
      have hc9' := (blk_cell hX9 1).trans (show _ = some (Value.slice A1 xb.length c1) from rfl)
      have hc9'' := (blk_cell hX9 2).trans (show _ = some (Value.bool xc) from rfl)
      clear hRa hRb hlen hN hG9 hbA
      refine bodyPost_ret (v := .tuple #[.agg #[.int .i64 xa, .slice A1 xb.length c1, .bool xc], .slice (some ⟨g, 0, none⟩) (p + k) l0.length, .int .i64 0]) (by simp [results, Try.results11, go_sem, hc9, hc9', hc9'']) rfl ⟨_, _, rfl, Kd.V_mk HL1.out (Kd.F_mono (Kd.F_below HF1.out HBA.out) (fun _ hk => Or.inl hk.1)), Kd.N_V HN.out, HBA.out⟩
    · rw [if_neg hin] at h
      simp only [Prod.mk.injEq] at h
      obtain ⟨rfl, rfl, rfl, rfl, rfl⟩ := h
      rw [decide_eq_false hin] at HTH
      have HV := Aside0.mk hs0
      clear hs0 hin hc hlim
      go_enter Try.func11, Try.ntmps11
      go_wp2_with fail
      refine (HTH.out _).mono ?_
      rintro e w' ⟨rfl, rfl⟩
      go_wp2_with fail
      refine bodyPost_ret (v := .tuple #[.agg #[.int .i64 0, .slice none 0 0, .bool false], .slice A0 l0.length c0, .int .i64 7]) (by simp [results, Try.results11, go_sem]) rfl ⟨_, _, rfl, Kd.V_nil _ _ _ _ _, Kd.V_mono (Kd.V_alloc HV.out _) (fun _ hk => Or.inl hk), below_alloc (Below.refl _ _) _⟩
  · rw [if_neg hc] at h
    cases h
def net_Drop.f (l0 : List S29) (a1 : Int) : Option (List S29 × Int) := (net_Give.f l0 a1).bind fun r => some (r.2.2.2.1, r.2.2.2.2)
theorem net_Drop.calls (P0_ : Nat → Prop) (A0 : Option Addr) (c0 : Nat) (l0 : List S29) (a1 : Int) (r1 : List S29) (r2 : Int) (w : World) (hs0 : Kd.V k29 29 w w.heap.size (fun k_ => P0_ k_) (.slice A0 l0.length c0) l0) (h : net_Drop.f l0 a1 = some (r1, r2)) :
    Calls Try.prog 13 #[.slice A0 l0.length c0, .int .i64 a1] w fun e w' => ∃ v0_ : Value, e = .returned (.tuple #[v0_, .int .i64 r2]) ∧ Kd.V k29 29 w' w.heap.size (fun k_ => (P0_ k_ ∨ w.heap.size ≤ k_)) v0_ r1 ∧ Below w.heap.size w w' := by
  obtain ⟨⟨x1, x2, x3, x4, x5⟩, hg, h⟩ := Option.bind_eq_some_iff.1 h
  simp only [Option.some.injEq, Prod.mk.injEq] at h
  obtain ⟨rfl, rfl⟩ := h
  have HG := Lib.hid (net_Give.calls P0_ A0 c0 l0 a1 x1 x2 x3 x4 x5 w hs0 hg)
  clear hs0 hg
  go_enter Try.func13, Try.ntmps13
  go_wp2_with fail
  refine HG.out.mono ?_
  rintro e w1 ⟨v1, v3, rfl, ⟨A1, c1, rfl, hl1, hF1⟩, hV, hb⟩
  have HV := Aside0.mk hV
  have HB := Aside0.mk hb
  clear hl1 hF1 hV hb HG
  go_wp2_with fail
  go_ret2
  exact ⟨_, rfl, Kd.V_alloc HV.out _, below_alloc HB.out _⟩
def precentorref05_Give.f (l0 : List S29) (a1 : Int) : Option (Int × List Int × Bool × List S29 × Int) := net_Give.f l0 a1
theorem precentorref05_Give.calls (P0_ : Nat → Prop) (A0 : Option Addr) (c0 : Nat) (l0 : List S29) (a1 : Int) (r1 : Int) (r2 : List Int) (r3 : Bool) (r4 : List S29) (r5 : Int) (w : World) (hs0 : Kd.V k29 29 w w.heap.size (fun k_ => P0_ k_) (.slice A0 l0.length c0) l0) (h : precentorref05_Give.f l0 a1 = some (r1, r2, r3, r4, r5)) :
    Calls Try.prog 12 #[.slice A0 l0.length c0, .int .i64 a1] w fun e w' => ∃ v1_ v3_ : Value, e = .returned (.tuple #[.agg #[.int .i64 r1, v1_, .bool r3], v3_, .int .i64 r5]) ∧ Kd.V (Kd.int .u8) 5 w' w.heap.size (fun k_ => (P0_ k_ ∨ w.heap.size ≤ k_)) v1_ r2 ∧
      Kd.V k29 29 w' w.heap.size (fun k_ => (P0_ k_ ∨ w.heap.size ≤ k_)) v3_ r4 ∧ Below w.heap.size w w' := by
  unfold precentorref05_Give.f net_Give.f at h
  by_cases hc : limL l0
  · rw [if_pos hc] at h
    have h := Option.some.inj h
    have hlim : l0.length < 3518437208000 := hc
    by_cases hin : 0 ≤ a1 ∧ a1 < (l0.length : Int)
    · rw [if_pos hin] at h
      obtain ⟨p, rfl⟩ : ∃ p : Nat, a1 = (p : Int) := ⟨a1.toNat, by omega⟩
      rw [Int.toNat_natCast] at h
      simp only [Prod.mk.injEq] at h
      obtain ⟨rfl, rfl, rfl, rfl, rfl⟩ := h
      obtain ⟨k, hk⟩ : ∃ k : Nat, l0.length = p + k + 1 := ⟨l0.length - p - 1, by omega⟩
      obtain ⟨_, hcap, hF⟩ := Kd.V_at hs0
      have hFb := Kd.F_bound hF
      obtain ⟨ad, A1, c1, rfl, q0, q1, q2, hl1, hF1⟩ := elem hFb p (by omega)
      have hFc := Kd.F_cut hFb (show p + 1 ≤ l0.length by omega) hcap
      have hFt := Kd.F_take hFb (show p ≤ l0.length by omega)
      rw [List.length_drop, show l0.length - (p + 1) = k by omega] at hFc
      rw [List.length_take, Nat.min_eq_left (by omega)] at hFt
      obtain ⟨iL, hiL, hzL, hsL, hbL⟩ := info_parts info29
      have hsz : k29.sz = 3 := rfl
      rw [hsz] at hFc
      have hsl1 := cut_from (P := Try.prog) 22 29 .i64 Try.underlying22 hiL 3 hsL (some ad) l0.length c0 ((p : Int) + 1) (by omega) (by omega)
      rw [show ((p : Int) + 1).toNat = p + 1 by omega, show l0.length - (p + 1) = k by omega] at hsl1
      have hsl2 := cut_to (P := Try.prog) 22 29 .i64 Try.underlying22 hiL (some ad) l0.length c0 (p : Int) (by omega) (by omega) hcap
      rw [Int.toNat_natCast] at hsl2
      generalize hpA : (if c0 = p + 1 then some ad else Option.map (fun x => x.add ((p + 1) * 3)) (some ad)) = pA at hsl1 hFc
      have HFC := Aside0.mk hFc
      have HFT := Aside0.mk hFt
      have HF1 := Aside0.mk hF1
      have HL1 := Aside0.mk hl1
      have HK := Lib.hid hk
      have hw2 : IntKind.i64.wrap ((p : Int) + 1) = (p : Int) + 1 := IntWalk.i64_in _ (by omega)
      generalize (rd_T29 l0 p).f0 = xa at *
      generalize (rd_T29 l0 p).f1 = xb at *
      generalize (rd_T29 l0 p).f2 = xc at *
      have hpi : (p : Int) < (l0.length : Int) := hin.2
      have hp0 : (0 : Int) ≤ (p : Int) := by omega
      have hd1 : decide ((p : Int) < 0) = false := decide_eq_false (by omega)
      have hd2 : decide ((p : Int) ≥ (l0.length : Int)) = false := decide_eq_false (by omega)
      have hd3 : decide (l0.length ≤ p) = false := decide_eq_false (by omega)
      have HLIM := Lib.hid hlim
      clear hs0 hF hFb hF1 hl1 hin hc hcap hlim h hFc hFt hiL hzL hsL hbL hsz hpA hk
      go_enter Try.func12, Try.ntmps12
      go_wp2_with fail
      have hX4 := blk_new w (Obj.cells #[.int .i64 0, .slice none 0 0, .bool false] 29)
      have HB := Aside0.mk (below_alloc (Below.refl w.heap.size w) (Obj.cells #[.int .i64 0, .slice none 0 0, .bool false] 29))
      have hbg := Below.refl (w.heap.size + 1) (w.alloc (Obj.cells #[.int .i64 0, .slice none 0 0, .bool false] 29))
      have hsz1 : w.heap.size + 1 ≤ (w.alloc (Obj.cells #[.int .i64 0, .slice none 0 0, .bool false] 29)).heap.size := by simp
      generalize w.alloc (Obj.cells #[.int .i64 0, .slice none 0 0, .bool false] 29) = W1 at *
      have p0 := pk HB.out q0
      have p1 := pk HB.out q1
      have p2 := pk HB.out q2
      have HX4 := Lib.hid hX4
      have HB1 := Aside0.mk hbg
      have HSZ1 := Lib.hid hsz1
      clear hX4 hbg hsz1
      refine start_ (n := 17) (S := fun w' => w'.cell? (ad.add (p * 3)) = some (.int .i64 xa) ∧ w'.cell? ⟨(ad.add (p * 3)).block, (ad.add (p * 3)).off + 1, none⟩ = some (.slice A1 xb.length c1) ∧ w'.cell? ⟨(ad.add (p * 3)).block, (ad.add (p * 3)).off + 2, none⟩ = some (.bool xc)) (ds := [14]) #[false, false, false, false, false, false, false, false, false, false, false, false, false, false, false, false, false] (by kernel_rfl) rfl rfl ⟨p0, p1, p2⟩ (fun hHeld => ?_)
      have HB0 := HB
      have n0_ := Aside0.mk (below_drew1 HB.out)
      have n1_ := Aside0.mk (HB1.out.drew)
      have HSZ2 := Lib.hid (show w.heap.size + 1 ≤ W1.drew.heap.size from HSZ1.out)
      clear HB HB1
      have HB := n0_
      have HB1 := n1_
      clear n0_ n1_
      generalize hw4_ : W1.drew = W2 at *
      clear hw4_
      refine pure_ (i := 0) (N := some 17) (v := ?_) (a' := ?_) #[true, false, false, false, false, false, false, false, false, false, false, false, false, false, false, false, false] rfl rfl (by kernel_rfl) (fun _ _ _ h => h) (Or.inl ⟨by rfl, ?_⟩) ?_ ?_
      rotate_left
      · intro w'
        go_simp
        with_reducible rfl
      rotate_left
      · simp only [Act.put, List.setIfInBounds_toArray, List.set_cons_zero, List.set_cons_succ, i64_w, i32_w]
        rfl
      refine pure_ (i := 1) (N := some 18) (v := ?_) (a' := ?_) #[true, true, false, false, false, false, false, false, false, false, false, false, false, false, false, false, false] rfl rfl (by kernel_rfl) (fun _ _ _ h => h) (Or.inl ⟨by rfl, ?_⟩) ?_ ?_
      rotate_left
      · intro w'
        go_simp
        with_reducible rfl
      rotate_left
      · simp only [Act.put, List.setIfInBounds_toArray, List.set_cons_zero, List.set_cons_succ, i64_w, i32_w]
        rfl
      refine pure_ (i := 2) (N := some 19) (v := ?_) (a' := ?_) #[true, true, true, false, false, false, false, false, false, false, false, false, false, false, false, false, false] rfl rfl (by kernel_rfl) (fun _ _ _ h => h) (Or.inl ⟨by rfl, ?_⟩) ?_ ?_
      rotate_left
      · intro w'
        go_simp
        with_reducible rfl
      rotate_left
      · simp only [Act.put, List.setIfInBounds_toArray, List.set_cons_zero, List.set_cons_succ, i64_w, i32_w]
        rfl
      refine pure_ (i := 5) (N := some 22) (v := ?_) (a' := ?_) #[true, true, true, false, false, true, false, false, false, false, false, false, false, false, false, false, false] rfl rfl (by kernel_rfl) (fun _ _ _ h => h) (Or.inl ⟨by rfl, ?_⟩) ?_ ?_
      rotate_left
      · intro w'
        go_simp
        with_reducible rfl
      rotate_left
      · simp only [Act.put, List.setIfInBounds_toArray, List.set_cons_zero, List.set_cons_succ, i64_w, i32_w]
        rfl
      refine pure_ (i := 6) (N := some 23) (v := ?_) (a' := ?_) #[true, true, true, false, false, true, true, false, false, false, false, false, false, false, false, false, false] rfl rfl (by kernel_rfl) (fun _ _ _ h => h) (Or.inl ⟨by rfl, ?_⟩) ?_ ?_
      rotate_left
      · intro w'
        go_simp
        with_reducible rfl
      rotate_left
      · simp only [Act.put, List.setIfInBounds_toArray, List.set_cons_zero, List.set_cons_succ, i64_w, i32_w]
        rfl
      refine pure_ (i := 7) (N := some 24) (v := ?_) (a' := ?_) #[true, true, true, false, false, true, true, true, false, false, false, false, false, false, false, false, false] rfl rfl (by kernel_rfl) (fun _ _ _ h => h) (Or.inl ⟨by rfl, ?_⟩) ?_ ?_
      rotate_left
      · intro w'
        go_simp
        with_reducible rfl
      rotate_left
      · simp only [Act.put, List.setIfInBounds_toArray, List.set_cons_zero, List.set_cons_succ, i64_w, i32_w]
        rfl
      refine pure_ (i := 9) (N := some 26) (v := ?_) (a' := ?_) #[true, true, true, false, false, true, true, true, false, true, false, false, false, false, false, false, false] rfl rfl (by kernel_rfl) (fun _ _ _ h => h) (Or.inl ⟨by rfl, ?_⟩) ?_ ?_
      rotate_left
      · intro w'
        go_simp
        with_reducible rfl
      rotate_left
      · simp only [Act.put, List.setIfInBounds_toArray, List.set_cons_zero, List.set_cons_succ, i64_w, i32_w]
        rfl
      refine pure_ (i := 10) (N := some 27) (v := ?_) (a' := ?_) #[true, true, true, false, false, true, true, true, false, true, true, false, false, false, false, false, false] rfl rfl (by kernel_rfl) (fun _ _ _ h => h) (Or.inl ⟨by rfl, ?_⟩) ?_ ?_
      rotate_left
      · intro w'
        go_simp
        with_reducible rfl
      rotate_left
      · simp only [Act.put, List.setIfInBounds_toArray, List.set_cons_zero, List.set_cons_succ, i64_w, i32_w]
        rfl
      refine pure_ (i := 11) (N := some 28) (v := ?_) (a' := ?_) #[true, true, true, false, false, true, true, true, false, true, true, true, false, false, false, false, false] rfl rfl (by kernel_rfl) (fun _ _ _ h => h) (Or.inl ⟨by rfl, ?_⟩) ?_ ?_
      rotate_left
      · intro w'
        go_simp
        with_reducible rfl
      rotate_left
      · simp only [Act.put, List.setIfInBounds_toArray, List.set_cons_zero, List.set_cons_succ, i64_w, i32_w]
        rfl
      refine pure_ (i := 12) (N := some 29) (v := ?_) (a' := ?_) #[true, true, true, false, false, true, true, true, false, true, true, true, true, false, false, false, false] rfl rfl (by kernel_rfl) (fun _ _ _ h => h) (Or.inl ⟨by rfl, ?_⟩) ?_ ?_
      rotate_left
      · intro w'
        go_simp
        with_reducible rfl
      rotate_left
      · simp only [Act.put, List.setIfInBounds_toArray, List.set_cons_zero, List.set_cons_succ, i64_w, i32_w]
        rfl
      refine take_ (i := 3) (N := some 20) (v := ?_) (a' := ?_) #[true, true, true, true, false, true, true, true, false, true, true, true, true, false, false, false, false] rfl rfl (by kernel_rfl) (fun _ _ _ h => h) (Or.inl ⟨by rfl, ?_⟩) hHeld ?_ ?_
      rotate_left
      · rintro w' ⟨s0, s1, s2⟩
        go_simp
        with_reducible rfl
      rotate_left
      · simp only [Act.put, List.setIfInBounds_toArray, List.set_cons_zero, List.set_cons_succ, i64_w, i32_w]
        rfl
      refine one_ (i := 4) (N := some 21) #[true, true, true, true, true, true, true, true, false, true, true, true, true, false, false, false, false] rfl rfl (by kernel_rfl) (by decide) (fun K hK => ?_)
      refine value_ (w1 := ?_) (v := ?_) (by rfl) rfl ?_ ?_
      rotate_left 2
      · go_simp
        constructor
        · rfl
        · rfl
      have hN0 := N_block (d := k29) (e := 29) (base := W2.heap.size) (g := W2.heap.size) (cap := 0) (ok := fun k => k = W2.heap.size) (okp := fun _ => False) (xs := []) (cs := []) (zs := []) (blk_new W2 (Obj.cells #[] 29)) (Nat.le_refl _) rfl (Nat.le_refl _) (by decide) (Reps.none _ _) rfl (fun _ h => h.elim)
      have HN := Aside0.mk hN0
      have n0_ := Aside0.mk (below_alloc HB.out (Obj.cells #[] 29))
      have HB1 := Aside0.mk ((HB1.out).alloc HSZ2.out (Obj.cells #[] 29))
      clear HB hN0
      have HB := n0_
      clear n0_
      have HSZ3 := Lib.hid (show W2.heap.size < (W2.alloc (Obj.cells #[] 29)).heap.size by simp)
      generalize hgl_ : W2.alloc (Obj.cells #[] 29) = W3 at *
      clear hgl_
      refine hK.out _ _ ⟨pk HB.out q0, pk HB.out q1, pk HB.out q2⟩ (fun hHeld => ?_)
      clear hK K
      refine norm_ (a' := ?_) ?_ ?_
      rotate_left
      · show Act.put _ (some 21) _ = _
        simp only [Act.put, List.setIfInBounds_toArray, List.set_cons_zero, List.set_cons_succ, i64_w, i32_w]
        rfl
      refine one_ (i := 8) (N := some 25) #[true, true, true, true, true, true, true, true, true, true, true, true, true, false, false, false, false] rfl rfl (by kernel_rfl) (by decide) (fun K hK => ?_)
      refine Kd.N_append_rows_step k29 (w0 := W1) (w.heap.size + 1) (by rfl) (.tmp 21) (.tmp 24) 22 29 (.agg #[(.int .i64 0), (.slice none 0 0), (.bool false)]) 40 rfl Try.underlying22 info29 rfl (by decide) (by omega) (.slice (some ⟨W2.heap.size, 0, none⟩) 0 0) ([]) (l0.take p) _ _ _ (fun k => (P0_ k ∧ k < w.heap.size) ∨ w.heap.size + 1 ≤ k) (fun k => P0_ k ∧ k < w.heap.size) rfl rfl ?aO ?aR ?aK ?aF ?aB ?aS ?aL ?_
      (case aO => exact Kd.N_mono (Kd.N_lower HN.out (by have := HSZ2.out; omega)) (fun k hk => Or.inr (by have := HSZ2.out; omega)))
      (case aR => exact Kd.F_below HFT.out HB.out)
      (case aK => exact fun k hk => ⟨Or.inl hk, by simp only [Value.ownBlock, ne_eq, Option.some.injEq]; have h1 := hk.2; have h2 := HSZ2.out; omega⟩)
      (case aF => exact fun k hk => Or.inr (Nat.le_trans (Nat.le_trans HSZ1.out HB1.out.size) hk))
      (case aB => exact HB1.out)
      (case aS => exact Nat.le_trans HSZ1.out HB1.out.size)
      (case aL => (try rw [List.length_append]); (try rw [List.length_take]); simp only [List.length_nil]; have h1 := HLIM.out; have h2 := HK.out; omega)
      intro v0_ w0_ ho hb hg hat
      have HN2 := Aside0.mk ho
      have HB1 := Aside0.mk hb
      have HB := Aside0.mk (HB0.out.trans (hb.mono (Nat.le_succ _)))
      clear ho hb hg hat
      refine hK.out _ _ ⟨pk HB.out q0, pk HB.out q1, pk HB.out q2⟩ (fun hHeld => ?_)
      clear hK K
      refine norm_ (a' := ?_) ?_ ?_
      rotate_left
      · show Act.put _ (some 25) _ = _
        simp only [Act.put, List.setIfInBounds_toArray, List.set_cons_zero, List.set_cons_succ, i64_w, i32_w]
        rfl
      refine one_ (i := 13) (N := some 30) #[true, true, true, true, true, true, true, true, true, true, true, true, true, true, false, false, false] rfl rfl (by kernel_rfl) (by decide) (fun K hK => ?_)
      refine Kd.N_append_rows_step k29 (w0 := W1) (w.heap.size + 1) (by rfl) (.tmp 25) (.tmp 29) 22 29 (.agg #[(.int .i64 0), (.slice none 0 0), (.bool false)]) 40 rfl Try.underlying22 info29 rfl (by decide) (by omega) (v0_) ([] ++ l0.take p) (l0.drop (p + 1)) _ _ _ (fun k => (P0_ k ∧ k < w.heap.size) ∨ w.heap.size + 1 ≤ k) (fun k => P0_ k ∧ k < w.heap.size) rfl rfl ?aO ?aR ?aK ?aF ?aB ?aS ?aL ?_
      (case aO => exact HN2.out)
      (case aR => exact Kd.F_below HFC.out HB.out)
      (case aK => exact fun k hk => ⟨Or.inl hk, fun he => by have h1 := Kd.N_base HN2.out _ he.symm; have h2 := hk.2; omega⟩)
      (case aF => exact fun k hk => Or.inr (Nat.le_trans (Nat.le_trans HSZ1.out HB1.out.size) hk))
      (case aB => exact HB1.out)
      (case aS => exact Nat.le_trans HSZ1.out HB1.out.size)
      (case aL => (try rw [List.length_append]); (try rw [List.length_take]); simp only [List.length_nil]; have h1 := HLIM.out; have h2 := HK.out; omega)
      intro v1_ w1_ ho hb hg hat
      have HN2 := Aside0.mk ho
      have HB1 := Aside0.mk hb
      have HB := Aside0.mk (HB0.out.trans (hb.mono (Nat.le_succ _)))
      clear ho hb hg hat
      refine hK.out _ _ ⟨pk HB.out q0, pk HB.out q1, pk HB.out q2⟩ (fun hHeld => ?_)
      clear hK K
      refine norm_ (a' := ?_) ?_ ?_
      rotate_left
      · show Act.put _ (some 30) _ = _
        simp only [Act.put, List.setIfInBounds_toArray, List.set_cons_zero, List.set_cons_succ, i64_w, i32_w]
        rfl
      refine last_ (i := 14) (N := none) #[true, true, true, true, true, true, true, true, true, true, true, true, true, true, true, false, false] rfl rfl (by kernel_rfl) (by decide) (fun K hK => ?_)
      have hX4 := (HB1.out.block _ (Nat.lt_succ_self _)).trans HX4.out
      have y0 := (blk_cell hX4 0).trans (show _ = some (Value.int .i64 0) from rfl)
      have y1 := (blk_cell hX4 1).trans (show _ = some (Value.slice none 0 0) from rfl)
      have y2 := (blk_cell hX4 2).trans (show _ = some (Value.bool false) from rfl)
      have f0 := blk_frozen hX4 0
      have f1 := blk_frozen hX4 1
      have f2 := blk_frozen hX4 2
      have HX5 := Aside0.mk hX4
      clear hX4
      refine skip_ (w1 := ?_) (by rfl) rfl ?_ ?_
      rotate_left
      · go_simp
        rfl
      refine hK.out _ _ ?_
      clear hK K
      refine pure_ (i := 15) (N := some 5) (v := ?_) (a' := ?_) #[true, true, true, true, true, true, true, true, true, true, true, true, true, true, true, true, false] rfl rfl (by kernel_rfl) (fun _ _ _ h => h) (Or.inl ⟨by rfl, ?_⟩) ?_ ?_
      rotate_left
      · intro w'
        go_simp
        with_reducible rfl
      rotate_left
      · simp only [Act.put, List.setIfInBounds_toArray, List.set_cons_zero, List.set_cons_succ, i64_w, i32_w]
        rfl
      refine pure_ (i := 16) (N := some 6) (v := ?_) (a' := ?_) #[true, true, true, true, true, true, true, true, true, true, true, true, true, true, true, true, true] rfl rfl (by kernel_rfl) (fun _ _ _ h => h) (Or.inl ⟨by rfl, ?_⟩) ?_ ?_
      rotate_left
      · intro w'
        go_simp
        with_reducible rfl
      rotate_left
      · simp only [Act.put, List.setIfInBounds_toArray, List.set_cons_zero, List.set_cons_succ, i64_w, i32_w]
        rfl
      refine done_ (by kernel_rfl) ?_
      go_wp2_with fail
      have hbA : Below w.heap.size w (((w1_.setCell ⟨w.heap.size, 0, none⟩ (.int .i64 xa)).setCell ⟨w.heap.size, 1, none⟩ (.slice A1 xb.length c1)).setCell ⟨w.heap.size, 2, none⟩ (.bool xc)) := ((HB.out.setCell (Nat.le_refl _) _).setCell (Nat.le_refl _) _).setCell (Nat.le_refl _) _
      have hX9 := blk_set (blk_set (blk_set HX5.out 0 (.int .i64 xa)) 1 (.slice A1 xb.length c1)) 2 (.bool xc)
      have hne9 : ∀ j, ((P0_ j ∧ j < w.heap.size) ∨ w.heap.size + 1 ≤ j) → j ≠ w.heap.size := fun j hj => by rcases hj with hj | hj <;> omega
      have hN9 := Kd.N_far (Kd.N_far (Kd.N_far HN2.out (p := ⟨w.heap.size, 0, none⟩) hne9 (.int .i64 xa)) (p := ⟨w.heap.size, 1, none⟩) hne9 (.slice A1 xb.length c1)) (p := ⟨w.heap.size, 2, none⟩) hne9 (.bool xc)
      generalize (((w1_.setCell ⟨w.heap.size, 0, none⟩ (.int .i64 xa)).setCell ⟨w.heap.size, 1, none⟩ (.slice A1 xb.length c1)).setCell ⟨w.heap.size, 2, none⟩ (.bool xc)) = w9 at *
      have HN := Aside0.mk (Kd.N_mono hN9 (ok' := fun k => P0_ k ∨ w.heap.size ≤ k) (fun k hk => hk.elim (fun h => Or.inl h.1) (fun h => Or.inr (by omega))))
      have HBA := Aside0.mk hbA
      have hc9 := (blk_cell hX9 0).trans (show _ = some (Value.int .i64 xa) from rfl)
      have hc9' := (blk_cell hX9 1).trans (show _ = some (Value.slice A1 xb.length c1) from rfl)
      have hc9'' := (blk_cell hX9 2).trans (show _ = some (Value.bool xc) from rfl)
      clear hX9 hne9 hN9 hbA
      refine bodyPost_ret (v := .tuple #[.agg #[.int .i64 xa, .slice A1 xb.length c1, .bool xc], v1_, .int .i64 0]) (by simp [results, Try.results12, go_sem, hc9, hc9', hc9'']) rfl ⟨_, _, rfl, Kd.V_mk HL1.out (Kd.F_mono (Kd.F_below HF1.out HBA.out) (fun _ hk => Or.inl hk.1)), Kd.N_V HN.out, HBA.out⟩
    · rw [if_neg hin] at h
      simp only [Prod.mk.injEq] at h
      obtain ⟨rfl, rfl, rfl, rfl, rfl⟩ := h
      have HV := Aside0.mk hs0
      by_cases h0 : a1 < 0
      · have hd1 : decide (a1 < 0) = true := decide_eq_true h0
        clear hs0 hin hc hlim h0
        go_enter Try.func12, Try.ntmps12
        go_wp2_with fail
        refine bodyPost_ret (v := .tuple #[.agg #[.int .i64 0, .slice none 0 0, .bool false], .slice A0 l0.length c0, .int .i64 7]) (by simp [results, Try.results12, go_sem]) rfl ⟨_, _, rfl, Kd.V_nil _ _ _ _ _, Kd.V_mono (Kd.V_alloc HV.out _) (fun _ hk => Or.inl hk), below_alloc (Below.refl _ _) _⟩
      · have hd1 : decide (a1 < 0) = false := decide_eq_false h0
        have hd2 : decide (a1 ≥ (l0.length : Int)) = true := decide_eq_true (by omega)
        have hd3 : decide ((l0.length : Int) ≤ a1) = true := decide_eq_true (by omega)
        clear hs0 hin hc hlim h0
        go_enter Try.func12, Try.ntmps12
        go_wp2_with fail
        refine bodyPost_ret (v := .tuple #[.agg #[.int .i64 0, .slice none 0 0, .bool false], .slice A0 l0.length c0, .int .i64 7]) (by simp [results, Try.results12, go_sem]) rfl ⟨_, _, rfl, Kd.V_nil _ _ _ _ _, Kd.V_mono (Kd.V_alloc HV.out _) (fun _ hk => Or.inl hk), below_alloc (Below.refl _ _) _⟩
  · rw [if_neg hc] at h
    cases h
def precentorref05_Drop.f (l0 : List S29) (a1 : Int) : Option (List S29 × Int) := (precentorref05_Give.f l0 a1).bind fun r => some (r.2.2.2.1, r.2.2.2.2)
theorem precentorref05_Drop.calls (P0_ : Nat → Prop) (A0 : Option Addr) (c0 : Nat) (l0 : List S29) (a1 : Int) (r1 : List S29) (r2 : Int) (w : World) (hs0 : Kd.V k29 29 w w.heap.size (fun k_ => P0_ k_) (.slice A0 l0.length c0) l0) (h : precentorref05_Drop.f l0 a1 = some (r1, r2)) :
    Calls Try.prog 14 #[.slice A0 l0.length c0, .int .i64 a1] w fun e w' => ∃ v0_ : Value, e = .returned (.tuple #[v0_, .int .i64 r2]) ∧ Kd.V k29 29 w' w.heap.size (fun k_ => (P0_ k_ ∨ w.heap.size ≤ k_)) v0_ r1 ∧ Below w.heap.size w w' := by
  obtain ⟨⟨x1, x2, x3, x4, x5⟩, hg, h⟩ := Option.bind_eq_some_iff.1 h
  simp only [Option.some.injEq, Prod.mk.injEq] at h
  obtain ⟨rfl, rfl⟩ := h
  have HG := Lib.hid (precentorref05_Give.calls P0_ A0 c0 l0 a1 x1 x2 x3 x4 x5 w hs0 hg)
  clear hs0 hg
  go_enter Try.func14, Try.ntmps14
  go_wp2_with fail
  refine HG.out.mono ?_
  rintro e w1 ⟨v1, v3, rfl, ⟨A1, c1, rfl, hl1, hF1⟩, hV, hb⟩
  have HV := Aside0.mk hV
  have HB := Aside0.mk hb
  clear hl1 hF1 hV hb HG
  go_wp2_with fail
  go_ret2
  exact ⟨_, rfl, Kd.V_alloc HV.out _, below_alloc HB.out _⟩
/-- What stands behind a row's copy and a letter's own block, made in either order. -/
def DupG (P0_ : Nat → Prop) (W : World) (l0 : List S29) (x : S29) (v1 : Value) (b : Nat) (w : World) : Prop :=
  Kd.N k29 29 w W.heap.size (fun k => (P0_ k ∧ k < W.heap.size) ∨ (W.heap.size ≤ k ∧ k ≠ b)) v1 l0 ∧
    Kd.F k29 w (fun k => (P0_ k ∧ k < W.heap.size) ∨ k = b) (some ⟨b, 0, none⟩) 1 [x] ∧ Below W.heap.size W w ∧ W.heap.size ≤ b
theorem dupG_mk {P0_ : Nat → Prop} {W w : World} {l0 : List S29} {xa : Int} {xb : List Int} {xc : Bool} {A1 : Option Addr} {c1 b : Nat} {v1 : Value} (hb : Below W.heap.size W w)
    (hN : Kd.N k29 29 w W.heap.size (fun k => (P0_ k ∧ k < W.heap.size) ∨ (W.heap.size ≤ k ∧ k ≠ b)) v1 l0)
    (hg : w.heap[b]? = some (.cells #[.int .i64 xa, .slice A1 xb.length c1, .bool xc] 29 (0, 0))) (hF : Kd.F (Kd.int .u8) W (fun k => P0_ k ∧ k < W.heap.size) A1 xb.length xb) (hl : xb.length ≤ c1) (h2 : W.heap.size ≤ b) :
    DupG P0_ W l0 (⟨xa, xb, xc⟩ : S29) v1 b w :=
  ⟨hN, F_single (c := [.int .i64 xa, .slice A1 xb.length c1, .bool xc]) hg (k29_mkF _ _ (⟨xa, xb, xc⟩ : S29) hl (Kd.F_below hF hb)) (fun k hk => by have := hk.2; omega), hb, h2⟩
def precentorref05_Dup.f (l0 : List S29) (a1 : Int) : Option (List S29 × Int) := net_Dup.f l0 a1
theorem precentorref05_Dup.calls (P0_ : Nat → Prop) (A0 : Option Addr) (c0 : Nat) (l0 : List S29) (a1 : Int) (r1 : List S29) (r2 : Int) (w : World) (hs0 : Kd.V k29 29 w w.heap.size (fun k_ => P0_ k_) (.slice A0 l0.length c0) l0) (h : precentorref05_Dup.f l0 a1 = some (r1, r2)) :
    Calls Try.prog 16 #[.slice A0 l0.length c0, .int .i64 a1] w fun e w' => ∃ v0_ : Value, e = .returned (.tuple #[v0_, .int .i64 r2]) ∧ Kd.V k29 29 w' w.heap.size (fun k_ => (P0_ k_ ∨ w.heap.size ≤ k_)) v0_ r1 ∧ Below w.heap.size w w' := by
  unfold precentorref05_Dup.f net_Dup.f at h
  by_cases hc : limL l0
  · rw [if_pos hc] at h
    have h := Option.some.inj h
    have hlim : l0.length < 3518437208000 := hc
    by_cases hin : 0 ≤ a1 ∧ a1 < (l0.length : Int)
    · rw [if_pos hin] at h
      simp only [Prod.mk.injEq] at h
      obtain ⟨rfl, rfl⟩ := h
      obtain ⟨p, rfl⟩ : ∃ p : Nat, a1 = (p : Int) := ⟨a1.toNat, by omega⟩
      have hp : p < l0.length := by omega
      obtain ⟨_, hcap, hF⟩ := Kd.V_at hs0
      have hFb := Kd.F_bound hF
      obtain ⟨ad, A1, c1, rfl, q0, q1, q2, hl1, hF1⟩ := elem hFb p hp
      have HF := Aside0.mk hFb
      have HF1 := Aside0.mk hF1
      have HL1 := Aside0.mk hl1
      have hx : (⟨(rd_T29 l0 p).f0, (rd_T29 l0 p).f1, (rd_T29 l0 p).f2⟩ : S29) = rd_T29 l0 p := rfl
      rw [← hx]
      generalize (rd_T29 l0 p).f0 = xa at *
      generalize (rd_T29 l0 p).f1 = xb at *
      generalize (rd_T29 l0 p).f2 = xc at *
      have hpi : (p : Int) < (l0.length : Int) := hin.2
      have hp0 : (0 : Int) ≤ (p : Int) := by omega
      have hd1 : decide ((p : Int) < 0) = false := decide_eq_false (by omega)
      have hd2 : decide ((p : Int) ≥ (l0.length : Int)) = false := decide_eq_false (by omega)
      have hd3 : decide (l0.length ≤ p) = false := decide_eq_false (by omega)
      have HCAP := Lib.hid hcap
      have HLIM := Lib.hid hlim
      clear hs0 hF hFb hF1 hl1 hx hin hc hcap hlim h
      go_enter Try.func16, Try.ntmps16
      go_wp2_with fail
      refine start_ (n := 11) (S := fun w' => w'.cell? (ad.add (p * 3)) = some (.int .i64 xa) ∧ w'.cell? ⟨(ad.add (p * 3)).block, (ad.add (p * 3)).off + 1, none⟩ = some (.slice A1 xb.length c1) ∧ w'.cell? ⟨(ad.add (p * 3)).block, (ad.add (p * 3)).off + 2, none⟩ = some (.bool xc)) (ds := []) #[false, false, false, false, false, false, false, false, false, false, false] (by kernel_rfl) rfl rfl ⟨q0, q1, q2⟩ (fun hHeld => ?_)
      have HB := Aside0.mk (below_drew1 (Below.refl w.heap.size w))
      generalize hw3_ : w.drew = w3 at *
      clear hw3_
      refine pure_ (i := 1) (N := some 16) (v := ?_) (a' := ?_) #[false, true, false, false, false, false, false, false, false, false, false] rfl rfl (by kernel_rfl) (fun _ _ _ h => h) (Or.inl ⟨by rfl, ?_⟩) ?_ ?_
      rotate_left
      · intro w'
        go_simp
        with_reducible rfl
      rotate_left
      · simp only [Act.put, List.setIfInBounds_toArray, List.set_cons_zero, List.set_cons_succ, i64_w, i32_w]
        rfl
      refine pure_ (i := 3) (N := some 18) (v := ?_) (a' := ?_) #[false, true, false, true, false, false, false, false, false, false, false] rfl rfl (by kernel_rfl) (fun _ _ _ h => h) (Or.inl ⟨by rfl, ?_⟩) ?_ ?_
      rotate_left
      · intro w'
        go_simp
        with_reducible rfl
      rotate_left
      · simp only [Act.put, List.setIfInBounds_toArray, List.set_cons_zero, List.set_cons_succ, i64_w, i32_w]
        rfl
      refine pure_ (i := 4) (N := some 19) (v := ?_) (a' := ?_) #[false, true, false, true, true, false, false, false, false, false, false] rfl rfl (by kernel_rfl) (fun _ _ _ h => h) (Or.inl ⟨by rfl, ?_⟩) ?_ ?_
      rotate_left
      · intro w'
        go_simp
        with_reducible rfl
      rotate_left
      · simp only [Act.put, List.setIfInBounds_toArray, List.set_cons_zero, List.set_cons_succ, i64_w, i32_w]
        rfl
      refine pure_ (i := 5) (N := some 20) (v := ?_) (a' := ?_) #[false, true, false, true, true, true, false, false, false, false, false] rfl rfl (by kernel_rfl) (fun _ _ _ h => h) (Or.inl ⟨by rfl, ?_⟩) ?_ ?_
      rotate_left
      · intro w'
        go_simp
        with_reducible rfl
      rotate_left
      · simp only [Act.put, List.setIfInBounds_toArray, List.set_cons_zero, List.set_cons_succ, i64_w, i32_w]
        rfl
      refine take_ (i := 6) (N := some 21) (v := ?_) (a' := ?_) #[false, true, false, true, true, true, true, false, false, false, false] rfl rfl (by kernel_rfl) (fun _ _ _ h => h) (Or.inl ⟨by rfl, ?_⟩) hHeld ?_ ?_
      rotate_left
      · rintro w' ⟨s0, s1, s2⟩
        go_simp
        with_reducible rfl
      rotate_left
      · simp only [Act.put, List.setIfInBounds_toArray, List.set_cons_zero, List.set_cons_succ, i64_w, i32_w]
        rfl
      refine join_ (σ := Nat × Value × Nat) 3 #[true, true, true, true, true, true, true, true, false, false, false] (fun s_ => [(15, .slice (some ⟨s_.1, 0, none⟩) 0 0), (17, s_.2.1), (22, .slice (some ⟨s_.2.2, 0, none⟩) 1 1)]) (fun s_ w2_ => (w2_.cell? (ad.add (p * 3)) = some (.int .i64 xa) ∧ w2_.cell? ⟨(ad.add (p * 3)).block, (ad.add (p * 3)).off + 1, none⟩ = some (.slice A1 xb.length c1) ∧ w2_.cell? ⟨(ad.add (p * 3)).block, (ad.add (p * 3)).off + 2, none⟩ = some (.bool xc)) ∧ DupG P0_ w l0 (⟨xa, xb, xc⟩ : S29) s_.2.1 s_.2.2 w2_) ?_ ?_
      rotate_left
      · intro hCont
        refine two_ (i := 0) (j := 7) (Ni := some 15) (Nj := some 22) #[true, true, false, true, true, true, true, false, false, false, false] #[false, true, false, true, true, true, true, true, false, false, false] rfl rfl rfl rfl (by kernel_rfl) (by decide) (by decide) (fun K hK => ?_) (fun K hK => ?_)
        · skip
          refine value_ (w1 := ?_) (v := ?_) (by rfl) rfl ?_ ?_
          rotate_left 2
          · go_simp
            constructor
            · rfl
            · rfl
          have hN0 := N_block (d := k29) (e := 29) (base := w.heap.size) (g := w3.heap.size) (cap := 0) (ok := fun k => k = w3.heap.size) (okp := fun _ => False) (xs := []) (cs := []) (zs := []) (blk_new w3 (Obj.cells #[] 29)) (below_size HB.out) rfl (Nat.le_refl _) (by decide) (Reps.none _ _) rfl (fun _ h => h.elim)
          have HN := Aside0.mk hN0
          have n0_ := Aside0.mk (below_alloc HB.out (Obj.cells #[] 29))
          have HG0 := Lib.hid (below_size HB.out)
          clear HB hN0
          have HB := n0_
          clear n0_
          generalize hgl_ : w3.alloc (Obj.cells #[] 29) = w4 at *
          clear hgl_
          generalize w3.heap.size = g0 at *
          refine hK.out _ _ ⟨pk HB.out q0, pk HB.out q1, pk HB.out q2⟩ (fun hHeld => ?_)
          clear hK K
          refine norm_ (a' := ?_) ?_ ?_
          rotate_left
          · show Act.put _ (some 15) _ = _
            simp only [Act.put, List.setIfInBounds_toArray, List.set_cons_zero, List.set_cons_succ, i64_w, i32_w]
            rfl
          refine two_ (i := 2) (j := 7) (Ni := some 17) (Nj := some 22) #[true, true, true, true, true, true, true, false, false, false, false] #[true, true, false, true, true, true, true, true, false, false, false] rfl rfl rfl rfl (by kernel_rfl) (by decide) (by decide) (fun K hK => ?_) (fun K hK => ?_)
          · skip
            refine Kd.N_append_rows_step k29 (w0 := w) w.heap.size (by rfl) (.tmp 15) (.tmp 16) 22 29 (.agg #[(.int .i64 0), (.slice none 0 0), (.bool false)]) 40 rfl Try.underlying22 info29 rfl (by decide) (by omega) (.slice (some ⟨g0, 0, none⟩) 0 0) [] l0 _ _ _ (fun k => (P0_ k ∧ k < w.heap.size) ∨ w.heap.size ≤ k) (fun k => P0_ k ∧ k < w.heap.size) rfl rfl ?aO ?aR ?aK ?aF ?aB ?aS ?aL ?_
            (case aO => exact Kd.N_mono HN.out (fun k hk => Or.inr (by have := HG0.out; omega)))
            (case aR => exact Kd.F_below HF.out HB.out)
            (case aK => exact fun k hk => ⟨Or.inl hk, by simp only [Value.ownBlock, ne_eq, Option.some.injEq]; have h1 := hk.2; have h2 := HG0.out; omega⟩)
            (case aF => exact fun k hk => Or.inr (Nat.le_trans (below_size HB.out) hk))
            (case aB => exact HB.out)
            (case aS => exact below_size HB.out)
            (case aL => simp only [List.length_nil]; have h1 := HLIM.out; omega)
            intro v1 w10 ho hb hg hat
            have HN2 := Aside0.mk ho
            have HB := Aside0.mk hb
            clear ho hb hg hat
            refine hK.out _ _ ⟨pk HB.out q0, pk HB.out q1, pk HB.out q2⟩ (fun hHeld => ?_)
            clear hK K
            refine norm_ (a' := ?_) ?_ ?_
            rotate_left
            · show Act.put _ (some 17) _ = _
              simp only [Act.put, List.setIfInBounds_toArray, List.set_cons_zero, List.set_cons_succ, i64_w, i32_w]
              rfl
            refine one_ (i := 7) (N := some 22) #[true, true, true, true, true, true, true, true, false, false, false] rfl rfl (by kernel_rfl) (by decide) (fun K hK => ?_)
            refine value_ (w1 := ?_) (v := ?_) (by rfl) rfl ?_ ?_
            rotate_left 2
            · go_simp
              constructor
              · rfl
              · rfl
            have HX := Aside0.mk (blk_new w10 (Obj.cells #[.int .i64 xa, .slice A1 xb.length c1, .bool xc] 29))
            have HBL := Lib.hid (below_size HB.out)
            have n0_ := Aside0.mk (below_alloc HB.out (Obj.cells #[.int .i64 xa, .slice A1 xb.length c1, .bool xc] 29))
            clear HB
            have HB := n0_
            clear n0_
            have HN3 := Aside0.mk (Kd.N_alloc (Kd.N_bound HN2.out) (Obj.cells #[.int .i64 xa, .slice A1 xb.length c1, .bool xc] 29))
            generalize hgl_ : w10.alloc (Obj.cells #[.int .i64 xa, .slice A1 xb.length c1, .bool xc] 29) = w9 at *
            clear hgl_
            generalize w10.heap.size = b0 at *
            refine hK.out _ _ ⟨pk HB.out q0, pk HB.out q1, pk HB.out q2⟩ (fun hHeld => ?_)
            clear hK K
            refine norm_ (a' := ?_) ?_ ?_
            rotate_left
            · show Act.put _ (some 22) _ = _
              simp only [Act.put, List.setIfInBounds_toArray, List.set_cons_zero, List.set_cons_succ, i64_w, i32_w]
              rfl
            exact norm_ (by simp only [putAll, Act.put, List.setIfInBounds_toArray, List.set_cons_zero, List.set_cons_succ]) (hCont (g0, v1, b0) _ ⟨hHeld, dupG_mk HB.out (Kd.N_mono HN3.out (fun k hk => hk.1.elim (fun h => Or.inl h) (fun h => Or.inr ⟨h, Nat.ne_of_lt hk.2⟩))) HX.out HF1.out HL1.out HBL.out⟩)
          · skip
            refine value_ (w1 := ?_) (v := ?_) (by rfl) rfl ?_ ?_
            rotate_left 2
            · go_simp
              constructor
              · rfl
              · rfl
            have HX := Aside0.mk (blk_new w4 (Obj.cells #[.int .i64 xa, .slice A1 xb.length c1, .bool xc] 29))
            have HBL := Lib.hid (below_size HB.out)
            have n0_ := Aside0.mk (below_alloc HB.out (Obj.cells #[.int .i64 xa, .slice A1 xb.length c1, .bool xc] 29))
            clear HB
            have HB := n0_
            clear n0_
            have HGB := Lib.hid (Nat.ne_of_lt (Kd.N_lt HN.out g0 rfl))
            have n1_ := Aside0.mk (Kd.N_alloc HN.out (Obj.cells #[.int .i64 xa, .slice A1 xb.length c1, .bool xc] 29))
            clear HN
            have HN := n1_
            clear n1_
            generalize hgl_ : w4.alloc (Obj.cells #[.int .i64 xa, .slice A1 xb.length c1, .bool xc] 29) = w7 at *
            clear hgl_
            generalize w4.heap.size = b0 at *
            refine hK.out _ _ ⟨pk HB.out q0, pk HB.out q1, pk HB.out q2⟩ (fun hHeld => ?_)
            clear hK K
            refine norm_ (a' := ?_) ?_ ?_
            rotate_left
            · show Act.put _ (some 22) _ = _
              simp only [Act.put, List.setIfInBounds_toArray, List.set_cons_zero, List.set_cons_succ, i64_w, i32_w]
              rfl
            refine one_ (i := 2) (N := some 17) #[true, true, true, true, true, true, true, true, false, false, false] rfl rfl (by kernel_rfl) (by decide) (fun K hK => ?_)
            refine Kd.N_append_rows_step k29 (w0 := w) w.heap.size (by rfl) (.tmp 15) (.tmp 16) 22 29 (.agg #[(.int .i64 0), (.slice none 0 0), (.bool false)]) 40 rfl Try.underlying22 info29 rfl (by decide) (by omega) (.slice (some ⟨g0, 0, none⟩) 0 0) [] l0 _ _ _ (fun k => (P0_ k ∧ k < w.heap.size) ∨ (w.heap.size ≤ k ∧ k ≠ b0)) (fun k => P0_ k ∧ k < w.heap.size) rfl rfl ?aO ?aR ?aK ?aF ?aB ?aS ?aL ?_
            (case aO => exact Kd.N_mono HN.out (fun k hk => Or.inr ⟨by have := HG0.out; omega, by have := HGB.out; omega⟩))
            (case aR => exact Kd.F_below HF.out HB.out)
            (case aK => exact fun k hk => ⟨Or.inl hk, by simp only [Value.ownBlock, ne_eq, Option.some.injEq]; have h1 := hk.2; have h2 := HG0.out; omega⟩)
            (case aF => exact fun k hk => Or.inr ⟨Nat.le_trans (below_size HB.out) hk, by have := blk_lt HX.out; omega⟩)
            (case aB => exact HB.out)
            (case aS => exact below_size HB.out)
            (case aL => simp only [List.length_nil]; have h1 := HLIM.out; omega)
            intro v1 w10 ho hb hg hat
            have HN2 := Aside0.mk ho
            have HB := Aside0.mk hb
            have HX := Aside0.mk (blk_grown HX.out hg (by simp only [Value.ownBlock, ne_eq, Option.some.injEq]; have := HGB.out; omega))
            clear ho hb hg hat
            refine hK.out _ _ ⟨pk HB.out q0, pk HB.out q1, pk HB.out q2⟩ (fun hHeld => ?_)
            clear hK K
            refine norm_ (a' := ?_) ?_ ?_
            rotate_left
            · show Act.put _ (some 17) _ = _
              simp only [Act.put, List.setIfInBounds_toArray, List.set_cons_zero, List.set_cons_succ, i64_w, i32_w]
              rfl
            exact norm_ (by simp only [putAll, Act.put, List.setIfInBounds_toArray, List.set_cons_zero, List.set_cons_succ]) (hCont (g0, v1, b0) _ ⟨hHeld, dupG_mk HB.out HN2.out HX.out HF1.out HL1.out HBL.out⟩)
        · skip
          refine value_ (w1 := ?_) (v := ?_) (by rfl) rfl ?_ ?_
          rotate_left 2
          · go_simp
            constructor
            · rfl
            · rfl
          have HX := Aside0.mk (blk_new w3 (Obj.cells #[.int .i64 xa, .slice A1 xb.length c1, .bool xc] 29))
          have HBL := Lib.hid (below_size HB.out)
          have n0_ := Aside0.mk (below_alloc HB.out (Obj.cells #[.int .i64 xa, .slice A1 xb.length c1, .bool xc] 29))
          clear HB
          have HB := n0_
          clear n0_
          generalize hgl_ : w3.alloc (Obj.cells #[.int .i64 xa, .slice A1 xb.length c1, .bool xc] 29) = w5 at *
          clear hgl_
          generalize w3.heap.size = b0 at *
          refine hK.out _ _ ⟨pk HB.out q0, pk HB.out q1, pk HB.out q2⟩ (fun hHeld => ?_)
          clear hK K
          refine norm_ (a' := ?_) ?_ ?_
          rotate_left
          · show Act.put _ (some 22) _ = _
            simp only [Act.put, List.setIfInBounds_toArray, List.set_cons_zero, List.set_cons_succ, i64_w, i32_w]
            rfl
          refine one_ (i := 0) (N := some 15) #[true, true, false, true, true, true, true, true, false, false, false] rfl rfl (by kernel_rfl) (by decide) (fun K hK => ?_)
          refine value_ (w1 := ?_) (v := ?_) (by rfl) rfl ?_ ?_
          rotate_left 2
          · go_simp
            constructor
            · rfl
            · rfl
          have hN0 := N_block (d := k29) (e := 29) (base := w.heap.size) (g := w5.heap.size) (cap := 0) (ok := fun k => k = w5.heap.size) (okp := fun _ => False) (xs := []) (cs := []) (zs := []) (blk_new w5 (Obj.cells #[] 29)) (below_size HB.out) rfl (Nat.le_refl _) (by decide) (Reps.none _ _) rfl (fun _ h => h.elim)
          have HN := Aside0.mk hN0
          have n0_ := Aside0.mk (below_alloc HB.out (Obj.cells #[] 29))
          have HG0 := Lib.hid (below_size HB.out)
          have n1_ := Aside0.mk (blk_alloc HX.out (Obj.cells #[] 29))
          have HGB := Lib.hid (Nat.ne_of_gt (blk_lt HX.out))
          clear HX
          have HX := n1_
          clear n1_
          clear HB hN0
          have HB := n0_
          clear n0_
          generalize hgl_ : w5.alloc (Obj.cells #[] 29) = w8 at *
          clear hgl_
          generalize w5.heap.size = g0 at *
          refine hK.out _ _ ⟨pk HB.out q0, pk HB.out q1, pk HB.out q2⟩ (fun hHeld => ?_)
          clear hK K
          refine norm_ (a' := ?_) ?_ ?_
          rotate_left
          · show Act.put _ (some 15) _ = _
            simp only [Act.put, List.setIfInBounds_toArray, List.set_cons_zero, List.set_cons_succ, i64_w, i32_w]
            rfl
          refine one_ (i := 2) (N := some 17) #[true, true, true, true, true, true, true, true, false, false, false] rfl rfl (by kernel_rfl) (by decide) (fun K hK => ?_)
          refine Kd.N_append_rows_step k29 (w0 := w) w.heap.size (by rfl) (.tmp 15) (.tmp 16) 22 29 (.agg #[(.int .i64 0), (.slice none 0 0), (.bool false)]) 40 rfl Try.underlying22 info29 rfl (by decide) (by omega) (.slice (some ⟨g0, 0, none⟩) 0 0) [] l0 _ _ _ (fun k => (P0_ k ∧ k < w.heap.size) ∨ (w.heap.size ≤ k ∧ k ≠ b0)) (fun k => P0_ k ∧ k < w.heap.size) rfl rfl ?aO ?aR ?aK ?aF ?aB ?aS ?aL ?_
          (case aO => exact Kd.N_mono HN.out (fun k hk => Or.inr ⟨by have := HG0.out; omega, by have := HGB.out; omega⟩))
          (case aR => exact Kd.F_below HF.out HB.out)
          (case aK => exact fun k hk => ⟨Or.inl hk, by simp only [Value.ownBlock, ne_eq, Option.some.injEq]; have h1 := hk.2; have h2 := HG0.out; omega⟩)
          (case aF => exact fun k hk => Or.inr ⟨Nat.le_trans (below_size HB.out) hk, by have := blk_lt HX.out; omega⟩)
          (case aB => exact HB.out)
          (case aS => exact below_size HB.out)
          (case aL => simp only [List.length_nil]; have h1 := HLIM.out; omega)
          intro v1 w10 ho hb hg hat
          have HN2 := Aside0.mk ho
          have HB := Aside0.mk hb
          have HX := Aside0.mk (blk_grown HX.out hg (by simp only [Value.ownBlock, ne_eq, Option.some.injEq]; have := HGB.out; omega))
          clear ho hb hg hat
          refine hK.out _ _ ⟨pk HB.out q0, pk HB.out q1, pk HB.out q2⟩ (fun hHeld => ?_)
          clear hK K
          refine norm_ (a' := ?_) ?_ ?_
          rotate_left
          · show Act.put _ (some 17) _ = _
            simp only [Act.put, List.setIfInBounds_toArray, List.set_cons_zero, List.set_cons_succ, i64_w, i32_w]
            rfl
          exact norm_ (by simp only [putAll, Act.put, List.setIfInBounds_toArray, List.set_cons_zero, List.set_cons_succ]) (hCont (g0, v1, b0) _ ⟨hHeld, dupG_mk HB.out HN2.out HX.out HF1.out HL1.out HBL.out⟩)
      rintro ⟨g0, v1, b⟩ w5 ⟨hS_, hD_⟩
      have hHeld := hS_
      have HD : Aside0 (DupG P0_ w l0 (⟨xa, xb, xc⟩ : S29) v1 b w5) := Aside0.mk hD_
      clear hS_ hD_
      refine norm_ (a' := ?_) ?_ ?_
      rotate_left
      · simp only [putAll, Act.put, List.setIfInBounds_toArray, List.set_cons_zero, List.set_cons_succ]
        rfl
      refine one_ (i := 8) (N := some 23) #[true, true, true, true, true, true, true, true, true, false, false] rfl rfl (by kernel_rfl) (by decide) (fun K hK => ?_)
      refine Kd.N_append_rows_step k29 (w0 := w) w.heap.size (by rfl) (.tmp 17) (.tmp 22) 22 29 (.agg #[(.int .i64 0), (.slice none 0 0), (.bool false)]) 40 rfl Try.underlying22 info29 rfl (by decide) (by omega) v1 l0 [(⟨xa, xb, xc⟩ : S29)] _ _ _ (fun k => P0_ k ∨ w.heap.size ≤ k) (fun k => (P0_ k ∧ k < w.heap.size) ∨ k = b) rfl rfl ?aO ?aR ?aK ?aF ?aB ?aS ?aL ?_
      (case aO => exact Kd.N_mono HD.out.1 (fun k hk => hk.elim (fun h => Or.inl h.1) (fun h => Or.inr h.1)))
      (case aR => exact HD.out.2.1)
      (case aK => exact fun k hk => ⟨hk.elim (fun h => Or.inl h.1) (fun h => Or.inr (by have := HD.out.2.2.2; omega)), fun he => by rcases HD.out.1.1 k he.symm with h1 | h1 <;> have h2 := Kd.N_base HD.out.1 k he.symm <;> rcases hk with hk | hk <;> omega⟩)
      (case aF => exact fun k hk => Or.inr (Nat.le_trans (below_size HD.out.2.2.1) hk))
      (case aB => exact HD.out.2.2.1)
      (case aS => exact below_size HD.out.2.2.1)
      (case aL => have := HLIM.out; omega)
      intro v1 w6 ho hb hg hat
      have HO := Aside0.mk ho
      have HB2 := Aside0.mk hb
      clear ho hb hg hat
      refine hK.out _ _ ⟨pk HB2.out q0, pk HB2.out q1, pk HB2.out q2⟩ (fun hHeld => ?_)
      clear hK K
      refine norm_ (a' := ?_) ?_ ?_
      rotate_left
      · show Act.put _ (some 23) _ = _
        simp only [Act.put, List.setIfInBounds_toArray, List.set_cons_zero, List.set_cons_succ, i64_w, i32_w]
        rfl
      refine pure_ (i := 9) (N := some 4) (v := ?_) (a' := ?_) #[true, true, true, true, true, true, true, true, true, true, false] rfl rfl (by kernel_rfl) (fun _ _ _ h => h) (Or.inl ⟨by rfl, ?_⟩) ?_ ?_
      rotate_left
      · intro w'
        go_simp
        with_reducible rfl
      rotate_left
      · simp only [Act.put, List.setIfInBounds_toArray, List.set_cons_zero, List.set_cons_succ, i64_w, i32_w]
        rfl
      refine pure_ (i := 10) (N := some 5) (v := ?_) (a' := ?_) #[true, true, true, true, true, true, true, true, true, true, true] rfl rfl (by kernel_rfl) (fun _ _ _ h => h) (Or.inl ⟨by rfl, ?_⟩) ?_ ?_
      rotate_left
      · intro w'
        go_simp
        with_reducible rfl
      rotate_left
      · simp only [Act.put, List.setIfInBounds_toArray, List.set_cons_zero, List.set_cons_succ, i64_w, i32_w]
        rfl
      refine done_ (by kernel_rfl) ?_
      go_wp2_with fail
      go_ret2
      exact ⟨_, rfl, Kd.N_V HO.out, HB2.out⟩
    · rw [if_neg hin] at h
      simp only [Prod.mk.injEq] at h
      obtain ⟨rfl, rfl⟩ := h
      have HV := Aside0.mk hs0
      by_cases h0 : a1 < 0
      · have hd1 : decide (a1 < 0) = true := decide_eq_true h0
        clear hs0 hin hc hlim h0
        go_enter Try.func16, Try.ntmps16
        go_wp2_with fail
        go_ret2
        exact ⟨_, rfl, Kd.V_mono HV.out (fun _ hk => Or.inl hk), Below.refl _ _⟩
      · have hd1 : decide (a1 < 0) = false := decide_eq_false h0
        have hd2 : decide (a1 ≥ (l0.length : Int)) = true := decide_eq_true (by omega)
        have hd3 : decide ((l0.length : Int) ≤ a1) = true := decide_eq_true (by omega)
        clear hs0 hin hc hlim h0
        go_enter Try.func16, Try.ntmps16
        go_wp2_with fail
        go_ret2
        exact ⟨_, rfl, Kd.V_mono HV.out (fun _ hk => Or.inl hk), Below.refl _ _⟩
  · rw [if_neg hc] at h
    cases h

end Go.Proofs.Ythmgaeecfhmenaa.Print
