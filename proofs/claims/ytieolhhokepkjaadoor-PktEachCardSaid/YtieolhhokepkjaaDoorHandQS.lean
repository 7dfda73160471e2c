/- Which packets are the same: pkt.Same gives just that. Conditions stand in each theorem. -/
import Derived.Test.YtieolhhokepkjaaDoorPP
namespace Go.Proofs.YtieolhhokepkjaaDoor.Print
set_option linter.unusedVariables false
set_option linter.unusedSimpArgs false
open Go.RowKit Go.Proofs.YtieolhhokepkjaaDoorW.PrintWords Go.Proofs.YtieolhhokepkjaaDoorW.PrintLast Go.Proofs.YtieolhhokepkjaaDoorW.PrintMore Go.Proofs.YtieolhhokepkjaaDoor.NumPlain
theorem boxes15 (w : World) (cs ds : Array Value) : ∃ w0 : World, (w.alloc (Obj.cells cs 27)).alloc (Obj.cells ds 27) = w0 ∧ Below w.heap.size w w0 ∧
  w0.heap[w.heap.size]? = some (.cells cs 27 (0, 0)) ∧ w0.heap[w.heap.size + 1]? = some (.cells ds 27 (0, 0)) :=
 ⟨_, rfl, below_alloc (below_alloc (Below.refl _ _) _) _, blk_alloc (blk_new w _) _, by have := blk_new (w.alloc (Obj.cells cs 27)) (Obj.cells ds 27); simpa using this⟩
set_option maxRecDepth 100000 in
set_option maxHeartbeats 4000000 in
theorem precentorref04_Same.is (K F k s e i t c : Int) (A8 : Option Addr) (c8 : Nat) (L : List Int) (A9 : Option Addr) (c9 : Nat) (bo : List Int) (T O M P : Int) (A14 : Option Addr) (c14 : Nat) (R : List Int) (K' F' k' s' e' i' t' c' : Int) (B8 : Option Addr) (d8 : Nat) (L' : List Int) (B9 : Option Addr) (d9 : Nat) (bo' : List Int) (T' O' M' P' : Int) (B14 : Option Addr) (d14 : Nat) (R' : List Int) (w : World) (h8 : Kd.C (Kd.int .i64) w A8 L.length L) (l8 : L.length ≤ c8) (h9 : Kd.C (Kd.int .u8) w A9 bo.length bo) (l9 : bo.length ≤ c9) (h14 : Kd.C (Kd.int .i64) w A14 R.length R) (l14 : R.length ≤ c14) (g8 : Kd.C (Kd.int .i64) w B8 L'.length L') (m8 : L'.length ≤ d8) (g9 : Kd.C (Kd.int .u8) w B9 bo'.length bo') (m9 : bo'.length ≤ d9) (g14 : Kd.C (Kd.int .i64) w B14 R'.length R') (m14 : R'.length ≤ d14) (hL : L.length < 10000) (hR : R.length < 10000) (q : Bool) (hq : sameP K F k s e i t c L bo T O M P R K' F' k' s' e' i' t' c' L' bo' T' O' M' P' R' = q) :
  Calls Tryd.prog 16 #[.agg #[.int .i64 K, .int .i64 F, .int .i64 k, .int .i64 s, .int .i64 e, .int .i64 i, .int .i64 t, .int .i64 c, .slice A8 L.length c8, .slice A9 bo.length c9, .int .i64 T, .int .i64 O, .int .i64 M, .int .i64 P, .slice A14 R.length c14], .agg #[.int .i64 K', .int .i64 F', .int .i64 k', .int .i64 s', .int .i64 e', .int .i64 i', .int .i64 t', .int .i64 c', .slice B8 L'.length d8, .slice B9 bo'.length d9, .int .i64 T', .int .i64 O', .int .i64 M', .int .i64 P', .slice B14 R'.length d14]] w fun e' w' => e' = .returned (.bool q) ∧ Below w.heap.size w w' := by
 obtain ⟨w0, hw0, hB0, X0, Y0⟩ := boxes15 w #[.int .i64 K, .int .i64 F, .int .i64 k, .int .i64 s, .int .i64 e, .int .i64 i, .int .i64 t, .int .i64 c, .slice A8 L.length c8, .slice A9 bo.length c9, .int .i64 T, .int .i64 O, .int .i64 M, .int .i64 P, .slice A14 R.length c14] #[.int .i64 K', .int .i64 F', .int .i64 k', .int .i64 s', .int .i64 e', .int .i64 i', .int .i64 t', .int .i64 c', .slice B8 L'.length d8, .slice B9 bo'.length d9, .int .i64 T', .int .i64 O', .int .i64 M', .int .i64 P', .slice B14 R'.length d14]
 have HB0 := ak hB0
 obtain ⟨⟨q0, q1, q2, q3, q4, q5, q6, q7, q8, q9, q10, q11, q12, q13, q14⟩, _⟩ := cells15 X0
 obtain ⟨⟨p0, p1, p2, p3, p4, p5, p6, p7, p8, p9, p10, p11, p12, p13, p14⟩, _⟩ := cells15 Y0
 have HIT := Lib.hid (show Calls Tryd.prog 32 #[.agg #[.int .i64 k, .int .i64 s, .int .i64 e, .int .i64 i, .int .i64 t, .int .i64 c, .slice A8 L.length c8, .slice A9 bo.length c9], .agg #[.int .i64 k', .int .i64 s', .int .i64 e', .int .i64 i', .int .i64 t', .int .i64 c', .slice B8 L'.length d8, .slice B9 bo'.length d9]] w0 _ from precentorref03_Same.calls k s e i t c A8 c8 L A9 c9 bo k' s' e' i' t' c' B8 d8 L' B9 d9 bo' (sameB k s e i t c L bo k' s' e' i' t' c' L' bo') w0 (Kd.C_below h8 hB0) l8 (Kd.C_below h9 hB0) l9 (Kd.C_below g8 hB0) m8 (Kd.C_below g9 hB0) m9 (if_pos hL))
 have HRW := Lib.hid (show ∀ W, Below w0.heap.size w0 W → Calls Tryd.prog 36 #[.slice A14 R.length c14, .slice B14 R'.length d14] W _ from fun W hb => precentorref02_Same.calls 10000 A14 c14 R B14 d14 R' (decide (R = R')) W (Kd.C_below (Kd.C_below h14 hB0) hb) l14 (Kd.C_below (Kd.C_below g14 hB0) hb) m14 (same_is hR hR))
 unfold sameP at hq
 generalize sameB k s e i t c L bo k' s' e' i' t' c' L' bo' = it at *
 obtain ⟨dr, hdr⟩ : ∃ b, decide (R = R') = b := ⟨_, rfl⟩
 rw [hdr] at hq HRW
 clear hB0 X0 Y0 h8 h9 h14 l8 l9 l14 g8 g9 g14 m8 m9 m14 hL hR hdr
 go_enter Tryd.func16, Tryd.ntmps16
 go_wp2_with fail
 refine HIT.out.mono ?_
 rintro e1 w1 ⟨rfl, hb1⟩
 have HCT := Lib.hid (HRW.out w1 hb1)
 have y0 := pw_cell_below hb1 q0
 have y1 := pw_cell_below hb1 q1
 have y10 := pw_cell_below hb1 q10
 have y11 := pw_cell_below hb1 q11
 have y12 := pw_cell_below hb1 q12
 have y13 := pw_cell_below hb1 q13
 have y14 := pw_cell_below hb1 q14
 have z0 := pw_cell_below hb1 p0
 have z1 := pw_cell_below hb1 p1
 have z10 := pw_cell_below hb1 p10
 have z11 := pw_cell_below hb1 p11
 have z12 := pw_cell_below hb1 p12
 have z13 := pw_cell_below hb1 p13
 have z14 := pw_cell_below hb1 p14
 have HB := ak (below_step HB0.out hb1)
 clear hb1 HIT HRW hw0 q0 p0 q1 p1 q2 p2 q3 p3 q4 p4 q5 p5 q6 p6 q7 p7 q8 p8 q9 p9 q10 p10 q11 p11 q12 p12 q13 p13 q14 p14
 go_wp2_with fail
 refine HCT.out.mono ?_
 rintro e2 w2 ⟨rfl, ⟨⟨nq, rfl⟩⟩⟩
 clear HCT
 cases it
 ·
  simp only [Bool.and_false, Bool.false_and, Bool.true_and] at hq
  subst hq
  go_wp2_with fail
  go_ret
  exact ⟨rfl, pw_below_drewN HB.out nq⟩
 cases dr
 ·
  simp only [Bool.and_false, Bool.false_and, Bool.true_and] at hq
  subst hq
  go_wp2_with fail
  go_ret
  exact ⟨rfl, pw_below_drewN HB.out nq⟩
 by_cases hK : K = K'
 rotate_left
 ·
  rw [decide_eq_false hK] at hq
  simp only [Bool.and_false, Bool.false_and, Bool.true_and] at hq
  subst hq
  have b : (K == K') = false := beq_eq_false_iff_ne.2 hK
  clear hK
  go_wp2_with fail
  go_ret
  exact ⟨rfl, pw_below_drewN HB.out nq⟩
 rw [decide_eq_true hK] at hq
 subst hK
 by_cases hF : F = F'
 rotate_left
 ·
  rw [decide_eq_false hF] at hq
  simp only [Bool.and_false, Bool.false_and, Bool.true_and] at hq
  subst hq
  have b : (F == F') = false := beq_eq_false_iff_ne.2 hF
  clear hF
  go_wp2_with fail
  go_ret
  exact ⟨rfl, pw_below_drewN HB.out nq⟩
 rw [decide_eq_true hF] at hq
 subst hF
 by_cases hT : T = T'
 rotate_left
 ·
  rw [decide_eq_false hT] at hq
  simp only [Bool.and_false, Bool.false_and, Bool.true_and] at hq
  subst hq
  have b : (T == T') = false := beq_eq_false_iff_ne.2 hT
  clear hT
  go_wp2_with fail
  go_ret
  exact ⟨rfl, pw_below_drewN HB.out nq⟩
 rw [decide_eq_true hT] at hq
 subst hT
 by_cases hO : O = O'
 rotate_left
 ·
  rw [decide_eq_false hO] at hq
  simp only [Bool.and_false, Bool.false_and, Bool.true_and] at hq
  subst hq
  have b : (O == O') = false := beq_eq_false_iff_ne.2 hO
  clear hO
  go_wp2_with fail
  go_ret
  exact ⟨rfl, pw_below_drewN HB.out nq⟩
 rw [decide_eq_true hO] at hq
 subst hO
 by_cases hM : M = M'
 rotate_left
 ·
  rw [decide_eq_false hM] at hq
  simp only [Bool.and_false, Bool.false_and, Bool.true_and] at hq
  subst hq
  have b : (M == M') = false := beq_eq_false_iff_ne.2 hM
  clear hM
  go_wp2_with fail
  go_ret
  exact ⟨rfl, pw_below_drewN HB.out nq⟩
 rw [decide_eq_true hM] at hq
 subst hM
 simp only [Bool.and_true, Bool.true_and] at hq
 have b : (P == P') = q := by rw [← hq, Bool.eq_iff_iff, beq_iff_eq, decide_eq_true_eq]
 clear hq
 go_wp2_with fail
 go_ret
 exact ⟨rfl, pw_below_drewN HB.out nq⟩
def precentorref04_Same.f (n : Nat) (K F k s e i t c : Int) (L bo : List Int) (T O M P : Int) (R : List Int) (K' F' k' s' e' i' t' c' : Int) (L' bo' : List Int) (T' O' M' P' : Int) (R' : List Int) : Option Bool := if L.length < 10000 ∧ R.length < 10000 then some (sameP K F k s e i t c L bo T O M P R K' F' k' s' e' i' t' c' L' bo' T' O' M' P' R') else none
theorem precentorref04_Same.mono : ∀ K F k s e i t c L bo T O M P R K' F' k' s' e' i' t' c' L' bo' T' O' M' P' R' n, LeO (precentorref04_Same.f n K F k s e i t c L bo T O M P R K' F' k' s' e' i' t' c' L' bo' T' O' M' P' R') (precentorref04_Same.f (n + 1) K F k s e i t c L bo T O M P R K' F' k' s' e' i' t' c' L' bo' T' O' M' P' R') := fun _ _ _ _ _ _ _ _ _ _ _ _ _ _ _ _ _ _ _ _ _ _ _ _ _ _ _ _ _ _ _ => fun _ h => h
theorem precentorref04_Same.calls (n : Nat) (K F k s e i t c : Int) (A8 : Option Addr) (c8 : Nat) (L : List Int) (A9 : Option Addr) (c9 : Nat) (bo : List Int) (T O M P : Int) (A14 : Option Addr) (c14 : Nat) (R : List Int) (K' F' k' s' e' i' t' c' : Int) (B8 : Option Addr) (d8 : Nat) (L' : List Int) (B9 : Option Addr) (d9 : Nat) (bo' : List Int) (T' O' M' P' : Int) (B14 : Option Addr) (d14 : Nat) (R' : List Int) (r : Bool) (w : World) (h8 : Kd.C (Kd.int .i64) w A8 L.length L) (l8 : L.length ≤ c8) (h9 : Kd.C (Kd.int .u8) w A9 bo.length bo) (l9 : bo.length ≤ c9) (h14 : Kd.C (Kd.int .i64) w A14 R.length R) (l14 : R.length ≤ c14) (g8 : Kd.C (Kd.int .i64) w B8 L'.length L') (m8 : L'.length ≤ d8) (g9 : Kd.C (Kd.int .u8) w B9 bo'.length bo') (m9 : bo'.length ≤ d9) (g14 : Kd.C (Kd.int .i64) w B14 R'.length R') (m14 : R'.length ≤ d14) (h : precentorref04_Same.f n K F k s e i t c L bo T O M P R K' F' k' s' e' i' t' c' L' bo' T' O' M' P' R' = some r) :
  Calls Tryd.prog 16 #[.agg #[.int .i64 K, .int .i64 F, .int .i64 k, .int .i64 s, .int .i64 e, .int .i64 i, .int .i64 t, .int .i64 c, .slice A8 L.length c8, .slice A9 bo.length c9, .int .i64 T, .int .i64 O, .int .i64 M, .int .i64 P, .slice A14 R.length c14], .agg #[.int .i64 K', .int .i64 F', .int .i64 k', .int .i64 s', .int .i64 e', .int .i64 i', .int .i64 t', .int .i64 c', .slice B8 L'.length d8, .slice B9 bo'.length d9, .int .i64 T', .int .i64 O', .int .i64 M', .int .i64 P', .slice B14 R'.length d14]] w fun e' w' => e' = .returned (.bool r) ∧ Below w.heap.size w w' := by
 unfold precentorref04_Same.f at h
 split at h
 ·
  rename_i hc
  exact precentorref04_Same.is _ _ _ _ _ _ _ _ _ _ _ _ _ _ _ _ _ _ _ _ _ _ _ _ _ _ _ _ _ _ _ _ _ _ _ _ _ _ _ _ _ _ w h8 l8 h9 l9 h14 l14 g8 m8 g9 m9 g14 m14 hc.1 hc.2 r (Option.some.inj h)
 ·
  cases h
end Go.Proofs.YtieolhhokepkjaaDoor.Print
namespace Go.Proofs.YtieolhhokepkjaaDoor.Print
set_option linter.unusedVariables false
set_option linter.unusedSimpArgs false
open Go.RowKit Go.Proofs.YtieolhhokepkjaaDoorW.PrintWords Go.Proofs.YtieolhhokepkjaaDoorW.PrintLast Go.Proofs.YtieolhhokepkjaaDoorW.PrintMore Go.Proofs.YtieolhhokepkjaaDoor.NumPlain
set_option maxRecDepth 100000 in
set_option maxHeartbeats 4000000 in
theorem pkt_Same.is (K F k s e i t c : Int) (A8 : Option Addr) (c8 : Nat) (L : List Int) (A9 : Option Addr) (c9 : Nat) (bo : List Int) (T O M P : Int) (A14 : Option Addr) (c14 : Nat) (R : List Int) (K' F' k' s' e' i' t' c' : Int) (B8 : Option Addr) (d8 : Nat) (L' : List Int) (B9 : Option Addr) (d9 : Nat) (bo' : List Int) (T' O' M' P' : Int) (B14 : Option Addr) (d14 : Nat) (R' : List Int) (w : World) (h8 : Kd.C (Kd.int .i64) w A8 L.length L) (l8 : L.length ≤ c8) (h9 : Kd.C (Kd.int .u8) w A9 bo.length bo) (l9 : bo.length ≤ c9) (h14 : Kd.C (Kd.int .i64) w A14 R.length R) (l14 : R.length ≤ c14) (g8 : Kd.C (Kd.int .i64) w B8 L'.length L') (m8 : L'.length ≤ d8) (g9 : Kd.C (Kd.int .u8) w B9 bo'.length bo') (m9 : bo'.length ≤ d9) (g14 : Kd.C (Kd.int .i64) w B14 R'.length R') (m14 : R'.length ≤ d14) (hL : L.length < 10000) (hR : R.length < 10000) (q : Bool) (hq : sameP K F k s e i t c L bo T O M P R K' F' k' s' e' i' t' c' L' bo' T' O' M' P' R' = q) :
  Calls Tryd.prog 15 #[.agg #[.int .i64 K, .int .i64 F, .int .i64 k, .int .i64 s, .int .i64 e, .int .i64 i, .int .i64 t, .int .i64 c, .slice A8 L.length c8, .slice A9 bo.length c9, .int .i64 T, .int .i64 O, .int .i64 M, .int .i64 P, .slice A14 R.length c14], .agg #[.int .i64 K', .int .i64 F', .int .i64 k', .int .i64 s', .int .i64 e', .int .i64 i', .int .i64 t', .int .i64 c', .slice B8 L'.length d8, .slice B9 bo'.length d9, .int .i64 T', .int .i64 O', .int .i64 M', .int .i64 P', .slice B14 R'.length d14]] w fun e' w' => e' = .returned (.bool q) ∧ Below w.heap.size w w' := by
 obtain ⟨w0, hw0, hB0, X0, Y0⟩ := boxes15 w #[.int .i64 K, .int .i64 F, .int .i64 k, .int .i64 s, .int .i64 e, .int .i64 i, .int .i64 t, .int .i64 c, .slice A8 L.length c8, .slice A9 bo.length c9, .int .i64 T, .int .i64 O, .int .i64 M, .int .i64 P, .slice A14 R.length c14] #[.int .i64 K', .int .i64 F', .int .i64 k', .int .i64 s', .int .i64 e', .int .i64 i', .int .i64 t', .int .i64 c', .slice B8 L'.length d8, .slice B9 bo'.length d9, .int .i64 T', .int .i64 O', .int .i64 M', .int .i64 P', .slice B14 R'.length d14]
 have HB0 := ak hB0
 obtain ⟨⟨q0, q1, q2, q3, q4, q5, q6, q7, q8, q9, q10, q11, q12, q13, q14⟩, _⟩ := cells15 X0
 obtain ⟨⟨p0, p1, p2, p3, p4, p5, p6, p7, p8, p9, p10, p11, p12, p13, p14⟩, _⟩ := cells15 Y0
 have HIT := Lib.hid (show Calls Tryd.prog 34 #[.agg #[.int .i64 k, .int .i64 s, .int .i64 e, .int .i64 i, .int .i64 t, .int .i64 c, .slice A8 L.length c8, .slice A9 bo.length c9], .agg #[.int .i64 k', .int .i64 s', .int .i64 e', .int .i64 i', .int .i64 t', .int .i64 c', .slice B8 L'.length d8, .slice B9 bo'.length d9]] w0 _ from item_Same.calls k s e i t c A8 c8 L A9 c9 bo k' s' e' i' t' c' B8 d8 L' B9 d9 bo' (sameB k s e i t c L bo k' s' e' i' t' c' L' bo') w0 (Kd.C_below h8 hB0) l8 (Kd.C_below h9 hB0) l9 (Kd.C_below g8 hB0) m8 (Kd.C_below g9 hB0) m9 (if_pos hL))
 have HRW := Lib.hid (show ∀ W, Below w0.heap.size w0 W → Calls Tryd.prog 35 #[.slice A14 R.length c14, .slice B14 R'.length d14] W _ from fun W hb => slices_Equal_int_int.calls 10000 A14 c14 R B14 d14 R' (decide (R = R')) W (Kd.C_below (Kd.C_below h14 hB0) hb) l14 (Kd.C_below (Kd.C_below g14 hB0) hb) m14 (equal_is hR))
 unfold sameP at hq
 generalize sameB k s e i t c L bo k' s' e' i' t' c' L' bo' = it at *
 obtain ⟨dr, hdr⟩ : ∃ b, decide (R = R') = b := ⟨_, rfl⟩
 rw [hdr] at hq HRW
 clear hB0 X0 Y0 h8 h9 h14 l8 l9 l14 g8 g9 g14 m8 m9 m14 hL hR hdr
 go_enter Tryd.func15, Tryd.ntmps15
 by_cases hK : K = K'
 rotate_left
 ·
  rw [decide_eq_false hK] at hq
  simp only [Bool.and_false, Bool.false_and, Bool.true_and] at hq
  subst hq
  have b : (K == K') = false := beq_eq_false_iff_ne.2 hK
  clear hK
  go_wp2_with fail
  go_ret
  exact ⟨rfl, HB0.out⟩
 rw [decide_eq_true hK] at hq
 subst hK
 by_cases hF : F = F'
 rotate_left
 ·
  rw [decide_eq_false hF] at hq
  simp only [Bool.and_false, Bool.false_and, Bool.true_and] at hq
  subst hq
  have b : (F == F') = false := beq_eq_false_iff_ne.2 hF
  clear hF
  go_wp2_with fail
  go_ret
  exact ⟨rfl, HB0.out⟩
 rw [decide_eq_true hF] at hq
 subst hF
 simp only [Bool.true_and] at hq
 go_wp2_with fail
 refine HIT.out.mono ?_
 rintro e1 w1 ⟨rfl, hb1⟩
 have HCT := Lib.hid (HRW.out w1 hb1)
 have y0 := pw_cell_below hb1 q0
 have y1 := pw_cell_below hb1 q1
 have y10 := pw_cell_below hb1 q10
 have y11 := pw_cell_below hb1 q11
 have y12 := pw_cell_below hb1 q12
 have y13 := pw_cell_below hb1 q13
 have y14 := pw_cell_below hb1 q14
 have z0 := pw_cell_below hb1 p0
 have z1 := pw_cell_below hb1 p1
 have z10 := pw_cell_below hb1 p10
 have z11 := pw_cell_below hb1 p11
 have z12 := pw_cell_below hb1 p12
 have z13 := pw_cell_below hb1 p13
 have z14 := pw_cell_below hb1 p14
 have HB := ak (below_step HB0.out hb1)
 clear hb1 HIT HRW hw0 q0 p0 q1 p1 q2 p2 q3 p3 q4 p4 q5 p5 q6 p6 q7 p7 q8 p8 q9 p9 q10 p10 q11 p11 q12 p12 q13 p13 q14 p14
 cases it
 ·
  simp only [Bool.and_false, Bool.false_and, Bool.true_and] at hq
  subst hq
  go_wp2_with fail
  go_ret
  exact ⟨rfl, HB.out⟩
 simp only [Bool.true_and] at hq
 by_cases hT : T = T'
 rotate_left
 ·
  rw [decide_eq_false hT] at hq
  simp only [Bool.and_false, Bool.false_and, Bool.true_and] at hq
  subst hq
  have b : (T == T') = false := beq_eq_false_iff_ne.2 hT
  clear hT
  go_wp2_with fail
  go_ret
  exact ⟨rfl, HB.out⟩
 rw [decide_eq_true hT] at hq
 subst hT
 by_cases hO : O = O'
 rotate_left
 ·
  rw [decide_eq_false hO] at hq
  simp only [Bool.and_false, Bool.false_and, Bool.true_and] at hq
  subst hq
  have b : (O == O') = false := beq_eq_false_iff_ne.2 hO
  clear hO
  go_wp2_with fail
  go_ret
  exact ⟨rfl, HB.out⟩
 rw [decide_eq_true hO] at hq
 subst hO
 by_cases hM : M = M'
 rotate_left
 ·
  rw [decide_eq_false hM] at hq
  simp only [Bool.and_false, Bool.false_and, Bool.true_and] at hq
  subst hq
  have b : (M == M') = false := beq_eq_false_iff_ne.2 hM
  clear hM
  go_wp2_with fail
  go_ret
  exact ⟨rfl, HB.out⟩
 rw [decide_eq_true hM] at hq
 subst hM
 by_cases hP : P = P'
 rotate_left
 ·
  rw [decide_eq_false hP] at hq
  simp only [Bool.and_false, Bool.false_and, Bool.true_and] at hq
  subst hq
  have b : (P == P') = false := beq_eq_false_iff_ne.2 hP
  clear hP
  go_wp2_with fail
  go_ret
  exact ⟨rfl, HB.out⟩
 rw [decide_eq_true hP] at hq
 subst hP
 simp only [Bool.true_and] at hq
 subst hq
 go_wp2_with fail
 refine HCT.out.mono ?_
 rintro e2 w2 ⟨rfl, ⟨⟨nq, rfl⟩⟩⟩
 clear HCT
 go_wp2_with fail
 go_ret
 exact ⟨rfl, pw_below_drewN HB.out nq⟩
def pkt_Same.f (n : Nat) (K F k s e i t c : Int) (L bo : List Int) (T O M P : Int) (R : List Int) (K' F' k' s' e' i' t' c' : Int) (L' bo' : List Int) (T' O' M' P' : Int) (R' : List Int) : Option Bool := if L.length < 10000 ∧ R.length < 10000 then some (sameP K F k s e i t c L bo T O M P R K' F' k' s' e' i' t' c' L' bo' T' O' M' P' R') else none
theorem psame_is (K F k s e i t c : Int) (L bo : List Int) (T O M P : Int) (R : List Int) (K' F' k' s' e' i' t' c' : Int) (L' bo' : List Int) (T' O' M' P' : Int) (R' : List Int) (hL : L.length < 10000) (hR : R.length < 10000) : pkt_Same.f 10000 K F k s e i t c L bo T O M P R K' F' k' s' e' i' t' c' L' bo' T' O' M' P' R' = some (sameP K F k s e i t c L bo T O M P R K' F' k' s' e' i' t' c' L' bo' T' O' M' P' R') := if_pos ⟨hL, hR⟩
theorem pkt_Same.mono : ∀ K F k s e i t c L bo T O M P R K' F' k' s' e' i' t' c' L' bo' T' O' M' P' R' n, LeO (pkt_Same.f n K F k s e i t c L bo T O M P R K' F' k' s' e' i' t' c' L' bo' T' O' M' P' R') (pkt_Same.f (n + 1) K F k s e i t c L bo T O M P R K' F' k' s' e' i' t' c' L' bo' T' O' M' P' R') := fun _ _ _ _ _ _ _ _ _ _ _ _ _ _ _ _ _ _ _ _ _ _ _ _ _ _ _ _ _ _ _ => fun _ h => h
theorem pkt_Same.calls (n : Nat) (K F k s e i t c : Int) (A8 : Option Addr) (c8 : Nat) (L : List Int) (A9 : Option Addr) (c9 : Nat) (bo : List Int) (T O M P : Int) (A14 : Option Addr) (c14 : Nat) (R : List Int) (K' F' k' s' e' i' t' c' : Int) (B8 : Option Addr) (d8 : Nat) (L' : List Int) (B9 : Option Addr) (d9 : Nat) (bo' : List Int) (T' O' M' P' : Int) (B14 : Option Addr) (d14 : Nat) (R' : List Int) (r : Bool) (w : World) (h8 : Kd.C (Kd.int .i64) w A8 L.length L) (l8 : L.length ≤ c8) (h9 : Kd.C (Kd.int .u8) w A9 bo.length bo) (l9 : bo.length ≤ c9) (h14 : Kd.C (Kd.int .i64) w A14 R.length R) (l14 : R.length ≤ c14) (g8 : Kd.C (Kd.int .i64) w B8 L'.length L') (m8 : L'.length ≤ d8) (g9 : Kd.C (Kd.int .u8) w B9 bo'.length bo') (m9 : bo'.length ≤ d9) (g14 : Kd.C (Kd.int .i64) w B14 R'.length R') (m14 : R'.length ≤ d14) (h : pkt_Same.f n K F k s e i t c L bo T O M P R K' F' k' s' e' i' t' c' L' bo' T' O' M' P' R' = some r) :
  Calls Tryd.prog 15 #[.agg #[.int .i64 K, .int .i64 F, .int .i64 k, .int .i64 s, .int .i64 e, .int .i64 i, .int .i64 t, .int .i64 c, .slice A8 L.length c8, .slice A9 bo.length c9, .int .i64 T, .int .i64 O, .int .i64 M, .int .i64 P, .slice A14 R.length c14], .agg #[.int .i64 K', .int .i64 F', .int .i64 k', .int .i64 s', .int .i64 e', .int .i64 i', .int .i64 t', .int .i64 c', .slice B8 L'.length d8, .slice B9 bo'.length d9, .int .i64 T', .int .i64 O', .int .i64 M', .int .i64 P', .slice B14 R'.length d14]] w fun e' w' => e' = .returned (.bool r) ∧ Below w.heap.size w w' := by
 unfold pkt_Same.f at h
 split at h
 ·
  rename_i hc
  exact pkt_Same.is _ _ _ _ _ _ _ _ _ _ _ _ _ _ _ _ _ _ _ _ _ _ _ _ _ _ _ _ _ _ _ _ _ _ _ _ _ _ _ _ _ _ w h8 l8 h9 l9 h14 l14 g8 m8 g9 m9 g14 m14 hc.1 hc.2 r (Option.some.inj h)
 ·
  cases h
end Go.Proofs.YtieolhhokepkjaaDoor.Print
