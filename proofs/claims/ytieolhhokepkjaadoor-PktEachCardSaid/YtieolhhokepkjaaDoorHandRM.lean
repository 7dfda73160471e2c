/- Which packets may be by the document: precentorref04.May gives just that. Conditions stand in each theorem. -/
import Derived.Test.YtieolhhokepkjaaDoorPP
import Derived.Test.YtieolhhokepkjaaDoorHandB
namespace Go.Proofs.YtieolhhokepkjaaDoor.Print
set_option linter.unusedVariables false
set_option linter.unusedSimpArgs false
open Go.RowKit Go.Proofs.YtieolhhokepkjaaDoorW.PrintWords Go.Proofs.YtieolhhokepkjaaDoorW.PrintLast Go.Proofs.YtieolhhokepkjaaDoorW.PrintMore Go.Proofs.YtieolhhokepkjaaDoor.NumPlain
theorem nilCr (k : Kd Int) (w : World) : Kd.C k w none 0 [] := by
 obtain ⟨A, c, h, _, hC⟩ := Kd.R_reads (Kd.R_nil k 0 w 0 (fun _ => True))
 obtain ⟨rfl, _, _⟩ := Value.slice.inj h
 exact hC
set_option maxRecDepth 100000 in
set_option maxHeartbeats 4000000 in
theorem precentorref04_May.is (K F k s e i t c : Int) (A8 : Option Addr) (c8 : Nat) (L : List Int) (A9 : Option Addr) (c9 : Nat) (bo : List Int) (T O M P : Int) (A14 : Option Addr) (c14 : Nat) (R : List Int) (w : World) (h8 : Kd.C (Kd.int .i64) w A8 L.length L) (l8 : L.length ≤ c8) (h9 : Kd.C (Kd.int .u8) w A9 bo.length bo) (l9 : bo.length ≤ c9) (h14 : Kd.C (Kd.int .i64) w A14 R.length R) (l14 : R.length ≤ c14) (hL : L.length < 10000) (hR : R.length < 10000) (q : Bool) (hq : mayP K F (mayB k s e i t c L bo.length) (bareB k s e i t c L bo) T O M P R = q) :
  Calls Tryd.prog 14 #[.agg #[.int .i64 K, .int .i64 F, .int .i64 k, .int .i64 s, .int .i64 e, .int .i64 i, .int .i64 t, .int .i64 c, .slice A8 L.length c8, .slice A9 bo.length c9, .int .i64 T, .int .i64 O, .int .i64 M, .int .i64 P, .slice A14 R.length c14]] w fun e' w' => e' = .returned (.bool q) ∧ Below w.heap.size w w' := by
 obtain ⟨w0, hw0, hB0, hs0, X0⟩ := boxed15 w (.int .i64 K) (.int .i64 F) (.int .i64 k) (.int .i64 s) (.int .i64 e) (.int .i64 i) (.int .i64 t) (.int .i64 c) (.slice A8 L.length c8) (.slice A9 bo.length c9) (.int .i64 T) (.int .i64 O) (.int .i64 M) (.int .i64 P) (.slice A14 R.length c14)
 have HB0 := ak hB0
 have HX := ak X0
 obtain ⟨⟨q0, q1, q2, q3, q4, q5, q6, q7, q8, q9, q10, q11, q12, q13, q14⟩, _⟩ := cells15 X0
 have HBA := Lib.hid (show Calls Tryd.prog 32 #[.agg #[.int .i64 k, .int .i64 s, .int .i64 e, .int .i64 i, .int .i64 t, .int .i64 c, .slice A8 L.length c8, .slice A9 bo.length c9], .agg #[.int .i64 0, .int .i64 0, .int .i64 0, .int .i64 0, .int .i64 0, .int .i64 0, .slice none 0 0, .slice none 0 0]] w0 _ from precentorref03_Same.calls k s e i t c A8 c8 L A9 c9 bo 0 0 0 0 0 0 none 0 [] none 0 [] (bareB k s e i t c L bo) w0 (Kd.C_below h8 hB0) l8 (Kd.C_below h9 hB0) l9 (nilCr _ _) (Nat.le_refl _) (nilCr _ _) (Nat.le_refl _) (if_pos hL))
 have HIT := Lib.hid (show ∀ W, Below w0.heap.size w0 W → Calls Tryd.prog 33 #[.agg #[.int .i64 k, .int .i64 s, .int .i64 e, .int .i64 i, .int .i64 t, .int .i64 c, .slice A8 L.length c8, .slice A9 bo.length c9]] W (fun e' w' => e' = .returned (.bool (mayB k s e i t c L bo.length)) ∧ Below W.heap.size W w') from fun W hb => precentorref03_May.calls k s e i t c A8 c8 L A9 c9 bo _ W (Kd.C_below (Kd.C_below h8 hB0) hb) l8 (Kd.C_below (Kd.C_below h9 hB0) hb) l9 (if_pos hL))
 have HR0 := ak (Kd.C_below h14 hB0)
 have HRL := Lib.hid hR
 unfold mayP at hq
 generalize mayB k s e i t c L bo.length = it at *
 generalize bareB k s e i t c L bo = ba at *
 clear hB0 hs0 X0 h8 h9 h14 l8 l9 l14 hL hR
 go_enter Tryd.func14, Tryd.ntmps14
 go_wp2_with fail
 refine HBA.out.mono ?_
 rintro e1 w1 ⟨rfl, hb1⟩
 have y0 := pw_cell_below hb1 q0
 have y1 := pw_cell_below hb1 q1
 have y2 := pw_cell_below hb1 q2
 have y3 := pw_cell_below hb1 q3
 have y4 := pw_cell_below hb1 q4
 have y5 := pw_cell_below hb1 q5
 have y6 := pw_cell_below hb1 q6
 have y7 := pw_cell_below hb1 q7
 have y8 := pw_cell_below hb1 q8
 have y9 := pw_cell_below hb1 q9
 have y10 := pw_cell_below hb1 q10
 have y11 := pw_cell_below hb1 q11
 have y12 := pw_cell_below hb1 q12
 have y13 := pw_cell_below hb1 q13
 have y14 := pw_cell_below hb1 q14
 have HCT := Lib.hid (HIT.out w1 hb1)
 have HB1 := ak hb1
 clear hb1 HBA HIT q0 q1 q2 q3 q4 q5 q6 q7 q8 q9 q10 q11 q12 q13 q14
 go_wp2_with fail
 refine HCT.out.mono ?_
 rintro e2 w2 ⟨rfl, hb2⟩
 have q0 := pw_cell_below hb2 y0
 have q1 := pw_cell_below hb2 y1
 have q10 := pw_cell_below hb2 y10
 have q11 := pw_cell_below hb2 y11
 have q12 := pw_cell_below hb2 y12
 have q13 := pw_cell_below hb2 y13
 have q14 := pw_cell_below hb2 y14
 have HB := ak (below_step (below_step HB0.out HB1.out) hb2)
 have HR := ak (Kd.C_below (Kd.C_below HR0.out HB1.out) hb2)
 clear hb2 HCT HB0 HB1 HR0 hw0 y0 y1 y2 y3 y4 y5 y6 y7 y8 y9 y10 y11 y12 y13 y14
 by_cases f0 : F < 0
 ·
  rw [show wi F 0 63 = false from decide_eq_false (by omega), Bool.false_and] at hq
  subst hq
  have g0 : decide (F < 0) = true := decide_eq_true f0
  clear f0
  go_wp2_with fail
  go_ret
  exact ⟨rfl, HB.out⟩
 have g0 : decide (F < 0) = false := decide_eq_false f0
 by_cases f1 : F > 63
 ·
  rw [show wi F 0 63 = false from decide_eq_false (by omega), Bool.false_and] at hq
  subst hq
  have g1 : decide (F > 63) = true := decide_eq_true f1
  have g2 : decide (63 < F) = true := decide_eq_true f1
  clear f0 f1
  go_wp2_with fail
  go_ret
  exact ⟨rfl, HB.out⟩
 have g1 : decide (F > 63) = false := decide_eq_false f1
 have g2 : decide (63 < F) = false := decide_eq_false f1
 rw [show wi F 0 63 = true from decide_eq_true (by omega), Bool.true_and] at hq
 clear f0 f1
 by_cases k12 : K = 1 ∨ K = 2
 ·
  rw [if_pos k12] at hq
  have kk : (K == 1) = true ∨ ((K == 1) = false ∧ (K == 2) = true) := by rcases k12 with rfl | rfl; exact Or.inl rfl; exact Or.inr ⟨rfl, rfl⟩
  clear HR k12
  rcases kk with k1 | ⟨k1, k2⟩
  ·
   cases it
   ·
    rw [Bool.false_and] at hq; subst hq
    go_wp2_with fail
    go_ret
    exact ⟨rfl, HB.out⟩
   rw [Bool.true_and] at hq
   by_cases a0 : T = 0
   rotate_left
   ·
    rw [decide_eq_false a0] at hq
    have b0 : (T == 0) = false := beq_eq_false_iff_ne.2 a0
    clear a0
    rw [Bool.false_and] at hq; subst hq
    go_wp2_with fail
    go_ret
    exact ⟨rfl, HB.out⟩
   rw [decide_eq_true a0, Bool.true_and] at hq
   subst a0
   by_cases a1 : O = 0
   rotate_left
   ·
    rw [decide_eq_false a1] at hq
    have b1 : (O == 0) = false := beq_eq_false_iff_ne.2 a1
    clear a1
    rw [Bool.false_and] at hq; subst hq
    go_wp2_with fail
    go_ret
    exact ⟨rfl, HB.out⟩
   rw [decide_eq_true a1, Bool.true_and] at hq
   subst a1
   by_cases a2 : M = 0
   rotate_left
   ·
    rw [decide_eq_false a2] at hq
    have b2 : (M == 0) = false := beq_eq_false_iff_ne.2 a2
    clear a2
    rw [Bool.false_and] at hq; subst hq
    go_wp2_with fail
    go_ret
    exact ⟨rfl, HB.out⟩
   rw [decide_eq_true a2, Bool.true_and] at hq
   subst a2
   by_cases a3 : P = 0
   rotate_left
   ·
    rw [decide_eq_false a3] at hq
    have b3 : (P == 0) = false := beq_eq_false_iff_ne.2 a3
    clear a3
    rw [Bool.false_and] at hq; subst hq
    go_wp2_with fail
    go_ret
    exact ⟨rfl, HB.out⟩
   rw [decide_eq_true a3, Bool.true_and] at hq
   subst a3
   have b4 : ((R.length : Int) == 0) = q := by rw [← hq, len0]
   have b5 : (R.length == 0) = q := by rw [← hq]; rfl
   clear hq
   go_wp2_with fail
   go_ret
   exact ⟨rfl, HB.out⟩
  ·
   cases it
   ·
    rw [Bool.false_and] at hq; subst hq
    go_wp2_with fail
    go_ret
    exact ⟨rfl, HB.out⟩
   rw [Bool.true_and] at hq
   by_cases a0 : T = 0
   rotate_left
   ·
    rw [decide_eq_false a0] at hq
    have b0 : (T == 0) = false := beq_eq_false_iff_ne.2 a0
    clear a0
    rw [Bool.false_and] at hq; subst hq
    go_wp2_with fail
    go_ret
    exact ⟨rfl, HB.out⟩
   rw [decide_eq_true a0, Bool.true_and] at hq
   subst a0
   by_cases a1 : O = 0
   rotate_left
   ·
    rw [decide_eq_false a1] at hq
    have b1 : (O == 0) = false := beq_eq_false_iff_ne.2 a1
    clear a1
    rw [Bool.false_and] at hq; subst hq
    go_wp2_with fail
    go_ret
    exact ⟨rfl, HB.out⟩
   rw [decide_eq_true a1, Bool.true_and] at hq
   subst a1
   by_cases a2 : M = 0
   rotate_left
   ·
    rw [decide_eq_false a2] at hq
    have b2 : (M == 0) = false := beq_eq_false_iff_ne.2 a2
    clear a2
    rw [Bool.false_and] at hq; subst hq
    go_wp2_with fail
    go_ret
    exact ⟨rfl, HB.out⟩
   rw [decide_eq_true a2, Bool.true_and] at hq
   subst a2
   by_cases a3 : P = 0
   rotate_left
   ·
    rw [decide_eq_false a3] at hq
    have b3 : (P == 0) = false := beq_eq_false_iff_ne.2 a3
    clear a3
    rw [Bool.false_and] at hq; subst hq
    go_wp2_with fail
    go_ret
    exact ⟨rfl, HB.out⟩
   rw [decide_eq_true a3, Bool.true_and] at hq
   subst a3
   have b4 : ((R.length : Int) == 0) = q := by rw [← hq, len0]
   have b5 : (R.length == 0) = q := by rw [← hq]; rfl
   clear hq
   go_wp2_with fail
   go_ret
   exact ⟨rfl, HB.out⟩
 rw [if_neg k12] at hq
 have k1 : (K == 1) = false := beq_eq_false_iff_ne.2 (fun h => k12 (Or.inl h))
 have k2 : (K == 2) = false := beq_eq_false_iff_ne.2 (fun h => k12 (Or.inr h))
 clear k12
 by_cases k3 : K = 3
 ·
  rw [if_pos k3] at hq
  subst k3
  clear HR
  cases ba
  ·
   rw [Bool.false_and] at hq; subst hq
   go_wp2_with fail
   go_ret
   exact ⟨rfl, HB.out⟩
  rw [Bool.true_and] at hq
  by_cases c1 : 0 ≤ T
  rotate_left
  ·
   rw [show wi T 0 63 = false from decide_eq_false (by omega), Bool.false_and] at hq
   subst hq
   have d1 : decide (T ≥ 0) = false := decide_eq_false c1
   have d1' : decide (0 ≤ T) = false := decide_eq_false c1
   clear c1
   go_wp2_with fail
   go_ret
   exact ⟨rfl, HB.out⟩
  have d1 : decide (T ≥ 0) = true := decide_eq_true c1
  have d1' : decide (0 ≤ T) = true := decide_eq_true c1
  by_cases e1 : T ≤ 63
  rotate_left
  ·
   rw [show wi T 0 63 = false from decide_eq_false (by omega), Bool.false_and] at hq
   subst hq
   have i1 : decide (T ≤ 63) = false := decide_eq_false e1
   clear c1 e1
   go_wp2_with fail
   go_ret
   exact ⟨rfl, HB.out⟩
  have i1 : decide (T ≤ 63) = true := decide_eq_true e1
  rw [show wi T 0 63 = true from decide_eq_true ⟨c1, e1⟩, Bool.true_and] at hq
  clear c1 e1
  by_cases c2 : 1 ≤ O
  rotate_left
  ·
   rw [show wi O 1 4611686018427387904 = false from decide_eq_false (by omega), Bool.false_and] at hq
   subst hq
   have d2 : decide (O ≥ 1) = false := decide_eq_false c2
   have d2' : decide (1 ≤ O) = false := decide_eq_false c2
   clear c2
   go_wp2_with fail
   go_ret
   exact ⟨rfl, HB.out⟩
  have d2 : decide (O ≥ 1) = true := decide_eq_true c2
  have d2' : decide (1 ≤ O) = true := decide_eq_true c2
  by_cases e2 : O ≤ 4611686018427387904
  rotate_left
  ·
   rw [show wi O 1 4611686018427387904 = false from decide_eq_false (by omega), Bool.false_and] at hq
   subst hq
   have i2 : decide (O ≤ 4611686018427387904) = false := decide_eq_false e2
   clear c2 e2
   go_wp2_with fail
   go_ret
   exact ⟨rfl, HB.out⟩
  have i2 : decide (O ≤ 4611686018427387904) = true := decide_eq_true e2
  rw [show wi O 1 4611686018427387904 = true from decide_eq_true ⟨c2, e2⟩, Bool.true_and] at hq
  clear c2 e2
  by_cases c3 : 1 ≤ M
  rotate_left
  ·
   rw [show wi M 1 64 = false from decide_eq_false (by omega), Bool.false_and] at hq
   subst hq
   have d3 : decide (M ≥ 1) = false := decide_eq_false c3
   have d3' : decide (1 ≤ M) = false := decide_eq_false c3
   clear c3
   go_wp2_with fail
   go_ret
   exact ⟨rfl, HB.out⟩
  have d3 : decide (M ≥ 1) = true := decide_eq_true c3
  have d3' : decide (1 ≤ M) = true := decide_eq_true c3
  by_cases e3 : M ≤ 64
  rotate_left
  ·
   rw [show wi M 1 64 = false from decide_eq_false (by omega), Bool.false_and] at hq
   subst hq
   have i3 : decide (M ≤ 64) = false := decide_eq_false e3
   clear c3 e3
   go_wp2_with fail
   go_ret
   exact ⟨rfl, HB.out⟩
  have i3 : decide (M ≤ 64) = true := decide_eq_true e3
  rw [show wi M 1 64 = true from decide_eq_true ⟨c3, e3⟩, Bool.true_and] at hq
  clear c3 e3
  by_cases a0 : P = 0
  rotate_left
  ·
   rw [decide_eq_false a0] at hq
   have b0 : (P == 0) = false := beq_eq_false_iff_ne.2 a0
   clear a0
   rw [Bool.false_and] at hq; subst hq
   go_wp2_with fail
   go_ret
   exact ⟨rfl, HB.out⟩
  rw [decide_eq_true a0, Bool.true_and] at hq
  subst a0
  have b4 : ((R.length : Int) == 0) = q := by rw [← hq, len0]
  have b5 : (R.length == 0) = q := by rw [← hq]; rfl
  clear hq
  go_wp2_with fail
  go_ret
  exact ⟨rfl, HB.out⟩
 rw [if_neg k3] at hq
 by_cases k4 : K = 4
 rotate_left
 ·
  rw [if_neg k4] at hq
  subst hq
  have k3 : (K == 3) = false := beq_eq_false_iff_ne.2 k3
  have k4 : (K == 4) = false := beq_eq_false_iff_ne.2 k4
  clear HR
  go_wp2_with fail
  go_ret
  exact ⟨rfl, HB.out⟩
 rw [if_pos k4] at hq
 subst k4
 have hm0 : R.length ≤ 9223372036854775807 := by have := HRL.out; omega
 have HQ := Lib.hid hq
 clear hq
 go_wp2_with fail
 go_loop [5] (fun i => ∃ n : Nat, n ≤ R.length ∧ i = Value.int .i64 n ∧ Aside0 (∀ j : Nat, j < n → wi (rd R (j : Int)) 0 4611686018427387904 = true)) (fun i => R.length - (intOf i).toNat)
 case atStart => exact ⟨0, Nat.zero_le _, rfl, ⟨fun j hj => by omega⟩⟩
 case round =>
  obtain ⟨n, hn, rfl, HA⟩ := hrel
  by_cases hlt : n < R.length
  ·
   obtain ⟨ad, rfl, hc⟩ := Kd.at_int HR.out (n : Int) (by omega) (by omega)
   rw [Int.toNat_natCast] at hc
   by_cases hx : wi (rd R (n : Int)) 0 4611686018427387904 = false
   ·
    have h0 := HQ.out
    rw [each_bad hlt hx, Bool.false_and] at h0
    subst h0
    unfold wi at hx
    have hx := of_decide_eq_false hx
    clear HQ HA
    generalize rd R (n : Int) = x at *
    by_cases x0 : x < 0
    ·
     have d0 : decide (x < 0) = true := decide_eq_true x0
     clear hx x0
     go_wp2_with fail
     go_ret
     exact ⟨rfl, HB.out⟩
    ·
     have d0 : decide (x < 0) = false := decide_eq_false x0
     have d1 : decide (x > 4611686018427387904) = true := decide_eq_true (by omega)
     have d2 : decide (4611686018427387904 < x) = true := decide_eq_true (by omega)
     clear hx x0
     go_wp2_with fail
     go_ret
     exact ⟨rfl, HB.out⟩
   ·
    have hx : wi (rd R (n : Int)) 0 4611686018427387904 = true := by simpa using hx
    have HA2 := ak (show ∀ j : Nat, j < n + 1 → wi (rd R (j : Int)) 0 4611686018427387904 = true from fun j hj => by
     rcases Nat.lt_succ_iff_lt_or_eq.1 hj with h | rfl
     ·
      exact HA.out j h
     ·
      exact hx)
    unfold wi at hx
    have hx := of_decide_eq_true hx
    clear HA
    generalize rd R (n : Int) = x at *
    have d0 : decide (x < 0) = false := decide_eq_false (by omega)
    have d1 : decide (x > 4611686018427387904) = false := decide_eq_false (by omega)
    have d2 : decide (4611686018427387904 < x) = false := decide_eq_false (by omega)
    clear hx
    go_wp2_with fail
    go_round
    case rel => exact ⟨n + 1, by omega, by go_num, HA2⟩
    case measure => simp [intOf]; omega
  ·
   obtain rfl : n = R.length := by omega
   have hq := HQ.out
   rw [each_good HA.out, Bool.true_and] at hq
   clear HQ HA HR
   cases ba
   ·
    rw [Bool.false_and] at hq; subst hq
    go_wp2_with fail
    go_ret
    exact ⟨rfl, HB.out⟩
   rw [Bool.true_and] at hq
   by_cases a0 : T = 0
   rotate_left
   ·
    rw [decide_eq_false a0] at hq
    have b0 : (T == 0) = false := beq_eq_false_iff_ne.2 a0
    clear a0
    rw [Bool.false_and] at hq; subst hq
    go_wp2_with fail
    go_ret
    exact ⟨rfl, HB.out⟩
   rw [decide_eq_true a0, Bool.true_and] at hq
   subst a0
   by_cases a1 : O = 0
   rotate_left
   ·
    rw [decide_eq_false a1] at hq
    have b1 : (O == 0) = false := beq_eq_false_iff_ne.2 a1
    clear a1
    rw [Bool.false_and] at hq; subst hq
    go_wp2_with fail
    go_ret
    exact ⟨rfl, HB.out⟩
   rw [decide_eq_true a1, Bool.true_and] at hq
   subst a1
   by_cases a2 : M = 0
   rotate_left
   ·
    rw [decide_eq_false a2] at hq
    have b2 : (M == 0) = false := beq_eq_false_iff_ne.2 a2
    clear a2
    rw [Bool.false_and] at hq; subst hq
    go_wp2_with fail
    go_ret
    exact ⟨rfl, HB.out⟩
   rw [decide_eq_true a2, Bool.true_and] at hq
   subst a2
   by_cases c1 : 0 ≤ P
   rotate_left
   ·
    rw [show wi P 0 4611686018427387904 = false from decide_eq_false (by omega), Bool.false_and] at hq
    subst hq
    have d1 : decide (P ≥ 0) = false := decide_eq_false c1
    have d1' : decide (0 ≤ P) = false := decide_eq_false c1
    clear c1
    go_wp2_with fail
    go_ret
    exact ⟨rfl, HB.out⟩
   have d1 : decide (P ≥ 0) = true := decide_eq_true c1
   have d1' : decide (0 ≤ P) = true := decide_eq_true c1
   by_cases e1 : P ≤ 4611686018427387904
   rotate_left
   ·
    rw [show wi P 0 4611686018427387904 = false from decide_eq_false (by omega), Bool.false_and] at hq
    subst hq
    have i1 : decide (P ≤ 4611686018427387904) = false := decide_eq_false e1
    clear c1 e1
    go_wp2_with fail
    go_ret
    exact ⟨rfl, HB.out⟩
   have i1 : decide (P ≤ 4611686018427387904) = true := decide_eq_true e1
   rw [show wi P 0 4611686018427387904 = true from decide_eq_true ⟨c1, e1⟩, Bool.true_and] at hq
   clear c1 e1
   by_cases r2 : 2 ≤ R.length
   rotate_left
   ·
    rw [show wi (R.length : Int) 2 64 = false from decide_eq_false (by omega)] at hq
    subst hq
    have s1 : decide ((R.length : Int) ≥ 2) = false := decide_eq_false (by omega)
    have s2 : decide (2 ≤ R.length) = false := decide_eq_false r2
    have s3 : decide (R.length ≥ 2) = false := decide_eq_false r2
    have s4 : decide ((2 : Int) ≤ (R.length : Int)) = false := decide_eq_false (by omega)
    clear r2 hn hlt
    go_wp2_with fail
    go_ret
    exact ⟨rfl, HB.out⟩
   have s1 : decide ((R.length : Int) ≥ 2) = true := decide_eq_true (by omega)
   have s2 : decide (2 ≤ R.length) = true := decide_eq_true r2
   have s3 : decide (R.length ≥ 2) = true := decide_eq_true r2
   have s4 : decide ((2 : Int) ≤ (R.length : Int)) = true := decide_eq_true (by omega)
   have s5 : decide ((R.length : Int) ≤ 64) = q := by rw [← hq]; exact decide_eq_decide.2 (by omega)
   have s6 : decide (R.length ≤ 64) = q := by rw [← hq]; exact decide_eq_decide.2 (by omega)
   clear r2 hn hlt hq
   go_wp2_with fail
   go_ret
   exact ⟨rfl, HB.out⟩
def precentorref04_May.f (n : Nat) (K F k s e i t c : Int) (L bo : List Int) (T O M P : Int) (R : List Int) : Option Bool := if L.length < 10000 ∧ R.length < 10000 then some (mayP K F (mayB k s e i t c L bo.length) (bareB k s e i t c L bo) T O M P R) else none
theorem precentorref04_May.calls (n : Nat) (K F k s e i t c : Int) (A8 : Option Addr) (c8 : Nat) (L : List Int) (A9 : Option Addr) (c9 : Nat) (bo : List Int) (T O M P : Int) (A14 : Option Addr) (c14 : Nat) (R : List Int) (r : Bool) (w : World) (h8 : Kd.C (Kd.int .i64) w A8 L.length L) (l8 : L.length ≤ c8) (h9 : Kd.C (Kd.int .u8) w A9 bo.length bo) (l9 : bo.length ≤ c9) (h14 : Kd.C (Kd.int .i64) w A14 R.length R) (l14 : R.length ≤ c14) (h : precentorref04_May.f n K F k s e i t c L bo T O M P R = some r) :
  Calls Tryd.prog 14 #[.agg #[.int .i64 K, .int .i64 F, .int .i64 k, .int .i64 s, .int .i64 e, .int .i64 i, .int .i64 t, .int .i64 c, .slice A8 L.length c8, .slice A9 bo.length c9, .int .i64 T, .int .i64 O, .int .i64 M, .int .i64 P, .slice A14 R.length c14]] w fun e' w' => e' = .returned (.bool r) ∧ Below w.heap.size w w' := by
 unfold precentorref04_May.f at h
 split at h
 ·
  rename_i hc
  exact precentorref04_May.is K F k s e i t c A8 c8 L A9 c9 bo T O M P A14 c14 R w h8 l8 h9 l9 h14 l14 hc.1 hc.2 r (Option.some.inj h)
 ·
  cases h
theorem rmayP_is (K F k s e i t c : Int) (L bo : List Int) (T O M P : Int) (R : List Int) (hL : L.length < 10000) (hR : R.length < 10000) (n : Nat) (hn : 10010 ≤ n) :
  precentorref04_May.f n K F k s e i t c L bo T O M P R = some (mayP K F (mayB k s e i t c L bo.length) (bareB k s e i t c L bo) T O M P R) := if_pos ⟨hL, hR⟩
theorem precentorref04_May.mono : ∀ K F k s e i t c L bo T O M P R n, LeO (precentorref04_May.f n K F k s e i t c L bo T O M P R) (precentorref04_May.f (n + 1) K F k s e i t c L bo T O M P R) := fun _ _ _ _ _ _ _ _ _ _ _ _ _ _ _ _ => fun _ h => h
end Go.Proofs.YtieolhhokepkjaaDoor.Print
