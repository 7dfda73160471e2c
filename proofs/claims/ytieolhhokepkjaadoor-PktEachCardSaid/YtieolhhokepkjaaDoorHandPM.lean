/- Which packets may be: pkt.May gives just that. Conditions stand in each theorem. -/
import Derived.Test.YtieolhhokepkjaaDoorPP
namespace Go.Proofs.YtieolhhokepkjaaDoor.Print
set_option linter.unusedVariables false
set_option linter.unusedSimpArgs false
open Go.RowKit Go.Proofs.YtieolhhokepkjaaDoorW.PrintWords Go.Proofs.YtieolhhokepkjaaDoorW.PrintLast Go.Proofs.YtieolhhokepkjaaDoorW.PrintMore Go.Proofs.YtieolhhokepkjaaDoor.NumPlain
theorem pkt_within.is (n lo hi : Int) (q : Bool) (w : World) (h : wi n lo hi = q) :
  Calls Tryd.prog 29 #[.int .i64 n, .int .i64 lo, .int .i64 hi] w fun e w' => e = .returned (.bool q) ∧ w' = w := by
 subst h
 unfold wi
 by_cases h0 : lo ≤ n
 ·
  have hd : decide (n ≥ lo) = true := decide_eq_true h0
  have hd' : decide (lo ≤ n) = true := decide_eq_true h0
  rw [show decide (lo ≤ n ∧ n ≤ hi) = decide (n ≤ hi) by simp [h0]]
  clear h0
  go_enter Tryd.func29, Tryd.ntmps29
  go_wp2_with fail
  go_ret
  exact ⟨rfl, rfl⟩
 ·
  have hd : decide (n ≥ lo) = false := decide_eq_false h0
  have hd' : decide (lo ≤ n) = false := decide_eq_false h0
  rw [show decide (lo ≤ n ∧ n ≤ hi) = false by simp [h0]]
  clear h0
  go_enter Tryd.func29, Tryd.ntmps29
  go_wp2_with fail
  go_ret
  exact ⟨rfl, rfl⟩
set_option maxRecDepth 100000 in
set_option maxHeartbeats 4000000 in
theorem pkt_May.is (K F k s e i t c : Int) (A8 : Option Addr) (c8 : Nat) (L : List Int) (A9 : Option Addr) (c9 : Nat) (bo : List Int) (T O M P : Int) (A14 : Option Addr) (c14 : Nat) (R : List Int) (w : World) (h8 : Kd.C (Kd.int .i64) w A8 L.length L) (l8 : L.length ≤ c8) (h9 : Kd.C (Kd.int .u8) w A9 bo.length bo) (l9 : bo.length ≤ c9) (h14 : Kd.C (Kd.int .i64) w A14 R.length R) (l14 : R.length ≤ c14) (hk : (Lit.int .i64 k).wf = true) (hL : L.length < 10000) (hR : R.length < 10000) (q : Bool) (hq : mayP K F (mayB k s e i t c L bo.length) (bareB k s e i t c L bo) T O M P R = q) :
  Calls Tryd.prog 13 #[.agg #[.int .i64 K, .int .i64 F, .int .i64 k, .int .i64 s, .int .i64 e, .int .i64 i, .int .i64 t, .int .i64 c, .slice A8 L.length c8, .slice A9 bo.length c9, .int .i64 T, .int .i64 O, .int .i64 M, .int .i64 P, .slice A14 R.length c14]] w fun e' w' => e' = .returned (.bool q) ∧ Below w.heap.size w w' := by
 obtain ⟨w0, hw0, hB0, hs0, X0⟩ := boxed15 w (.int .i64 K) (.int .i64 F) (.int .i64 k) (.int .i64 s) (.int .i64 e) (.int .i64 i) (.int .i64 t) (.int .i64 c) (.slice A8 L.length c8) (.slice A9 bo.length c9) (.int .i64 T) (.int .i64 O) (.int .i64 M) (.int .i64 P) (.slice A14 R.length c14)
 have HB := ak hB0
 have HX := ak X0
 obtain ⟨⟨q0, q1, q2, q3, q4, q5, q6, q7, q8, q9, q10, q11, q12, q13, q14⟩, _⟩ := cells15 X0
 have HIT := Lib.hid (show ∀ (it : Bool), mayB k s e i t c L bo.length = it → Calls Tryd.prog 30 #[.agg #[.int .i64 k, .int .i64 s, .int .i64 e, .int .i64 i, .int .i64 t, .int .i64 c, .slice A8 L.length c8, .slice A9 bo.length c9]] w0 (fun e' w' => e' = .returned (.bool it) ∧ Below w0.heap.size w0 w') from fun it h => item_May.calls k s e i t c A8 c8 L A9 c9 bo it w0 (Kd.C_below h8 hB0) l8 (Kd.C_below h9 hB0) l9 ((if_pos hk).trans (by rw [h])))
 have HBA := Lib.hid (show ∀ (ba : Bool), bareB k s e i t c L bo = ba → Calls Tryd.prog 31 #[.agg #[.int .i64 K, .int .i64 F, .int .i64 k, .int .i64 s, .int .i64 e, .int .i64 i, .int .i64 t, .int .i64 c, .slice A8 L.length c8, .slice A9 bo.length c9, .int .i64 T, .int .i64 O, .int .i64 M, .int .i64 P, .slice A14 R.length c14]] w0 (fun e' w' => e' = .returned (.bool ba) ∧ Below w0.heap.size w0 w') from fun ba h => pkt_bare.calls K F k s e i t c A8 c8 L A9 c9 bo T O M P A14 c14 R ba w0 (Kd.C_below h8 hB0) l8 (Kd.C_below h9 hB0) l9 (Kd.C_below h14 hB0) l14 (by rw [bare_is _ _ _ _ _ _ _ _ _ _ _ _ _ _ _ hL, h]))
 have HR := ak (Kd.C_below h14 hB0)
 have HRL := Lib.hid hR
 unfold mayP at hq
 generalize mayB k s e i t c L bo.length = it at *
 generalize bareB k s e i t c L bo = ba at *
 clear hB0 X0 hs0 h8 h9 h14 l8 l9 l14 hk hL hR
 obtain ⟨f, hf⟩ : ∃ f, wi F 0 63 = f := ⟨_, rfl⟩
 rw [hf] at hq
 go_enter Tryd.func13, Tryd.ntmps13
 go_wp2_with fail
 refine (pkt_within.is F 0 63 f w0 hf).mono ?_
 rintro e1 w1 ⟨rfl, h1⟩
 subst w1
 clear hf
 cases f
 ·
  rw [Bool.false_and] at hq; subst hq
  go_wp2_with fail
  go_ret
  exact ⟨rfl, HB.out⟩
 rw [Bool.true_and] at hq
 by_cases k12 : K = 1 ∨ K = 2
 ·
  rw [if_pos k12] at hq
  have hc := HIT.out it rfl
  have HCT := Lib.hid hc
  have kk : (K == 1) = true ∨ ((K == 1) = false ∧ (K == 2) = true) := by rcases k12 with rfl | rfl; exact Or.inl rfl; exact Or.inr ⟨rfl, rfl⟩
  clear hc HIT HBA HR k12
  rcases kk with k1 | ⟨k1, k2⟩
  ·
   skip
   go_wp2_with fail
   refine HCT.out.mono ?_
   rintro e2 w2 ⟨rfl, hb⟩
   have HB2 := ak (below_step HB.out hb)
   have y10 := pw_cell_below hb q10
   have y11 := pw_cell_below hb q11
   have y12 := pw_cell_below hb q12
   have y13 := pw_cell_below hb q13
   have y14 := pw_cell_below hb q14
   clear hb
   cases it
   ·
    rw [Bool.false_and] at hq; subst hq
    go_wp2_with fail
    go_ret
    exact ⟨rfl, HB2.out⟩
   rw [Bool.true_and] at hq
   by_cases a0 : T = 0
   rotate_left
   ·
    rw [decide_eq_false a0] at hq
    have b0 : (T == 0) = false := beq_eq_false_iff_ne.2 a0
    clear a0
    rw [Bool.false_and] at hq; subst hq
    go_wp2_with fail
    go_ret
    exact ⟨rfl, HB2.out⟩
   rw [decide_eq_true a0, Bool.true_and] at hq
   subst a0
   by_cases a1 : O = 0
   rotate_left
   ·
    rw [decide_eq_false a1] at hq
    have b1 : (O == 0) = false := beq_eq_false_iff_ne.2 a1
    clear a1
    rw [Bool.false_and] at hq; subst hq
    go_wp2_with fail
    go_ret
    exact ⟨rfl, HB2.out⟩
   rw [decide_eq_true a1, Bool.true_and] at hq
   subst a1
   by_cases a2 : M = 0
   rotate_left
   ·
    rw [decide_eq_false a2] at hq
    have b2 : (M == 0) = false := beq_eq_false_iff_ne.2 a2
    clear a2
    rw [Bool.false_and] at hq; subst hq
    go_wp2_with fail
    go_ret
    exact ⟨rfl, HB2.out⟩
   rw [decide_eq_true a2, Bool.true_and] at hq
   subst a2
   by_cases a3 : P = 0
   rotate_left
   ·
    rw [decide_eq_false a3] at hq
    have b3 : (P == 0) = false := beq_eq_false_iff_ne.2 a3
    clear a3
    rw [Bool.false_and] at hq; subst hq
    go_wp2_with fail
    go_ret
    exact ⟨rfl, HB2.out⟩
   rw [decide_eq_true a3, Bool.true_and] at hq
   subst a3
   have b4 : ((R.length : Int) == 0) = q := by rw [← hq, len0]
   have b5 : (R.length == 0) = q := by rw [← hq]; rfl
   clear hq
   go_wp2_with fail
   go_ret
   exact ⟨rfl, HB2.out⟩
  ·
   skip
   go_wp2_with fail
   refine HCT.out.mono ?_
   rintro e2 w2 ⟨rfl, hb⟩
   have HB2 := ak (below_step HB.out hb)
   have y10 := pw_cell_below hb q10
   have y11 := pw_cell_below hb q11
   have y12 := pw_cell_below hb q12
   have y13 := pw_cell_below hb q13
   have y14 := pw_cell_below hb q14
   clear hb
   cases it
   ·
    rw [Bool.false_and] at hq; subst hq
    go_wp2_with fail
    go_ret
    exact ⟨rfl, HB2.out⟩
   rw [Bool.true_and] at hq
   by_cases a0 : T = 0
   rotate_left
   ·
    rw [decide_eq_false a0] at hq
    have b0 : (T == 0) = false := beq_eq_false_iff_ne.2 a0
    clear a0
    rw [Bool.false_and] at hq; subst hq
    go_wp2_with fail
    go_ret
    exact ⟨rfl, HB2.out⟩
   rw [decide_eq_true a0, Bool.true_and] at hq
   subst a0
   by_cases a1 : O = 0
   rotate_left
   ·
    rw [decide_eq_false a1] at hq
    have b1 : (O == 0) = false := beq_eq_false_iff_ne.2 a1
    clear a1
    rw [Bool.false_and] at hq; subst hq
    go_wp2_with fail
    go_ret
    exact ⟨rfl, HB2.out⟩
   rw [decide_eq_true a1, Bool.true_and] at hq
   subst a1
   by_cases a2 : M = 0
   rotate_left
   ·
    rw [decide_eq_false a2] at hq
    have b2 : (M == 0) = false := beq_eq_false_iff_ne.2 a2
    clear a2
    rw [Bool.false_and] at hq; subst hq
    go_wp2_with fail
    go_ret
    exact ⟨rfl, HB2.out⟩
   rw [decide_eq_true a2, Bool.true_and] at hq
   subst a2
   by_cases a3 : P = 0
   rotate_left
   ·
    rw [decide_eq_false a3] at hq
    have b3 : (P == 0) = false := beq_eq_false_iff_ne.2 a3
    clear a3
    rw [Bool.false_and] at hq; subst hq
    go_wp2_with fail
    go_ret
    exact ⟨rfl, HB2.out⟩
   rw [decide_eq_true a3, Bool.true_and] at hq
   subst a3
   have b4 : ((R.length : Int) == 0) = q := by rw [← hq, len0]
   have b5 : (R.length == 0) = q := by rw [← hq]; rfl
   clear hq
   go_wp2_with fail
   go_ret
   exact ⟨rfl, HB2.out⟩
 rw [if_neg k12] at hq
 have k1 : (K == 1) = false := beq_eq_false_iff_ne.2 (fun h => k12 (Or.inl h))
 have k2 : (K == 2) = false := beq_eq_false_iff_ne.2 (fun h => k12 (Or.inr h))
 clear HIT k12
 by_cases k3 : K = 3
 ·
  rw [if_pos k3] at hq
  subst k3
  skip
  have HCT := Lib.hid (HBA.out ba rfl)
  clear HBA HR
  go_wp2_with fail
  refine HCT.out.mono ?_
  rintro e2 w2 ⟨rfl, hb⟩
  have HB2 := ak (below_step HB.out hb)
  have y10 := pw_cell_below hb q10
  have y11 := pw_cell_below hb q11
  have y12 := pw_cell_below hb q12
  have y13 := pw_cell_below hb q13
  have y14 := pw_cell_below hb q14
  clear hb
  cases ba
  ·
   rw [Bool.false_and] at hq; subst hq
   go_wp2_with fail
   go_ret
   exact ⟨rfl, HB2.out⟩
  rw [Bool.true_and] at hq
  obtain ⟨bT, hT⟩ : ∃ b, wi T 0 63 = b := ⟨_, rfl⟩
  rw [hT] at hq
  go_wp2_with fail
  refine (pkt_within.is T 0 63 bT w2 hT).mono ?_
  rintro e3 w3 ⟨rfl, h3⟩
  subst w3
  clear hT
  cases bT
  ·
   rw [Bool.false_and] at hq; subst hq
   go_wp2_with fail
   go_ret
   exact ⟨rfl, HB2.out⟩
  rw [Bool.true_and] at hq
  obtain ⟨bO, hO⟩ : ∃ b, wi O 1 4611686018427387904 = b := ⟨_, rfl⟩
  rw [hO] at hq
  go_wp2_with fail
  refine (pkt_within.is O 1 4611686018427387904 bO w2 hO).mono ?_
  rintro e3 w3 ⟨rfl, h3⟩
  subst w3
  clear hO
  cases bO
  ·
   rw [Bool.false_and] at hq; subst hq
   go_wp2_with fail
   go_ret
   exact ⟨rfl, HB2.out⟩
  rw [Bool.true_and] at hq
  obtain ⟨bM, hM⟩ : ∃ b, wi M 1 64 = b := ⟨_, rfl⟩
  rw [hM] at hq
  go_wp2_with fail
  refine (pkt_within.is M 1 64 bM w2 hM).mono ?_
  rintro e3 w3 ⟨rfl, h3⟩
  subst w3
  clear hM
  cases bM
  ·
   rw [Bool.false_and] at hq; subst hq
   go_wp2_with fail
   go_ret
   exact ⟨rfl, HB2.out⟩
  rw [Bool.true_and] at hq
  by_cases a3 : P = 0
  rotate_left
  ·
   rw [decide_eq_false a3] at hq
   have b3 : (P == 0) = false := beq_eq_false_iff_ne.2 a3
   clear a3
   rw [Bool.false_and] at hq; subst hq
   go_wp2_with fail
   go_ret
   exact ⟨rfl, HB2.out⟩
  rw [decide_eq_true a3, Bool.true_and] at hq
  subst a3
  have b4 : ((R.length : Int) == 0) = q := by rw [← hq, len0]
  have b5 : (R.length == 0) = q := by rw [← hq]; rfl
  clear hq
  go_wp2_with fail
  go_ret
  exact ⟨rfl, HB2.out⟩
 rw [if_neg k3] at hq
 by_cases k4 : K = 4
 rotate_left
 ·
  rw [if_neg k4] at hq
  subst hq
  have k3 : (K == 3) = false := beq_eq_false_iff_ne.2 k3
  have k4 : (K == 4) = false := beq_eq_false_iff_ne.2 k4
  clear HBA HR
  go_wp2_with fail
  go_ret
  exact ⟨rfl, HB.out⟩
 rw [if_pos k4] at hq
 subst k4
 have hm0 : R.length ≤ 9223372036854775807 := by have := HRL.out; omega
 have HQ := Lib.hid hq
 clear hq
 go_wp2_with fail
 go_loop [79] (fun i => ∃ n : Nat, n ≤ R.length ∧ i = Value.int .i64 n ∧ Aside0 (∀ j : Nat, j < n → wi (rd R (j : Int)) 0 4611686018427387904 = true)) (fun i => R.length - (intOf i).toNat)
 case atStart => exact ⟨0, Nat.zero_le _, rfl, ⟨fun j hj => by omega⟩⟩
 case round =>
  obtain ⟨n, hn, rfl, HA⟩ := hrel
  by_cases hlt : n < R.length
  ·
   obtain ⟨ad, rfl, hc⟩ := Kd.at_int HR.out (n : Int) (by omega) (by omega)
   rw [Int.toNat_natCast] at hc
   cases hx : wi (rd R (n : Int)) 0 4611686018427387904
   ·
    have h0 := HQ.out
    rw [each_bad hlt hx, Bool.false_and] at h0
    subst h0
    have HW := Lib.hid hx
    clear hx HQ HBA
    generalize rd R (n : Int) = x at *
    go_wp2_with fail
    refine (pkt_within.is x 0 4611686018427387904 false w0 HW.out).mono ?_
    rintro e' w' ⟨rfl, h⟩
    subst w'
    go_wp2_with fail
    go_ret
    exact ⟨rfl, HB.out⟩
   ·
    have HW := Lib.hid hx
    have HA2 := ak (show ∀ j : Nat, j < n + 1 → wi (rd R (j : Int)) 0 4611686018427387904 = true from fun j hj => by
     rcases Nat.lt_succ_iff_lt_or_eq.1 hj with h | rfl
     ·
      exact HA.out j h
     ·
      exact hx)
    clear hx HA
    generalize rd R (n : Int) = x at *
    go_wp2_with fail
    refine (pkt_within.is x 0 4611686018427387904 true w0 HW.out).mono ?_
    rintro e' w' ⟨rfl, h⟩
    subst w'
    go_wp2_with fail
    go_round
    case rel => exact ⟨n + 1, by omega, by go_num, HA2⟩
    case measure => simp [intOf]; omega
  ·
   obtain rfl : n = R.length := by omega
   have hq := HQ.out
   rw [each_good HA.out, Bool.true_and] at hq
   have HCT := Lib.hid (HBA.out ba rfl)
   clear HQ HA HBA HR
   go_wp2_with fail
   refine HCT.out.mono ?_
   rintro e2 w2 ⟨rfl, hb⟩
   have HB2 := ak (below_step HB.out hb)
   have y10 := pw_cell_below hb q10
   have y11 := pw_cell_below hb q11
   have y12 := pw_cell_below hb q12
   have y13 := pw_cell_below hb q13
   have y14 := pw_cell_below hb q14
   clear hb
   cases ba
   ·
    rw [Bool.false_and] at hq; subst hq
    go_wp2_with fail
    go_ret
    exact ⟨rfl, HB2.out⟩
   rw [Bool.true_and] at hq
   by_cases a0 : T = 0
   rotate_left
   ·
    rw [decide_eq_false a0] at hq
    have b0 : (T == 0) = false := beq_eq_false_iff_ne.2 a0
    clear a0
    rw [Bool.false_and] at hq; subst hq
    go_wp2_with fail
    go_ret
    exact ⟨rfl, HB2.out⟩
   rw [decide_eq_true a0, Bool.true_and] at hq
   subst a0
   by_cases a1 : O = 0
   rotate_left
   ·
    rw [decide_eq_false a1] at hq
    have b1 : (O == 0) = false := beq_eq_false_iff_ne.2 a1
    clear a1
    rw [Bool.false_and] at hq; subst hq
    go_wp2_with fail
    go_ret
    exact ⟨rfl, HB2.out⟩
   rw [decide_eq_true a1, Bool.true_and] at hq
   subst a1
   by_cases a2 : M = 0
   rotate_left
   ·
    rw [decide_eq_false a2] at hq
    have b2 : (M == 0) = false := beq_eq_false_iff_ne.2 a2
    clear a2
    rw [Bool.false_and] at hq; subst hq
    go_wp2_with fail
    go_ret
    exact ⟨rfl, HB2.out⟩
   rw [decide_eq_true a2, Bool.true_and] at hq
   subst a2
   obtain ⟨bP, hP⟩ : ∃ b, wi P 0 4611686018427387904 = b := ⟨_, rfl⟩
   rw [hP] at hq
   go_wp2_with fail
   refine (pkt_within.is P 0 4611686018427387904 bP w2 hP).mono ?_
   rintro e3 w3 ⟨rfl, h3⟩
   subst w3
   clear hP
   cases bP
   ·
    rw [Bool.false_and] at hq; subst hq
    go_wp2_with fail
    go_ret
    exact ⟨rfl, HB2.out⟩
   rw [Bool.true_and] at hq
   go_wp2_with fail
   refine (pkt_within.is (R.length : Int) 2 64 q w2 hq).mono ?_
   rintro e3 w3 ⟨rfl, h3⟩
   subst w3
   clear hq
   go_wp2_with fail
   go_ret
   exact ⟨rfl, HB2.out⟩
def pkt_May.f (n : Nat) (K F k s e i t c : Int) (L bo : List Int) (T O M P : Int) (R : List Int) : Option Bool := if (Lit.int .i64 k).wf = true ∧ L.length < 10000 ∧ R.length < 10000 then some (mayP K F (mayB k s e i t c L bo.length) (bareB k s e i t c L bo) T O M P R) else none
theorem pmay_is (K F k s e i t c : Int) (L bo : List Int) (T O M P : Int) (R : List Int) (hk : (Lit.int .i64 k).wf = true) (hL : L.length < 10000) (hR : R.length < 10000) :
  pkt_May.f 10000 K F k s e i t c L bo T O M P R = some (mayP K F (mayB k s e i t c L bo.length) (bareB k s e i t c L bo) T O M P R) := if_pos ⟨hk, hL, hR⟩
theorem pkt_May.calls (n : Nat) (K F k s e i t c : Int) (A8 : Option Addr) (c8 : Nat) (L : List Int) (A9 : Option Addr) (c9 : Nat) (bo : List Int) (T O M P : Int) (A14 : Option Addr) (c14 : Nat) (R : List Int) (r : Bool) (w : World) (h8 : Kd.C (Kd.int .i64) w A8 L.length L) (l8 : L.length ≤ c8) (h9 : Kd.C (Kd.int .u8) w A9 bo.length bo) (l9 : bo.length ≤ c9) (h14 : Kd.C (Kd.int .i64) w A14 R.length R) (l14 : R.length ≤ c14) (h : pkt_May.f n K F k s e i t c L bo T O M P R = some r) :
  Calls Tryd.prog 13 #[.agg #[.int .i64 K, .int .i64 F, .int .i64 k, .int .i64 s, .int .i64 e, .int .i64 i, .int .i64 t, .int .i64 c, .slice A8 L.length c8, .slice A9 bo.length c9, .int .i64 T, .int .i64 O, .int .i64 M, .int .i64 P, .slice A14 R.length c14]] w fun e' w' => e' = .returned (.bool r) ∧ Below w.heap.size w w' := by
 unfold pkt_May.f at h
 split at h
 ·
  rename_i hc
  exact pkt_May.is K F k s e i t c A8 c8 L A9 c9 bo T O M P A14 c14 R w h8 l8 h9 l9 h14 l14 hc.1 hc.2.1 hc.2.2 r (Option.some.inj h)
 ·
  cases h
end Go.Proofs.YtieolhhokepkjaaDoor.Print
