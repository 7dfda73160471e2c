/- Which items may be by the document: the same Lean function as the program's, and that each call does just that. Conditions stand in each theorem. -/
import Derived.Test.YtocoikndkmdnkaaDoorHand5
import Derived.Test.YtocoikndkmdnkaaDoorHandS
namespace Go.Proofs.YtocoikndkmdnkaaDoor.Print
set_option linter.unusedVariables false
set_option linter.unusedSimpArgs false
open Go.RowKit Go.Proofs.YtocoikndkmdnkaaDoorW.PrintWords Go.Proofs.YtocoikndkmdnkaaDoorW.PrintLast Go.Proofs.YtocoikndkmdnkaaDoorW.PrintMore Go.Proofs.YtocoikndkmdnkaaDoor.NumPlain

theorem in_loop (hi : Int) (b : List Int) : ∀ (k : Nat) (a : List Int), a.length + b.length < 100000 → b.length < k → precentorref03_in.l0 k (a ++ b) hi a.length = some (each b hi) := by
  induction b with
  | nil =>
    intro k a h3 hk
    obtain ⟨k, rfl⟩ : ∃ q, k = q + 1 := ⟨k - 1, by omega⟩
    simp only [precentorref03_in.l0]
    rw [if_neg (by simp)]; rfl
  | cons x b ih =>
    intro k a h3 hk
    simp only [List.length_cons] at h3 hk
    obtain ⟨k, rfl⟩ : ∃ q, k = q + 1 := ⟨k - 1, by omega⟩
    simp only [precentorref03_in.l0]
    rw [if_pos (by simp; omega), if_pos (by omega), rd_mid, wrap_id (by omega) (by omega)]
    by_cases h1 : x < 0
    · rw [if_pos h1]; simp only [each, List.all_cons, wi]; rw [decide_eq_false (by omega)]; rfl
    · rw [if_neg h1]
      by_cases h2 : x > hi
      · rw [if_pos h2]; simp only [each, List.all_cons, wi]; rw [decide_eq_false (by omega)]; rfl
      · rw [if_neg h2]
        have := ih k (a ++ [x]) (by simp; omega) (by omega)
        rw [List.append_assoc, List.singleton_append, show ((a ++ [x]).length : Int) = (a.length : Int) + 1 by simp] at this
        rw [this]; simp only [each, List.all_cons, wi]; rw [decide_eq_true (by omega)]; rfl
theorem in_is {l : List Int} (hi : Int) (hl : l.length < 10000) : precentorref03_in.f 10000 l hi = some (each l hi) := by
  have := in_loop hi l 10000 [] (by simp; omega) (by omega)
  simpa [precentorref03_in.f] using this

def rmay1 (i t c : Int) (L bo : List Int) : Bool := decide (1 ≤ t) && (decide (t ≤ 32) && (decide (0 ≤ i) && (decide (i < t) && (decide (c = 0) && (decide (L.length = 0) && (decide (bo.length ≤ 1024)))))))
def rmay2 (i t c : Int) (L bo : List Int) : Bool := each L 63 && (decide (0 ≤ i) && (decide (i ≤ 1) && (decide (t = 0) && (decide (c = 0) && (decide (bo.length = 0) && (decide (1 ≤ L.length) && (decide (L.length ≤ 64))))))))
def rmay3 (i t c : Int) (L bo : List Int) : Bool := (decide (L.length = 0) && decide (bo.length = 0)) && (decide (i = 0) && (decide (t = 0) && (decide (c = 0))))
def rmay4 (i t c : Int) (L bo : List Int) : Bool := (decide (L.length = 0) && decide (bo.length = 0)) && (decide (0 ≤ i) && (decide (i ≤ 1) && (decide (t = 0) && (decide (c = 0)))))
def rmay5 (i t c : Int) (L bo : List Int) : Bool := (decide (L.length = 0) && decide (bo.length = 0)) && (decide (i = 0) && (decide (t = 0) && (decide (0 ≤ c) && (decide (c ≤ 4611686018427387904)))))
def rmay6 (i t c : Int) (L bo : List Int) : Bool := each L 4611686018427387904 && (decide (i = 0) && (decide (t = 0) && (decide (c = 0) && (decide (bo.length = 0) && (decide (2 ≤ L.length) && (decide (L.length ≤ 64)))))))
def rmayK (k i t c : Int) (L bo : List Int) : Bool :=
  if k = 1 then rmay1 i t c L bo else if k = 2 then rmay2 i t c L bo else if k = 3 then rmay3 i t c L bo else if k = 4 then rmay4 i t c L bo else if k = 5 then rmay5 i t c L bo else if k = 6 then rmay6 i t c L bo else false
theorem rmay1_is (i t c : Int) (L bo : List Int) : may1B i t c L bo.length = rmay1 i t c L bo := by
  unfold may1B rmay1 wi
  rw [Bool.eq_iff_iff]
  simp only [Bool.and_eq_true, Bool.or_eq_true, decide_eq_true_eq, Bool.false_eq_true, Bool.true_eq_false, false_or, true_or, true_and, and_true, false_and, and_false]
  omega
theorem rmay2_is (i t c : Int) (L bo : List Int) : may2B i t c L bo.length = rmay2 i t c L bo := by
  unfold may2B rmay2 wi
  rw [Bool.eq_iff_iff]
  generalize each L 63 = z
  cases z <;> simp only [Bool.and_eq_true, Bool.or_eq_true, decide_eq_true_eq, Bool.false_eq_true, Bool.true_eq_false, false_or, true_or, true_and, and_true, false_and, and_false] <;> omega
theorem rmay3_is (i t c : Int) (L bo : List Int) : may3B i t c L bo.length = rmay3 i t c L bo := by
  unfold may3B rmay3
  rw [Bool.eq_iff_iff]
  simp only [Bool.and_eq_true, Bool.or_eq_true, decide_eq_true_eq, Bool.false_eq_true, Bool.true_eq_false, false_or, true_or, true_and, and_true, false_and, and_false]
  omega
theorem rmay4_is (i t c : Int) (L bo : List Int) : may4B i t c L bo.length = rmay4 i t c L bo := by
  unfold may4B rmay4 wi
  rw [Bool.eq_iff_iff]
  simp only [Bool.and_eq_true, Bool.or_eq_true, decide_eq_true_eq, Bool.false_eq_true, Bool.true_eq_false, false_or, true_or, true_and, and_true, false_and, and_false]
  omega
theorem rmay5_is (i t c : Int) (L bo : List Int) : may5B i t c L bo.length = rmay5 i t c L bo := by
  unfold may5B rmay5 wi
  rw [Bool.eq_iff_iff]
  simp only [Bool.and_eq_true, Bool.or_eq_true, decide_eq_true_eq, Bool.false_eq_true, Bool.true_eq_false, false_or, true_or, true_and, and_true, false_and, and_false]
  omega
theorem rmay6_is (i t c : Int) (L bo : List Int) : may6B i t c L bo.length = rmay6 i t c L bo := by
  unfold may6B rmay6 wi
  rw [Bool.eq_iff_iff]
  generalize each L 4611686018427387904 = z
  cases z <;> simp only [Bool.and_eq_true, Bool.or_eq_true, decide_eq_true_eq, Bool.false_eq_true, Bool.true_eq_false, false_or, true_or, true_and, and_true, false_and, and_false] <;> omega
theorem rmayK_is (k i t c : Int) (L bo : List Int) : mayK k i t c L bo.length = rmayK k i t c L bo := by
  unfold mayK rmayK
  rw [rmay1_is, rmay2_is, rmay3_is, rmay4_is, rmay5_is, rmay6_is]
theorem rmayB_is (k s e i t c : Int) (L bo : List Int) : mayB k s e i t c L bo.length = (decide (1 ≤ s) && (decide (s ≤ 4611686018427387904) && (decide (0 ≤ e) && (decide (e ≤ 4611686018427387904) && rmayK k i t c L bo)))) := by
  unfold mayB wi
  rw [rmayK_is]
  generalize rmayK k i t c L bo = z
  rw [Bool.eq_iff_iff]
  cases z <;> simp only [Bool.and_eq_true, decide_eq_true_eq, Bool.false_eq_true, true_and, and_true, false_and, and_false] <;> omega
set_option maxRecDepth 100000 in
set_option maxHeartbeats 4000000 in
theorem precentorref03_May.is (k s e i t c : Int) (A6 : Option Addr) (c6 : Nat) (L : List Int) (A7 : Option Addr) (c7 : Nat) (bo : List Int) (w : World) (h6 : Kd.C (Kd.int .i64) w A6 L.length L) (l6 : L.length ≤ c6) (hL : L.length < 10000) (q : Bool) (hq : mayB k s e i t c L bo.length = q) :
    Calls Tryd.prog 14 #[.agg #[.int .i64 k, .int .i64 s, .int .i64 e, .int .i64 i, .int .i64 t, .int .i64 c, .slice A6 L.length c6, .slice A7 bo.length c7]] w fun e w' => e = .returned (.bool q) ∧ Below w.heap.size w w' := by
  rw [rmayB_is] at hq
  obtain ⟨w0, hw0, hB0, _, X0⟩ := boxed1 w (.int .i64 k) (.int .i64 s) (.int .i64 e) (.int .i64 i) (.int .i64 t) (.int .i64 c) (.slice A6 L.length c6) (.slice A7 bo.length c7)
  obtain ⟨⟨q0, q1, q2, q3, q4, q5, q6, q7⟩, _⟩ := cells8 X0
  have HB0 := Aside0.mk hB0
  have HIN := Lib.hid (fun hi r h => precentorref03_in.calls 10000 A6 c6 L hi r w0 (Kd.C_below h6 hB0) l6 h)
  have HL := Lib.hid hL
  clear X0 hB0 h6 l6 hL
  by_cases h0 : 1 ≤ s
  · rw [decide_eq_true h0, Bool.true_and] at hq
    have u0_0 : decide (s < 1) = false := decide_eq_false (by omega)
    by_cases h1 : s ≤ 4611686018427387904
    · rw [decide_eq_true h1, Bool.true_and] at hq
      have u1_0 : decide (s > 4611686018427387904) = false := decide_eq_false (by omega)
      have u1_1 : decide (4611686018427387904 < s) = false := decide_eq_false (by omega)
      by_cases h2 : 0 ≤ e
      · rw [decide_eq_true h2, Bool.true_and] at hq
        have u2_0 : decide (e < 0) = false := decide_eq_false (by omega)
        by_cases h3 : e ≤ 4611686018427387904
        · rw [decide_eq_true h3, Bool.true_and] at hq
          have u3_0 : decide (e > 4611686018427387904) = false := decide_eq_false (by omega)
          have u3_1 : decide (4611686018427387904 < e) = false := decide_eq_false (by omega)
          go_enter Tryd.func14, Tryd.ntmps14
          go_upto_region 3 with fail
          go_cut [3] (fun v3 wc => v3 = Value.bool (decide (L.length = 0) && decide (bo.length = 0)) ∧ wc = w0)
          case first =>
            by_cases hx : L.length = 0
            · by_cases hy : bo.length = 0
              · have HX := Lib.hid hx
                have HY := Lib.hid hy
                have a1 : ((L.length : Int) == 0) = true := by rw [hx]; rfl
                have b1 : (L.length == 0) = true := by rw [hx]; rfl
                have a2 : ((bo.length : Int) == 0) = true := by rw [hy]; rfl
                have b2 : (bo.length == 0) = true := by rw [hy]; rfl
                clear hx hy
                go_wp2_with fail
                go_meet
                case rel => exact ⟨by rw [decide_eq_true HX.out, decide_eq_true HY.out]; rfl, rfl⟩
              · have HX := Lib.hid hx
                have HY := Lib.hid hy
                have a1 : ((L.length : Int) == 0) = true := by rw [hx]; rfl
                have b1 : (L.length == 0) = true := by rw [hx]; rfl
                have a2 : ((bo.length : Int) == 0) = false := beq_eq_false_iff_ne.2 (by omega)
                have b2 : (bo.length == 0) = false := beq_eq_false_iff_ne.2 hy
                clear hx hy
                go_wp2_with fail
                go_meet
                case rel => exact ⟨by rw [decide_eq_true HX.out, decide_eq_false HY.out]; rfl, rfl⟩
            · have HX := Lib.hid hx
              have a1 : ((L.length : Int) == 0) = false := beq_eq_false_iff_ne.2 (by omega)
              have b1 : (L.length == 0) = false := beq_eq_false_iff_ne.2 hx
              clear hx
              go_wp2_with fail
              go_meet
              case rel => exact ⟨by rw [decide_eq_false HX.out, Bool.false_and], rfl⟩
          case rest =>
            obtain ⟨rfl, rfl⟩ := hcut
            clear h0 h1 h2 h3
            rcases (show k = 1 ∨ k = 2 ∨ k = 3 ∨ k = 4 ∨ k = 5 ∨ k = 6 ∨ ¬ (1 ≤ k ∧ k ≤ 6) by omega) with rfl | rfl | rfl | rfl | rfl | rfl | hk
            · rw [show rmayK 1 i t c L bo = rmay1 i t c L bo from rfl] at hq
              unfold rmay1 at hq
              by_cases h0 : 1 ≤ t
              · rw [decide_eq_true h0, Bool.true_and] at hq
                have a0 : decide (t ≥ 1) = true := decide_eq_true (by omega)
                have b0 : decide (1 ≤ t) = true := decide_eq_true (by omega)
                by_cases h1 : t ≤ 32
                · rw [decide_eq_true h1, Bool.true_and] at hq
                  have a1 : decide (t ≤ 32) = true := decide_eq_true (by omega)
                  by_cases h2 : 0 ≤ i
                  · rw [decide_eq_true h2, Bool.true_and] at hq
                    have a2 : decide (i ≥ 0) = true := decide_eq_true (by omega)
                    have b2 : decide (0 ≤ i) = true := decide_eq_true (by omega)
                    by_cases h3 : i < t
                    · rw [decide_eq_true h3, Bool.true_and] at hq
                      have a3 : decide (i < t) = true := decide_eq_true (by omega)
                      by_cases h4 : c = 0
                      · rw [decide_eq_true h4, Bool.true_and] at hq
                        subst h4
                        by_cases h5 : L.length = 0
                        · rw [decide_eq_true h5, Bool.true_and] at hq
                          have a5 : ((L.length : Int) == 0) = true := by rw [h5]; rfl
                          have b5 : (L.length == 0) = true := by rw [h5]; rfl
                          by_cases h6 : bo.length ≤ 1024
                          · rw [decide_eq_true h6] at hq
                            have a6 : decide ((bo.length : Int) ≤ 1024) = true := decide_eq_true (by omega)
                            have b6 : decide (bo.length ≤ 1024) = true := decide_eq_true (by omega)
                            subst hq
                            go_wp2_with fail
                            go_ret
                            exact ⟨rfl, HB0.out⟩
                          · rw [decide_eq_false h6] at hq
                            subst hq
                            have a6 : decide ((bo.length : Int) ≤ 1024) = false := decide_eq_false (by omega)
                            have b6 : decide (bo.length ≤ 1024) = false := decide_eq_false (by omega)
                            go_wp2_with fail
                            go_ret
                            exact ⟨rfl, HB0.out⟩
                        · rw [decide_eq_false h5, Bool.false_and] at hq
                          subst hq
                          have a5 : ((L.length : Int) == 0) = false := beq_eq_false_iff_ne.2 (by omega)
                          have b5 : (L.length == 0) = false := beq_eq_false_iff_ne.2 h5
                          go_wp2_with fail
                          go_ret
                          exact ⟨rfl, HB0.out⟩
                      · rw [decide_eq_false h4, Bool.false_and] at hq
                        subst hq
                        have a4 : (c == 0) = false := beq_eq_false_iff_ne.2 h4
                        go_wp2_with fail
                        go_ret
                        exact ⟨rfl, HB0.out⟩
                    · rw [decide_eq_false h3, Bool.false_and] at hq
                      subst hq
                      have a3 : decide (i < t) = false := decide_eq_false (by omega)
                      go_wp2_with fail
                      go_ret
                      exact ⟨rfl, HB0.out⟩
                  · rw [decide_eq_false h2, Bool.false_and] at hq
                    subst hq
                    have a2 : decide (i ≥ 0) = false := decide_eq_false (by omega)
                    have b2 : decide (0 ≤ i) = false := decide_eq_false (by omega)
                    go_wp2_with fail
                    go_ret
                    exact ⟨rfl, HB0.out⟩
                · rw [decide_eq_false h1, Bool.false_and] at hq
                  subst hq
                  have a1 : decide (t ≤ 32) = false := decide_eq_false (by omega)
                  go_wp2_with fail
                  go_ret
                  exact ⟨rfl, HB0.out⟩
              · rw [decide_eq_false h0, Bool.false_and] at hq
                subst hq
                have a0 : decide (t ≥ 1) = false := decide_eq_false (by omega)
                have b0 : decide (1 ≤ t) = false := decide_eq_false (by omega)
                go_wp2_with fail
                go_ret
                exact ⟨rfl, HB0.out⟩
            · rw [show rmayK 2 i t c L bo = rmay2 i t c L bo from rfl] at hq
              unfold rmay2 at hq
              cases hf : each L 63
              · rw [hf, Bool.false_and] at hq
                subst hq
                have HF := Lib.hid (show precentorref03_in.f 10000 L 63 = some false by rw [in_is _ HL.out, hf])
                clear hf
                go_wp2_with fail
                refine (HIN.out _ _ HF.out).mono ?_
                rintro e' w' ⟨rfl, ⟨⟨nq, rfl⟩⟩⟩
                go_wp2_with fail
                go_ret
                exact ⟨rfl, pw_below_drewN HB0.out nq⟩
              · rw [hf, Bool.true_and] at hq
                have HF := Lib.hid (show precentorref03_in.f 10000 L 63 = some true by rw [in_is _ HL.out, hf])
                clear hf
                by_cases h1 : 0 ≤ i
                · rw [decide_eq_true h1, Bool.true_and] at hq
                  have a1 : decide (i ≥ 0) = true := decide_eq_true (by omega)
                  have b1 : decide (0 ≤ i) = true := decide_eq_true (by omega)
                  by_cases h2 : i ≤ 1
                  · rw [decide_eq_true h2, Bool.true_and] at hq
                    have a2 : decide (i ≤ 1) = true := decide_eq_true (by omega)
                    by_cases h3 : t = 0
                    · rw [decide_eq_true h3, Bool.true_and] at hq
                      subst h3
                      by_cases h4 : c = 0
                      · rw [decide_eq_true h4, Bool.true_and] at hq
                        subst h4
                        by_cases h5 : bo.length = 0
                        · rw [decide_eq_true h5, Bool.true_and] at hq
                          have a5 : ((bo.length : Int) == 0) = true := by rw [h5]; rfl
                          have b5 : (bo.length == 0) = true := by rw [h5]; rfl
                          by_cases h6 : 1 ≤ L.length
                          · rw [decide_eq_true h6, Bool.true_and] at hq
                            have a6 : decide ((L.length : Int) ≥ 1) = true := decide_eq_true (by omega)
                            have b6 : decide (1 ≤ L.length) = true := decide_eq_true (by omega)
                            have g6 : decide (L.length ≥ 1) = true := decide_eq_true (by omega)
                            have k6 : decide ((1 : Int) ≤ (L.length : Int)) = true := decide_eq_true (by omega)
                            by_cases h7 : L.length ≤ 64
                            · rw [decide_eq_true h7] at hq
                              have a7 : decide ((L.length : Int) ≤ 64) = true := decide_eq_true (by omega)
                              have b7 : decide (L.length ≤ 64) = true := decide_eq_true (by omega)
                              subst hq
                              go_wp2_with fail
                              refine (HIN.out _ _ HF.out).mono ?_
                              rintro e' w' ⟨rfl, ⟨⟨nq, rfl⟩⟩⟩
                              go_wp2_with fail
                              go_ret
                              exact ⟨rfl, pw_below_drewN HB0.out nq⟩
                            · rw [decide_eq_false h7] at hq
                              subst hq
                              have a7 : decide ((L.length : Int) ≤ 64) = false := decide_eq_false (by omega)
                              have b7 : decide (L.length ≤ 64) = false := decide_eq_false (by omega)
                              go_wp2_with fail
                              refine (HIN.out _ _ HF.out).mono ?_
                              rintro e' w' ⟨rfl, ⟨⟨nq, rfl⟩⟩⟩
                              go_wp2_with fail
                              go_ret
                              exact ⟨rfl, pw_below_drewN HB0.out nq⟩
                          · rw [decide_eq_false h6, Bool.false_and] at hq
                            subst hq
                            have a6 : decide ((L.length : Int) ≥ 1) = false := decide_eq_false (by omega)
                            have b6 : decide (1 ≤ L.length) = false := decide_eq_false (by omega)
                            have g6 : decide (L.length ≥ 1) = false := decide_eq_false (by omega)
                            have k6 : decide ((1 : Int) ≤ (L.length : Int)) = false := decide_eq_false (by omega)
                            go_wp2_with fail
                            refine (HIN.out _ _ HF.out).mono ?_
                            rintro e' w' ⟨rfl, ⟨⟨nq, rfl⟩⟩⟩
                            go_wp2_with fail
                            go_ret
                            exact ⟨rfl, pw_below_drewN HB0.out nq⟩
                        · rw [decide_eq_false h5, Bool.false_and] at hq
                          subst hq
                          have a5 : ((bo.length : Int) == 0) = false := beq_eq_false_iff_ne.2 (by omega)
                          have b5 : (bo.length == 0) = false := beq_eq_false_iff_ne.2 h5
                          go_wp2_with fail
                          refine (HIN.out _ _ HF.out).mono ?_
                          rintro e' w' ⟨rfl, ⟨⟨nq, rfl⟩⟩⟩
                          go_wp2_with fail
                          go_ret
                          exact ⟨rfl, pw_below_drewN HB0.out nq⟩
                      · rw [decide_eq_false h4, Bool.false_and] at hq
                        subst hq
                        have a4 : (c == 0) = false := beq_eq_false_iff_ne.2 h4
                        go_wp2_with fail
                        refine (HIN.out _ _ HF.out).mono ?_
                        rintro e' w' ⟨rfl, ⟨⟨nq, rfl⟩⟩⟩
                        go_wp2_with fail
                        go_ret
                        exact ⟨rfl, pw_below_drewN HB0.out nq⟩
                    · rw [decide_eq_false h3, Bool.false_and] at hq
                      subst hq
                      have a3 : (t == 0) = false := beq_eq_false_iff_ne.2 h3
                      go_wp2_with fail
                      refine (HIN.out _ _ HF.out).mono ?_
                      rintro e' w' ⟨rfl, ⟨⟨nq, rfl⟩⟩⟩
                      go_wp2_with fail
                      go_ret
                      exact ⟨rfl, pw_below_drewN HB0.out nq⟩
                  · rw [decide_eq_false h2, Bool.false_and] at hq
                    subst hq
                    have a2 : decide (i ≤ 1) = false := decide_eq_false (by omega)
                    go_wp2_with fail
                    refine (HIN.out _ _ HF.out).mono ?_
                    rintro e' w' ⟨rfl, ⟨⟨nq, rfl⟩⟩⟩
                    go_wp2_with fail
                    go_ret
                    exact ⟨rfl, pw_below_drewN HB0.out nq⟩
                · rw [decide_eq_false h1, Bool.false_and] at hq
                  subst hq
                  have a1 : decide (i ≥ 0) = false := decide_eq_false (by omega)
                  have b1 : decide (0 ≤ i) = false := decide_eq_false (by omega)
                  go_wp2_with fail
                  refine (HIN.out _ _ HF.out).mono ?_
                  rintro e' w' ⟨rfl, ⟨⟨nq, rfl⟩⟩⟩
                  go_wp2_with fail
                  go_ret
                  exact ⟨rfl, pw_below_drewN HB0.out nq⟩
            · rw [show rmayK 3 i t c L bo = rmay3 i t c L bo from rfl] at hq
              unfold rmay3 at hq
              generalize (decide (L.length = 0) && decide (bo.length = 0)) = z at *
              cases z
              · rw [Bool.false_and] at hq
                subst hq
                go_wp2_with fail
                go_ret
                exact ⟨rfl, HB0.out⟩
              · rw [Bool.true_and] at hq
                by_cases h1 : i = 0
                · rw [decide_eq_true h1, Bool.true_and] at hq
                  subst h1
                  by_cases h2 : t = 0
                  · rw [decide_eq_true h2, Bool.true_and] at hq
                    subst h2
                    by_cases h3 : c = 0
                    · rw [decide_eq_true h3] at hq
                      subst h3
                      subst hq
                      go_wp2_with fail
                      go_ret
                      exact ⟨rfl, HB0.out⟩
                    · rw [decide_eq_false h3] at hq
                      subst hq
                      have a3 : (c == 0) = false := beq_eq_false_iff_ne.2 h3
                      go_wp2_with fail
                      go_ret
                      exact ⟨rfl, HB0.out⟩
                  · rw [decide_eq_false h2, Bool.false_and] at hq
                    subst hq
                    have a2 : (t == 0) = false := beq_eq_false_iff_ne.2 h2
                    go_wp2_with fail
                    go_ret
                    exact ⟨rfl, HB0.out⟩
                · rw [decide_eq_false h1, Bool.false_and] at hq
                  subst hq
                  have a1 : (i == 0) = false := beq_eq_false_iff_ne.2 h1
                  go_wp2_with fail
                  go_ret
                  exact ⟨rfl, HB0.out⟩
            · rw [show rmayK 4 i t c L bo = rmay4 i t c L bo from rfl] at hq
              unfold rmay4 at hq
              generalize (decide (L.length = 0) && decide (bo.length = 0)) = z at *
              cases z
              · rw [Bool.false_and] at hq
                subst hq
                go_wp2_with fail
                go_ret
                exact ⟨rfl, HB0.out⟩
              · rw [Bool.true_and] at hq
                by_cases h1 : 0 ≤ i
                · rw [decide_eq_true h1, Bool.true_and] at hq
                  have a1 : decide (i ≥ 0) = true := decide_eq_true (by omega)
                  have b1 : decide (0 ≤ i) = true := decide_eq_true (by omega)
                  by_cases h2 : i ≤ 1
                  · rw [decide_eq_true h2, Bool.true_and] at hq
                    have a2 : decide (i ≤ 1) = true := decide_eq_true (by omega)
                    by_cases h3 : t = 0
                    · rw [decide_eq_true h3, Bool.true_and] at hq
                      subst h3
                      by_cases h4 : c = 0
                      · rw [decide_eq_true h4] at hq
                        subst h4
                        subst hq
                        go_wp2_with fail
                        go_ret
                        exact ⟨rfl, HB0.out⟩
                      · rw [decide_eq_false h4] at hq
                        subst hq
                        have a4 : (c == 0) = false := beq_eq_false_iff_ne.2 h4
                        go_wp2_with fail
                        go_ret
                        exact ⟨rfl, HB0.out⟩
                    · rw [decide_eq_false h3, Bool.false_and] at hq
                      subst hq
                      have a3 : (t == 0) = false := beq_eq_false_iff_ne.2 h3
                      go_wp2_with fail
                      go_ret
                      exact ⟨rfl, HB0.out⟩
                  · rw [decide_eq_false h2, Bool.false_and] at hq
                    subst hq
                    have a2 : decide (i ≤ 1) = false := decide_eq_false (by omega)
                    go_wp2_with fail
                    go_ret
                    exact ⟨rfl, HB0.out⟩
                · rw [decide_eq_false h1, Bool.false_and] at hq
                  subst hq
                  have a1 : decide (i ≥ 0) = false := decide_eq_false (by omega)
                  have b1 : decide (0 ≤ i) = false := decide_eq_false (by omega)
                  go_wp2_with fail
                  go_ret
                  exact ⟨rfl, HB0.out⟩
            · rw [show rmayK 5 i t c L bo = rmay5 i t c L bo from rfl] at hq
              unfold rmay5 at hq
              generalize (decide (L.length = 0) && decide (bo.length = 0)) = z at *
              cases z
              · rw [Bool.false_and] at hq
                subst hq
                go_wp2_with fail
                go_ret
                exact ⟨rfl, HB0.out⟩
              · rw [Bool.true_and] at hq
                by_cases h1 : i = 0
                · rw [decide_eq_true h1, Bool.true_and] at hq
                  subst h1
                  by_cases h2 : t = 0
                  · rw [decide_eq_true h2, Bool.true_and] at hq
                    subst h2
                    by_cases h3 : 0 ≤ c
                    · rw [decide_eq_true h3, Bool.true_and] at hq
                      have a3 : decide (c ≥ 0) = true := decide_eq_true (by omega)
                      have b3 : decide (0 ≤ c) = true := decide_eq_true (by omega)
                      by_cases h4 : c ≤ 4611686018427387904
                      · rw [decide_eq_true h4] at hq
                        have a4 : decide (c ≤ 4611686018427387904) = true := decide_eq_true (by omega)
                        subst hq
                        go_wp2_with fail
                        go_ret
                        exact ⟨rfl, HB0.out⟩
                      · rw [decide_eq_false h4] at hq
                        subst hq
                        have a4 : decide (c ≤ 4611686018427387904) = false := decide_eq_false (by omega)
                        go_wp2_with fail
                        go_ret
                        exact ⟨rfl, HB0.out⟩
                    · rw [decide_eq_false h3, Bool.false_and] at hq
                      subst hq
                      have a3 : decide (c ≥ 0) = false := decide_eq_false (by omega)
                      have b3 : decide (0 ≤ c) = false := decide_eq_false (by omega)
                      go_wp2_with fail
                      go_ret
                      exact ⟨rfl, HB0.out⟩
                  · rw [decide_eq_false h2, Bool.false_and] at hq
                    subst hq
                    have a2 : (t == 0) = false := beq_eq_false_iff_ne.2 h2
                    go_wp2_with fail
                    go_ret
                    exact ⟨rfl, HB0.out⟩
                · rw [decide_eq_false h1, Bool.false_and] at hq
                  subst hq
                  have a1 : (i == 0) = false := beq_eq_false_iff_ne.2 h1
                  go_wp2_with fail
                  go_ret
                  exact ⟨rfl, HB0.out⟩
            · rw [show rmayK 6 i t c L bo = rmay6 i t c L bo from rfl] at hq
              unfold rmay6 at hq
              cases hf : each L 4611686018427387904
              · rw [hf, Bool.false_and] at hq
                subst hq
                have HF := Lib.hid (show precentorref03_in.f 10000 L 4611686018427387904 = some false by rw [in_is _ HL.out, hf])
                clear hf
                go_wp2_with fail
                refine (HIN.out _ _ HF.out).mono ?_
                rintro e' w' ⟨rfl, ⟨⟨nq, rfl⟩⟩⟩
                go_wp2_with fail
                go_ret
                exact ⟨rfl, pw_below_drewN HB0.out nq⟩
              · rw [hf, Bool.true_and] at hq
                have HF := Lib.hid (show precentorref03_in.f 10000 L 4611686018427387904 = some true by rw [in_is _ HL.out, hf])
                clear hf
                by_cases h1 : i = 0
                · rw [decide_eq_true h1, Bool.true_and] at hq
                  subst h1
                  by_cases h2 : t = 0
                  · rw [decide_eq_true h2, Bool.true_and] at hq
                    subst h2
                    by_cases h3 : c = 0
                    · rw [decide_eq_true h3, Bool.true_and] at hq
                      subst h3
                      by_cases h4 : bo.length = 0
                      · rw [decide_eq_true h4, Bool.true_and] at hq
                        have a4 : ((bo.length : Int) == 0) = true := by rw [h4]; rfl
                        have b4 : (bo.length == 0) = true := by rw [h4]; rfl
                        by_cases h5 : 2 ≤ L.length
                        · rw [decide_eq_true h5, Bool.true_and] at hq
                          have a5 : decide ((L.length : Int) ≥ 2) = true := decide_eq_true (by omega)
                          have b5 : decide (2 ≤ L.length) = true := decide_eq_true (by omega)
                          have g5 : decide (L.length ≥ 2) = true := decide_eq_true (by omega)
                          have k5 : decide ((2 : Int) ≤ (L.length : Int)) = true := decide_eq_true (by omega)
                          by_cases h6 : L.length ≤ 64
                          · rw [decide_eq_true h6] at hq
                            have a6 : decide ((L.length : Int) ≤ 64) = true := decide_eq_true (by omega)
                            have b6 : decide (L.length ≤ 64) = true := decide_eq_true (by omega)
                            subst hq
                            go_wp2_with fail
                            refine (HIN.out _ _ HF.out).mono ?_
                            rintro e' w' ⟨rfl, ⟨⟨nq, rfl⟩⟩⟩
                            go_wp2_with fail
                            go_ret
                            exact ⟨rfl, pw_below_drewN HB0.out nq⟩
                          · rw [decide_eq_false h6] at hq
                            subst hq
                            have a6 : decide ((L.length : Int) ≤ 64) = false := decide_eq_false (by omega)
                            have b6 : decide (L.length ≤ 64) = false := decide_eq_false (by omega)
                            go_wp2_with fail
                            refine (HIN.out _ _ HF.out).mono ?_
                            rintro e' w' ⟨rfl, ⟨⟨nq, rfl⟩⟩⟩
                            go_wp2_with fail
                            go_ret
                            exact ⟨rfl, pw_below_drewN HB0.out nq⟩
                        · rw [decide_eq_false h5, Bool.false_and] at hq
                          subst hq
                          have a5 : decide ((L.length : Int) ≥ 2) = false := decide_eq_false (by omega)
                          have b5 : decide (2 ≤ L.length) = false := decide_eq_false (by omega)
                          have g5 : decide (L.length ≥ 2) = false := decide_eq_false (by omega)
                          have k5 : decide ((2 : Int) ≤ (L.length : Int)) = false := decide_eq_false (by omega)
                          go_wp2_with fail
                          refine (HIN.out _ _ HF.out).mono ?_
                          rintro e' w' ⟨rfl, ⟨⟨nq, rfl⟩⟩⟩
                          go_wp2_with fail
                          go_ret
                          exact ⟨rfl, pw_below_drewN HB0.out nq⟩
                      · rw [decide_eq_false h4, Bool.false_and] at hq
                        subst hq
                        have a4 : ((bo.length : Int) == 0) = false := beq_eq_false_iff_ne.2 (by omega)
                        have b4 : (bo.length == 0) = false := beq_eq_false_iff_ne.2 h4
                        go_wp2_with fail
                        refine (HIN.out _ _ HF.out).mono ?_
                        rintro e' w' ⟨rfl, ⟨⟨nq, rfl⟩⟩⟩
                        go_wp2_with fail
                        go_ret
                        exact ⟨rfl, pw_below_drewN HB0.out nq⟩
                    · rw [decide_eq_false h3, Bool.false_and] at hq
                      subst hq
                      have a3 : (c == 0) = false := beq_eq_false_iff_ne.2 h3
                      go_wp2_with fail
                      refine (HIN.out _ _ HF.out).mono ?_
                      rintro e' w' ⟨rfl, ⟨⟨nq, rfl⟩⟩⟩
                      go_wp2_with fail
                      go_ret
                      exact ⟨rfl, pw_below_drewN HB0.out nq⟩
                  · rw [decide_eq_false h2, Bool.false_and] at hq
                    subst hq
                    have a2 : (t == 0) = false := beq_eq_false_iff_ne.2 h2
                    go_wp2_with fail
                    refine (HIN.out _ _ HF.out).mono ?_
                    rintro e' w' ⟨rfl, ⟨⟨nq, rfl⟩⟩⟩
                    go_wp2_with fail
                    go_ret
                    exact ⟨rfl, pw_below_drewN HB0.out nq⟩
                · rw [decide_eq_false h1, Bool.false_and] at hq
                  subst hq
                  have a1 : (i == 0) = false := beq_eq_false_iff_ne.2 h1
                  go_wp2_with fail
                  refine (HIN.out _ _ HF.out).mono ?_
                  rintro e' w' ⟨rfl, ⟨⟨nq, rfl⟩⟩⟩
                  go_wp2_with fail
                  go_ret
                  exact ⟨rfl, pw_below_drewN HB0.out nq⟩
            · unfold rmayK at hq
              rw [if_neg (by omega), if_neg (by omega), if_neg (by omega), if_neg (by omega), if_neg (by omega), if_neg (by omega)] at hq
              subst hq
              have e1 : (k == 1) = false := beq_eq_false_iff_ne.2 (by omega)
              have e2 : (k == 2) = false := beq_eq_false_iff_ne.2 (by omega)
              have e3 : (k == 3) = false := beq_eq_false_iff_ne.2 (by omega)
              have e4 : (k == 4) = false := beq_eq_false_iff_ne.2 (by omega)
              have e5 : (k == 5) = false := beq_eq_false_iff_ne.2 (by omega)
              have e6 : (k == 6) = false := beq_eq_false_iff_ne.2 (by omega)
              clear hk
              go_wp2_with fail
              go_ret
              exact ⟨rfl, HB0.out⟩
        · rw [decide_eq_false h3, Bool.false_and] at hq
          subst hq
          have u3_0 : decide (e > 4611686018427387904) = true := decide_eq_true (by omega)
          have u3_1 : decide (4611686018427387904 < e) = true := decide_eq_true (by omega)
          go_enter Tryd.func14, Tryd.ntmps14
          go_wp2_with fail
          go_ret
          exact ⟨rfl, HB0.out⟩
      · rw [decide_eq_false h2, Bool.false_and] at hq
        subst hq
        have u2_0 : decide (e < 0) = true := decide_eq_true (by omega)
        go_enter Tryd.func14, Tryd.ntmps14
        go_wp2_with fail
        go_ret
        exact ⟨rfl, HB0.out⟩
    · rw [decide_eq_false h1, Bool.false_and] at hq
      subst hq
      have u1_0 : decide (s > 4611686018427387904) = true := decide_eq_true (by omega)
      have u1_1 : decide (4611686018427387904 < s) = true := decide_eq_true (by omega)
      go_enter Tryd.func14, Tryd.ntmps14
      go_wp2_with fail
      go_ret
      exact ⟨rfl, HB0.out⟩
  · rw [decide_eq_false h0, Bool.false_and] at hq
    subst hq
    have u0_0 : decide (s < 1) = true := decide_eq_true (by omega)
    go_enter Tryd.func14, Tryd.ntmps14
    go_wp2_with fail
    go_ret
    exact ⟨rfl, HB0.out⟩
def precentorref03_May.f (k s e i t c : Int) (L bo : List Int) : Option Bool := if L.length < 10000 then some (mayB k s e i t c L bo.length) else none
theorem precentorref03_May.calls (a0_0 a0_1 a0_2 a0_3 a0_4 a0_5 : Int) (A0_6 : Option Addr) (c0_6 : Nat) (l0_6 : List Int) (A0_7 : Option Addr) (c0_7 : Nat) (l0_7 : List Int) (r : Bool) (w : World) (hr0_6 : Kd.C (Kd.int .i64) w A0_6 l0_6.length l0_6) (hc0_6 : l0_6.length ≤ c0_6) (hr0_7 : Kd.C (Kd.int .u8) w A0_7 l0_7.length l0_7) (hc0_7 : l0_7.length ≤ c0_7) (h : precentorref03_May.f a0_0 a0_1 a0_2 a0_3 a0_4 a0_5 l0_6 l0_7 = some r) :
    Calls Tryd.prog 14 #[.agg #[.int .i64 a0_0, .int .i64 a0_1, .int .i64 a0_2, .int .i64 a0_3, .int .i64 a0_4, .int .i64 a0_5, .slice A0_6 l0_6.length c0_6, .slice A0_7 l0_7.length c0_7]] w fun e w' => e = .returned (.bool r) ∧ Below w.heap.size w w' := by
  unfold precentorref03_May.f at h
  by_cases hl : l0_6.length < 10000
  · rw [if_pos hl] at h
    exact precentorref03_May.is _ _ _ _ _ _ _ _ _ _ _ _ _ hr0_6 hc0_6 hl r (Option.some.inj h)
  · rw [if_neg hl] at h; cases h
end Go.Proofs.YtocoikndkmdnkaaDoor.Print
