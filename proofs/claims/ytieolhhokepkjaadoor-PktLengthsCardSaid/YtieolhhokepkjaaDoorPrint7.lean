/- The Go functions of this seat as Lean functions, and of each that its call does just what its Lean function says, where that says something. Condition: the arguments read as they are told. -/
import Derived.Test.YtieolhhokepkjaaDoorHand5
import Derived.Test.YtieolhhokepkjaaDoorHandS
import Derived.Test.YtieolhhokepkjaaDoorHand8
import Derived.Test.YtieolhhokepkjaaDoorPP
import Derived.Test.YtieolhhokepkjaaDoorPrint0
import Derived.Test.YtieolhhokepkjaaDoorPrint3
import Derived.Test.YtieolhhokepkjaaDoorHand
import Derived.Test.YtieolhhokepkjaaDoorHandPB
import Derived.Test.YtieolhhokepkjaaDoorHandPS
namespace Go.Proofs.YtieolhhokepkjaaDoor.Print
set_option linter.unusedVariables false
set_option linter.unusedSimpArgs false
open Go.RowKit Go.Proofs.YtieolhhokepkjaaDoorW.PrintWords Go.Proofs.YtieolhhokepkjaaDoorW.PrintLast Go.Proofs.YtieolhhokepkjaaDoorW.PrintMore Go.Proofs.YtieolhhokepkjaaDoor.NumPlain

theorem in_loop (hi : Int) (b : List Int) : ∀ (k : Nat) (a : List Int), a.length + b.length < 100000 → b.length < k → precentorref03_in.l0 k (a ++ b) hi a.length = some (each b hi) := by
  induction b with
  | nil =>
    intro k a h3 hk
    obtain ⟨k, rfl⟩ : ∃ q, k = q + 1 := ⟨k - 1, by omega⟩
    simp only [precentorref03_in.l0]
    rw [if_neg (by simp)]; rfl
  | cons x b ih =>
    intro k a h3 hk
    simp only [List.length_cons] at h3 hk
    obtain ⟨k, rfl⟩ : ∃ q, k = q + 1 := ⟨k - 1, by omega⟩
    simp only [precentorref03_in.l0]
    rw [if_pos (by simp; omega), if_pos (by omega), rd_mid, wrap_id (by omega) (by omega)]
    by_cases h1 : x < 0
    · rw [if_pos h1]; simp only [each, List.all_cons, wi]; rw [decide_eq_false (by omega)]; rfl
    · rw [if_neg h1]
      by_cases h2 : x > hi
      · rw [if_pos h2]; simp only [each, List.all_cons, wi]; rw [decide_eq_false (by omega)]; rfl
      · rw [if_neg h2]
        have := ih k (a ++ [x]) (by simp; omega) (by omega)
        rw [List.append_assoc, List.singleton_append, show ((a ++ [x]).length : Int) = (a.length : Int) + 1 by simp] at this
        rw [this]; simp only [each, List.all_cons, wi]; rw [decide_eq_true (by omega)]; rfl
theorem in_is {l : List Int} (hi : Int) (hl : l.length < 10000) : precentorref03_in.f 10000 l hi = some (each l hi) := by
  have := in_loop hi l 10000 [] (by simp; omega) (by omega)
  simpa [precentorref03_in.f] using this

def rmay1 (i t c : Int) (L bo : List Int) : Bool := decide (1 ≤ t) && (decide (t ≤ 32) && (decide (0 ≤ i) && (decide (i < t) && (decide (c = 0) && (decide (L.length = 0) && (decide (bo.length ≤ 1024)))))))
def rmay2 (i t c : Int) (L bo : List Int) : Bool := each L 63 && (decide (0 ≤ i) && (decide (i ≤ 1) && (decide (t = 0) && (decide (c = 0) && (decide (bo.length = 0) && (decide (1 ≤ L.length) && (decide (L.length ≤ 64))))))))
def rmay3 (i t c : Int) (L bo : List Int) : Bool := (decide (L.length = 0) && decide (bo.length = 0)) && (decide (i = 0) && (decide (t = 0) && (decide (c = 0))))
def rmay4 (i t c : Int) (L bo : List Int) : Bool := (decide (L.length = 0) && decide (bo.length = 0)) && (decide (0 ≤ i) && (decide (i ≤ 1) && (decide (t = 0) && (decide (c = 0)))))
def rmay5 (i t c : Int) (L bo : List Int) : Bool := (decide (L.length = 0) && decide (bo.length = 0)) && (decide (i = 0) && (decide (t = 0) && (decide (0 ≤ c) && (decide (c ≤ 4611686018427387904)))))
def rmay6 (i t c : Int) (L bo : List Int) : Bool := each L 4611686018427387904 && (decide (i = 0) && (decide (t = 0) && (decide (c = 0) && (decide (bo.length = 0) && (decide (2 ≤ L.length) && (decide (L.length ≤ 64)))))))
def rmayK (k i t c : Int) (L bo : List Int) : Bool :=
  if k = 1 then rmay1 i t c L bo else if k = 2 then rmay2 i t c L bo else if k = 3 then rmay3 i t c L bo else if k = 4 then rmay4 i t c L bo else if k = 5 then rmay5 i t c L bo else if k = 6 then rmay6 i t c L bo else false
theorem rmay1_is (i t c : Int) (L bo : List Int) : may1B i t c L bo.length = rmay1 i t c L bo := by
  unfold may1B rmay1 wi
  rw [Bool.eq_iff_iff]
  simp only [Bool.and_eq_true, Bool.or_eq_true, decide_eq_true_eq, Bool.false_eq_true, Bool.true_eq_false, false_or, true_or, true_and, and_true, false_and, and_false]
  omega
theorem rmay2_is (i t c : Int) (L bo : List Int) : may2B i t c L bo.length = rmay2 i t c L bo := by
  unfold may2B rmay2 wi
  rw [Bool.eq_iff_iff]
  generalize each L 63 = z
  cases z <;> simp only [Bool.and_eq_true, Bool.or_eq_true, decide_eq_true_eq, Bool.false_eq_true, Bool.true_eq_false, false_or, true_or, true_and, and_true, false_and, and_false] <;> omega
theorem rmay3_is (i t c : Int) (L bo : List Int) : may3B i t c L bo.length = rmay3 i t c L bo := by
  unfold may3B rmay3
  rw [Bool.eq_iff_iff]
  simp only [Bool.and_eq_true, Bool.or_eq_true, decide_eq_true_eq, Bool.false_eq_true, Bool.true_eq_false, false_or, true_or, true_and, and_true, false_and, and_false]
  omega
theorem rmay4_is (i t c : Int) (L bo : List Int) : may4B i t c L bo.length = rmay4 i t c L bo := by
  unfold may4B rmay4 wi
  rw [Bool.eq_iff_iff]
  simp only [Bool.and_eq_true, Bool.or_eq_true, decide_eq_true_eq, Bool.false_eq_true, Bool.true_eq_false, false_or, true_or, true_and, and_true, false_and, and_false]
  omega
theorem rmay5_is (i t c : Int) (L bo : List Int) : may5B i t c L bo.length = rmay5 i t c L bo := by
  unfold may5B rmay5 wi
  rw [Bool.eq_iff_iff]
  simp only [Bool.and_eq_true, Bool.or_eq_true, decide_eq_true_eq, Bool.false_eq_true, Bool.true_eq_false, false_or, true_or, true_and, and_true, false_and, and_false]
  omega
theorem rmay6_is (i t c : Int) (L bo : List Int) : may6B i t c L bo.length = rmay6 i t c L bo := by
  unfold may6B rmay6 wi
  rw [Bool.eq_iff_iff]
  generalize each L 4611686018427387904 = z
  cases z <;> simp only [Bool.and_eq_true, Bool.or_eq_true, decide_eq_true_eq, Bool.false_eq_true, Bool.true_eq_false, false_or, true_or, true_and, and_true, false_and, and_false] <;> omega
theorem rmayK_is (k i t c : Int) (L bo : List Int) : mayK k i t c L bo.length = rmayK k i t c L bo := by
  unfold mayK rmayK
  rw [rmay1_is, rmay2_is, rmay3_is, rmay4_is, rmay5_is, rmay6_is]
theorem rmayB_is (k s e i t c : Int) (L bo : List Int) : mayB k s e i t c L bo.length = (decide (1 ≤ s) && (decide (s ≤ 4611686018427387904) && (decide (0 ≤ e) && (decide (e ≤ 4611686018427387904) && rmayK k i t c L bo)))) := by
  unfold mayB wi
  rw [rmayK_is]
  generalize rmayK k i t c L bo = z
  rw [Bool.eq_iff_iff]
  cases z <;> simp only [Bool.and_eq_true, decide_eq_true_eq, Bool.false_eq_true, true_and, and_true, false_and, and_false] <;> omega
set_option maxRecDepth 100000 in
set_option maxHeartbeats 4000000 in
theorem precentorref03_May.is (k s e i t c : Int) (A6 : Option Addr) (c6 : Nat) (L : List Int) (A7 : Option Addr) (c7 : Nat) (bo : List Int) (w : World) (h6 : Kd.C (Kd.int .i64) w A6 L.length L) (l6 : L.length ≤ c6) (hL : L.length < 10000) (q : Bool) (hq : mayB k s e i t c L bo.length = q) :
    Calls Tryd.prog 33 #[.agg #[.int .i64 k, .int .i64 s, .int .i64 e, .int .i64 i, .int .i64 t, .int .i64 c, .slice A6 L.length c6, .slice A7 bo.length c7]] w fun e w' => e = .returned (.bool q) ∧ Below w.heap.size w w' := by
  rw [rmayB_is] at hq
  obtain ⟨w0, hw0, hB0, _, X0⟩ := boxed1 w (.int .i64 k) (.int .i64 s) (.int .i64 e) (.int .i64 i) (.int .i64 t) (.int .i64 c) (.slice A6 L.length c6) (.slice A7 bo.length c7)
  obtain ⟨⟨q0, q1, q2, q3, q4, q5, q6, q7⟩, _⟩ := cells8 X0
  have HB0 := Aside0.mk hB0
  have HIN := Lib.hid (fun hi r h => precentorref03_in.calls 10000 A6 c6 L hi r w0 (Kd.C_below h6 hB0) l6 h)
  have HL := Lib.hid hL
  clear X0 hB0 h6 l6 hL
  by_cases h0 : 1 ≤ s
  · rw [decide_eq_true h0, Bool.true_and] at hq
    have u0_0 : decide (s < 1) = false := decide_eq_false (by omega)
    by_cases h1 : s ≤ 4611686018427387904
    · rw [decide_eq_true h1, Bool.true_and] at hq
      have u1_0 : decide (s > 4611686018427387904) = false := decide_eq_false (by omega)
      have u1_1 : decide (4611686018427387904 < s) = false := decide_eq_false (by omega)
      by_cases h2 : 0 ≤ e
      · rw [decide_eq_true h2, Bool.true_and] at hq
        have u2_0 : decide (e < 0) = false := decide_eq_false (by omega)
        by_cases h3 : e ≤ 4611686018427387904
        · rw [decide_eq_true h3, Bool.true_and] at hq
          have u3_0 : decide (e > 4611686018427387904) = false := decide_eq_false (by omega)
          have u3_1 : decide (4611686018427387904 < e) = false := decide_eq_false (by omega)
          go_enter Tryd.func33, Tryd.ntmps33
          go_upto_region 3 with fail
          go_cut [3] (fun v3 wc => v3 = Value.bool (decide (L.length = 0) && decide (bo.length = 0)) ∧ wc = w0)
          case first =>
            by_cases hx : L.length = 0
            · by_cases hy : bo.length = 0
              · have HX := Lib.hid hx
                have HY := Lib.hid hy
                have a1 : ((L.length : Int) == 0) = true := by rw [hx]; rfl
                have b1 : (L.length == 0) = true := by rw [hx]; rfl
                have a2 : ((bo.length : Int) == 0) = true := by rw [hy]; rfl
                have b2 : (bo.length == 0) = true := by rw [hy]; rfl
                clear hx hy
                go_wp2_with fail
                go_meet
                case rel => exact ⟨by rw [decide_eq_true HX.out, decide_eq_true HY.out]; rfl, rfl⟩
              · have HX := Lib.hid hx
                have HY := Lib.hid hy
                have a1 : ((L.length : Int) == 0) = true := by rw [hx]; rfl
                have b1 : (L.length == 0) = true := by rw [hx]; rfl
                have a2 : ((bo.length : Int) == 0) = false := beq_eq_false_iff_ne.2 (by omega)
                have b2 : (bo.length == 0) = false := beq_eq_false_iff_ne.2 hy
                clear hx hy
                go_wp2_with fail
                go_meet
                case rel => exact ⟨by rw [decide_eq_true HX.out, decide_eq_false HY.out]; rfl, rfl⟩
            · have HX := Lib.hid hx
              have a1 : ((L.length : Int) == 0) = false := beq_eq_false_iff_ne.2 (by omega)
              have b1 : (L.length == 0) = false := beq_eq_false_iff_ne.2 hx
              clear hx
              go_wp2_with fail
              go_meet
              case rel => exact ⟨by rw [decide_eq_false HX.out, Bool.false_and], rfl⟩
          case rest =>
            obtain ⟨rfl, rfl⟩ := hcut
            clear h0 h1 h2 h3
            rcases (show k = 1 ∨ k = 2 ∨ k = 3 ∨ k = 4 ∨ k = 5 ∨ k = 6 ∨ ¬ (1 ≤ k ∧ k ≤ 6) by omega) with rfl | rfl | rfl | rfl | rfl | rfl | hk
            · rw [show rmayK 1 i t c L bo = rmay1 i t c L bo from rfl] at hq
              unfold rmay1 at hq
              by_cases h0 : 1 ≤ t
              · rw [decide_eq_true h0, Bool.true_and] at hq
                have a0 : decide (t ≥ 1) = true := decide_eq_true (by omega)
                have b0 : decide (1 ≤ t) = true := decide_eq_true (by omega)
                by_cases h1 : t ≤ 32
                · rw [decide_eq_true h1, Bool.true_and] at hq
                  have a1 : decide (t ≤ 32) = true := decide_eq_true (by omega)
                  by_cases h2 : 0 ≤ i
                  · rw [decide_eq_true h2, Bool.true_and] at hq
                    have a2 : decide (i ≥ 0) = true := decide_eq_true (by omega)
                    have b2 : decide (0 ≤ i) = true := decide_eq_true (by omega)
                    by_cases h3 : i < t
                    · rw [decide_eq_true h3, Bool.true_and] at hq
                      have a3 : decide (i < t) = true := decide_eq_true (by omega)
                      by_cases h4 : c = 0
                      · rw [decide_eq_true h4, Bool.true_and] at hq
                        subst h4
                        by_cases h5 : L.length = 0
                        · rw [decide_eq_true h5, Bool.true_and] at hq
                          have a5 : ((L.length : Int) == 0) = true := by rw [h5]; rfl
                          have b5 : (L.length == 0) = true := by rw [h5]; rfl
                          by_cases h6 : bo.length ≤ 1024
                          · rw [decide_eq_true h6] at hq
                            have a6 : decide ((bo.length : Int) ≤ 1024) = true := decide_eq_true (by omega)
                            have b6 : decide (bo.length ≤ 1024) = true := decide_eq_true (by omega)
                            subst hq
                            go_wp2_with fail
                            go_ret
                            exact ⟨rfl, HB0.out⟩
                          · rw [decide_eq_false h6] at hq
                            subst hq
                            have a6 : decide ((bo.length : Int) ≤ 1024) = false := decide_eq_false (by omega)
                            have b6 : decide (bo.length ≤ 1024) = false := decide_eq_false (by omega)
                            go_wp2_with fail
                            go_ret
                            exact ⟨rfl, HB0.out⟩
                        · rw [decide_eq_false h5, Bool.false_and] at hq
                          subst hq
                          have a5 : ((L.length : Int) == 0) = false := beq_eq_false_iff_ne.2 (by omega)
                          have b5 : (L.length == 0) = false := beq_eq_false_iff_ne.2 h5
                          go_wp2_with fail
                          go_ret
                          exact ⟨rfl, HB0.out⟩
                      · rw [decide_eq_false h4, Bool.false_and] at hq
                        subst hq
                        have a4 : (c == 0) = false := beq_eq_false_iff_ne.2 h4
                        go_wp2_with fail
                        go_ret
                        exact ⟨rfl, HB0.out⟩
                    · rw [decide_eq_false h3, Bool.false_and] at hq
                      subst hq
                      have a3 : decide (i < t) = false := decide_eq_false (by omega)
                      go_wp2_with fail
                      go_ret
                      exact ⟨rfl, HB0.out⟩
                  · rw [decide_eq_false h2, Bool.false_and] at hq
                    subst hq
                    have a2 : decide (i ≥ 0) = false := decide_eq_false (by omega)
                    have b2 : decide (0 ≤ i) = false := decide_eq_false (by omega)
                    go_wp2_with fail
                    go_ret
                    exact ⟨rfl, HB0.out⟩
                · rw [decide_eq_false h1, Bool.false_and] at hq
                  subst hq
                  have a1 : decide (t ≤ 32) = false := decide_eq_false (by omega)
                  go_wp2_with fail
                  go_ret
                  exact ⟨rfl, HB0.out⟩
              · rw [decide_eq_false h0, Bool.false_and] at hq
                subst hq
                have a0 : decide (t ≥ 1) = false := decide_eq_false (by omega)
                have b0 : decide (1 ≤ t) = false := decide_eq_false (by omega)
                go_wp2_with fail
                go_ret
                exact ⟨rfl, HB0.out⟩
            · rw [show rmayK 2 i t c L bo = rmay2 i t c L bo from rfl] at hq
              unfold rmay2 at hq
              cases hf : each L 63
              · rw [hf, Bool.false_and] at hq
                subst hq
                have HF := Lib.hid (show precentorref03_in.f 10000 L 63 = some false by rw [in_is _ HL.out, hf])
                clear hf
                go_wp2_with fail
                refine (HIN.out _ _ HF.out).mono ?_
                rintro e' w' ⟨rfl, ⟨⟨nq, rfl⟩⟩⟩
                go_wp2_with fail
                go_ret
                exact ⟨rfl, pw_below_drewN HB0.out nq⟩
              · rw [hf, Bool.true_and] at hq
                have HF := Lib.hid (show precentorref03_in.f 10000 L 63 = some true by rw [in_is _ HL.out, hf])
                clear hf
                by_cases h1 : 0 ≤ i
                · rw [decide_eq_true h1, Bool.true_and] at hq
                  have a1 : decide (i ≥ 0) = true := decide_eq_true (by omega)
                  have b1 : decide (0 ≤ i) = true := decide_eq_true (by omega)
                  by_cases h2 : i ≤ 1
                  · rw [decide_eq_true h2, Bool.true_and] at hq
                    have a2 : decide (i ≤ 1) = true := decide_eq_true (by omega)
                    by_cases h3 : t = 0
                    · rw [decide_eq_true h3, Bool.true_and] at hq
                      subst h3
                      by_cases h4 : c = 0
                      · rw [decide_eq_true h4, Bool.true_and] at hq
                        subst h4
                        by_cases h5 : bo.length = 0
                        · rw [decide_eq_true h5, Bool.true_and] at hq
                          have a5 : ((bo.length : Int) == 0) = true := by rw [h5]; rfl
                          have b5 : (bo.length == 0) = true := by rw [h5]; rfl
                          by_cases h6 : 1 ≤ L.length
                          · rw [decide_eq_true h6, Bool.true_and] at hq
                            have a6 : decide ((L.length : Int) ≥ 1) = true := decide_eq_true (by omega)
                            have b6 : decide (1 ≤ L.length) = true := decide_eq_true (by omega)
                            have g6 : decide (L.length ≥ 1) = true := decide_eq_true (by omega)
                            have k6 : decide ((1 : Int) ≤ (L.length : Int)) = true := decide_eq_true (by omega)
                            by_cases h7 : L.length ≤ 64
                            · rw [decide_eq_true h7] at hq
                              have a7 : decide ((L.length : Int) ≤ 64) = true := decide_eq_true (by omega)
                              have b7 : decide (L.length ≤ 64) = true := decide_eq_true (by omega)
                              subst hq
                              go_wp2_with fail
                              refine (HIN.out _ _ HF.out).mono ?_
                              rintro e' w' ⟨rfl, ⟨⟨nq, rfl⟩⟩⟩
                              go_wp2_with fail
                              go_ret
                              exact ⟨rfl, pw_below_drewN HB0.out nq⟩
                            · rw [decide_eq_false h7] at hq
                              subst hq
                              have a7 : decide ((L.length : Int) ≤ 64) = false := decide_eq_false (by omega)
                              have b7 : decide (L.length ≤ 64) = false := decide_eq_false (by omega)
                              go_wp2_with fail
                              refine (HIN.out _ _ HF.out).mono ?_
                              rintro e' w' ⟨rfl, ⟨⟨nq, rfl⟩⟩⟩
                              go_wp2_with fail
                              go_ret
                              exact ⟨rfl, pw_below_drewN HB0.out nq⟩
                          · rw [decide_eq_false h6, Bool.false_and] at hq
                            subst hq
                            have a6 : decide ((L.length : Int) ≥ 1) = false := decide_eq_false (by omega)
                            have b6 : decide (1 ≤ L.length) = false := decide_eq_false (by omega)
                            have g6 : decide (L.length ≥ 1) = false := decide_eq_false (by omega)
                            have k6 : decide ((1 : Int) ≤ (L.length : Int)) = false := decide_eq_false (by omega)
                            go_wp2_with fail
                            refine (HIN.out _ _ HF.out).mono ?_
                            rintro e' w' ⟨rfl, ⟨⟨nq, rfl⟩⟩⟩
                            go_wp2_with fail
                            go_ret
                            exact ⟨rfl, pw_below_drewN HB0.out nq⟩
                        · rw [decide_eq_false h5, Bool.false_and] at hq
                          subst hq
                          have a5 : ((bo.length : Int) == 0) = false := beq_eq_false_iff_ne.2 (by omega)
                          have b5 : (bo.length == 0) = false := beq_eq_false_iff_ne.2 h5
                          go_wp2_with fail
                          refine (HIN.out _ _ HF.out).mono ?_
                          rintro e' w' ⟨rfl, ⟨⟨nq, rfl⟩⟩⟩
                          go_wp2_with fail
                          go_ret
                          exact ⟨rfl, pw_below_drewN HB0.out nq⟩
                      · rw [decide_eq_false h4, Bool.false_and] at hq
                        subst hq
                        have a4 : (c == 0) = false := beq_eq_false_iff_ne.2 h4
                        go_wp2_with fail
                        refine (HIN.out _ _ HF.out).mono ?_
                        rintro e' w' ⟨rfl, ⟨⟨nq, rfl⟩⟩⟩
                        go_wp2_with fail
                        go_ret
                        exact ⟨rfl, pw_below_drewN HB0.out nq⟩
                    · rw [decide_eq_false h3, Bool.false_and] at hq
                      subst hq
                      have a3 : (t == 0) = false := beq_eq_false_iff_ne.2 h3
                      go_wp2_with fail
                      refine (HIN.out _ _ HF.out).mono ?_
                      rintro e' w' ⟨rfl, ⟨⟨nq, rfl⟩⟩⟩
                      go_wp2_with fail
                      go_ret
                      exact ⟨rfl, pw_below_drewN HB0.out nq⟩
                  · rw [decide_eq_false h2, Bool.false_and] at hq
                    subst hq
                    have a2 : decide (i ≤ 1) = false := decide_eq_false (by omega)
                    go_wp2_with fail
                    refine (HIN.out _ _ HF.out).mono ?_
                    rintro e' w' ⟨rfl, ⟨⟨nq, rfl⟩⟩⟩
                    go_wp2_with fail
                    go_ret
                    exact ⟨rfl, pw_below_drewN HB0.out nq⟩
                · rw [decide_eq_false h1, Bool.false_and] at hq
                  subst hq
                  have a1 : decide (i ≥ 0) = false := decide_eq_false (by omega)
                  have b1 : decide (0 ≤ i) = false := decide_eq_false (by omega)
                  go_wp2_with fail
                  refine (HIN.out _ _ HF.out).mono ?_
                  rintro e' w' ⟨rfl, ⟨⟨nq, rfl⟩⟩⟩
                  go_wp2_with fail
                  go_ret
                  exact ⟨rfl, pw_below_drewN HB0.out nq⟩
            · rw [show rmayK 3 i t c L bo = rmay3 i t c L bo from rfl] at hq
              unfold rmay3 at hq
              generalize (decide (L.length = 0) && decide (bo.length = 0)) = z at *
              cases z
              · rw [Bool.false_and] at hq
                subst hq
                go_wp2_with fail
                go_ret
                exact ⟨rfl, HB0.out⟩
              · rw [Bool.true_and] at hq
                by_cases h1 : i = 0
                · rw [decide_eq_true h1, Bool.true_and] at hq
                  subst h1
                  by_cases h2 : t = 0
                  · rw [decide_eq_true h2, Bool.true_and] at hq
                    subst h2
                    by_cases h3 : c = 0
                    · rw [decide_eq_true h3] at hq
                      subst h3
                      subst hq
                      go_wp2_with fail
                      go_ret
                      exact ⟨rfl, HB0.out⟩
                    · rw [decide_eq_false h3] at hq
                      subst hq
                      have a3 : (c == 0) = false := beq_eq_false_iff_ne.2 h3
                      go_wp2_with fail
                      go_ret
                      exact ⟨rfl, HB0.out⟩
                  · rw [decide_eq_false h2, Bool.false_and] at hq
                    subst hq
                    have a2 : (t == 0) = false := beq_eq_false_iff_ne.2 h2
                    go_wp2_with fail
                    go_ret
                    exact ⟨rfl, HB0.out⟩
                · rw [decide_eq_false h1, Bool.false_and] at hq
                  subst hq
                  have a1 : (i == 0) = false := beq_eq_false_iff_ne.2 h1
                  go_wp2_with fail
                  go_ret
                  exact ⟨rfl, HB0.out⟩
            · rw [show rmayK 4 i t c L bo = rmay4 i t c L bo from rfl] at hq
              unfold rmay4 at hq
              generalize (decide (L.length = 0) && decide (bo.length = 0)) = z at *
              cases z
              · rw [Bool.false_and] at hq
                subst hq
                go_wp2_with fail
                go_ret
                exact ⟨rfl, HB0.out⟩
              · rw [Bool.true_and] at hq
                by_cases h1 : 0 ≤ i
                · rw [decide_eq_true h1, Bool.true_and] at hq
                  have a1 : decide (i ≥ 0) = true := decide_eq_true (by omega)
                  have b1 : decide (0 ≤ i) = true := decide_eq_true (by omega)
                  by_cases h2 : i ≤ 1
                  · rw [decide_eq_true h2, Bool.true_and] at hq
                    have a2 : decide (i ≤ 1) = true := decide_eq_true (by omega)
                    by_cases h3 : t = 0
                    · rw [decide_eq_true h3, Bool.true_and] at hq
                      subst h3
                      by_cases h4 : c = 0
                      · rw [decide_eq_true h4] at hq
                        subst h4
                        subst hq
                        go_wp2_with fail
                        go_ret
                        exact ⟨rfl, HB0.out⟩
                      · rw [decide_eq_false h4] at hq
                        subst hq
                        have a4 : (c == 0) = false := beq_eq_false_iff_ne.2 h4
                        go_wp2_with fail
                        go_ret
                        exact ⟨rfl, HB0.out⟩
                    · rw [decide_eq_false h3, Bool.false_and] at hq
                      subst hq
                      have a3 : (t == 0) = false := beq_eq_false_iff_ne.2 h3
                      go_wp2_with fail
                      go_ret
                      exact ⟨rfl, HB0.out⟩
                  · rw [decide_eq_false h2, Bool.false_and] at hq
                    subst hq
                    have a2 : decide (i ≤ 1) = false := decide_eq_false (by omega)
                    go_wp2_with fail
                    go_ret
                    exact ⟨rfl, HB0.out⟩
                · rw [decide_eq_false h1, Bool.false_and] at hq
                  subst hq
                  have a1 : decide (i ≥ 0) = false := decide_eq_false (by omega)
                  have b1 : decide (0 ≤ i) = false := decide_eq_false (by omega)
                  go_wp2_with fail
                  go_ret
                  exact ⟨rfl, HB0.out⟩
            · rw [show rmayK 5 i t c L bo = rmay5 i t c L bo from rfl] at hq
              unfold rmay5 at hq
              generalize (decide (L.length = 0) && decide (bo.length = 0)) = z at *
              cases z
              · rw [Bool.false_and] at hq
                subst hq
                go_wp2_with fail
                go_ret
                exact ⟨rfl, HB0.out⟩
              · rw [Bool.true_and] at hq
                by_cases h1 : i = 0
                · rw [decide_eq_true h1, Bool.true_and] at hq
                  subst h1
                  by_cases h2 : t = 0
                  · rw [decide_eq_true h2, Bool.true_and] at hq
                    subst h2
                    by_cases h3 : 0 ≤ c
                    · rw [decide_eq_true h3, Bool.true_and] at hq
                      have a3 : decide (c ≥ 0) = true := decide_eq_true (by omega)
                      have b3 : decide (0 ≤ c) = true := decide_eq_true (by omega)
                      by_cases h4 : c ≤ 4611686018427387904
                      · rw [decide_eq_true h4] at hq
                        have a4 : decide (c ≤ 4611686018427387904) = true := decide_eq_true (by omega)
                        subst hq
                        go_wp2_with fail
                        go_ret
                        exact ⟨rfl, HB0.out⟩
                      · rw [decide_eq_false h4] at hq
                        subst hq
                        have a4 : decide (c ≤ 4611686018427387904) = false := decide_eq_false (by omega)
                        go_wp2_with fail
                        go_ret
                        exact ⟨rfl, HB0.out⟩
                    · rw [decide_eq_false h3, Bool.false_and] at hq
                      subst hq
                      have a3 : decide (c ≥ 0) = false := decide_eq_false (by omega)
                      have b3 : decide (0 ≤ c) = false := decide_eq_false (by omega)
                      go_wp2_with fail
                      go_ret
                      exact ⟨rfl, HB0.out⟩
                  · rw [decide_eq_false h2, Bool.false_and] at hq
                    subst hq
                    have a2 : (t == 0) = false := beq_eq_false_iff_ne.2 h2
                    go_wp2_with fail
                    go_ret
                    exact ⟨rfl, HB0.out⟩
                · rw [decide_eq_false h1, Bool.false_and] at hq
                  subst hq
                  have a1 : (i == 0) = false := beq_eq_false_iff_ne.2 h1
                  go_wp2_with fail
                  go_ret
                  exact ⟨rfl, HB0.out⟩
            · rw [show rmayK 6 i t c L bo = rmay6 i t c L bo from rfl] at hq
              unfold rmay6 at hq
              cases hf : each L 4611686018427387904
              · rw [hf, Bool.false_and] at hq
                subst hq
                have HF := Lib.hid (show precentorref03_in.f 10000 L 4611686018427387904 = some false by rw [in_is _ HL.out, hf])
                clear hf
                go_wp2_with fail
                refine (HIN.out _ _ HF.out).mono ?_
                rintro e' w' ⟨rfl, ⟨⟨nq, rfl⟩⟩⟩
                go_wp2_with fail
                go_ret
                exact ⟨rfl, pw_below_drewN HB0.out nq⟩
              · rw [hf, Bool.true_and] at hq
                have HF := Lib.hid (show precentorref03_in.f 10000 L 4611686018427387904 = some true by rw [in_is _ HL.out, hf])
                clear hf
                by_cases h1 : i = 0
                · rw [decide_eq_true h1, Bool.true_and] at hq
                  subst h1
                  by_cases h2 : t = 0
                  · rw [decide_eq_true h2, Bool.true_and] at hq
                    subst h2
                    by_cases h3 : c = 0
                    · rw [decide_eq_true h3, Bool.true_and] at hq
                      subst h3
                      by_cases h4 : bo.length = 0
                      · rw [decide_eq_true h4, Bool.true_and] at hq
                        have a4 : ((bo.length : Int) == 0) = true := by rw [h4]; rfl
                        have b4 : (bo.length == 0) = true := by rw [h4]; rfl
                        by_cases h5 : 2 ≤ L.length
                        · rw [decide_eq_true h5, Bool.true_and] at hq
                          have a5 : decide ((L.length : Int) ≥ 2) = true := decide_eq_true (by omega)
                          have b5 : decide (2 ≤ L.length) = true := decide_eq_true (by omega)
                          have g5 : decide (L.length ≥ 2) = true := decide_eq_true (by omega)
                          have k5 : decide ((2 : Int) ≤ (L.length : Int)) = true := decide_eq_true (by omega)
                          by_cases h6 : L.length ≤ 64
                          · rw [decide_eq_true h6] at hq
                            have a6 : decide ((L.length : Int) ≤ 64) = true := decide_eq_true (by omega)
                            have b6 : decide (L.length ≤ 64) = true := decide_eq_true (by omega)
                            subst hq
                            go_wp2_with fail
                            refine (HIN.out _ _ HF.out).mono ?_
                            rintro e' w' ⟨rfl, ⟨⟨nq, rfl⟩⟩⟩
                            go_wp2_with fail
                            go_ret
                            exact ⟨rfl, pw_below_drewN HB0.out nq⟩
                          · rw [decide_eq_false h6] at hq
                            subst hq
                            have a6 : decide ((L.length : Int) ≤ 64) = false := decide_eq_false (by omega)
                            have b6 : decide (L.length ≤ 64) = false := decide_eq_false (by omega)
                            go_wp2_with fail
                            refine (HIN.out _ _ HF.out).mono ?_
                            rintro e' w' ⟨rfl, ⟨⟨nq, rfl⟩⟩⟩
                            go_wp2_with fail
                            go_ret
                            exact ⟨rfl, pw_below_drewN HB0.out nq⟩
                        · rw [decide_eq_false h5, Bool.false_and] at hq
                          subst hq
                          have a5 : decide ((L.length : Int) ≥ 2) = false := decide_eq_false (by omega)
                          have b5 : decide (2 ≤ L.length) = false := decide_eq_false (by omega)
                          have g5 : decide (L.length ≥ 2) = false := decide_eq_false (by omega)
                          have k5 : decide ((2 : Int) ≤ (L.length : Int)) = false := decide_eq_false (by omega)
                          go_wp2_with fail
                          refine (HIN.out _ _ HF.out).mono ?_
                          rintro e' w' ⟨rfl, ⟨⟨nq, rfl⟩⟩⟩
                          go_wp2_with fail
                          go_ret
                          exact ⟨rfl, pw_below_drewN HB0.out nq⟩
                      · rw [decide_eq_false h4, Bool.false_and] at hq
                        subst hq
                        have a4 : ((bo.length : Int) == 0) = false := beq_eq_false_iff_ne.2 (by omega)
                        have b4 : (bo.length == 0) = false := beq_eq_false_iff_ne.2 h4
                        go_wp2_with fail
                        refine (HIN.out _ _ HF.out).mono ?_
                        rintro e' w' ⟨rfl, ⟨⟨nq, rfl⟩⟩⟩
                        go_wp2_with fail
                        go_ret
                        exact ⟨rfl, pw_below_drewN HB0.out nq⟩
                    · rw [decide_eq_false h3, Bool.false_and] at hq
                      subst hq
                      have a3 : (c == 0) = false := beq_eq_false_iff_ne.2 h3
                      go_wp2_with fail
                      refine (HIN.out _ _ HF.out).mono ?_
                      rintro e' w' ⟨rfl, ⟨⟨nq, rfl⟩⟩⟩
                      go_wp2_with fail
                      go_ret
                      exact ⟨rfl, pw_below_drewN HB0.out nq⟩
                  · rw [decide_eq_false h2, Bool.false_and] at hq
                    subst hq
                    have a2 : (t == 0) = false := beq_eq_false_iff_ne.2 h2
                    go_wp2_with fail
                    refine (HIN.out _ _ HF.out).mono ?_
                    rintro e' w' ⟨rfl, ⟨⟨nq, rfl⟩⟩⟩
                    go_wp2_with fail
                    go_ret
                    exact ⟨rfl, pw_below_drewN HB0.out nq⟩
                · rw [decide_eq_false h1, Bool.false_and] at hq
                  subst hq
                  have a1 : (i == 0) = false := beq_eq_false_iff_ne.2 h1
                  go_wp2_with fail
                  refine (HIN.out _ _ HF.out).mono ?_
                  rintro e' w' ⟨rfl, ⟨⟨nq, rfl⟩⟩⟩
                  go_wp2_with fail
                  go_ret
                  exact ⟨rfl, pw_below_drewN HB0.out nq⟩
            · unfold rmayK at hq
              rw [if_neg (by omega), if_neg (by omega), if_neg (by omega), if_neg (by omega), if_neg (by omega), if_neg (by omega)] at hq
              subst hq
              have e1 : (k == 1) = false := beq_eq_false_iff_ne.2 (by omega)
              have e2 : (k == 2) = false := beq_eq_false_iff_ne.2 (by omega)
              have e3 : (k == 3) = false := beq_eq_false_iff_ne.2 (by omega)
              have e4 : (k == 4) = false := beq_eq_false_iff_ne.2 (by omega)
              have e5 : (k == 5) = false := beq_eq_false_iff_ne.2 (by omega)
              have e6 : (k == 6) = false := beq_eq_false_iff_ne.2 (by omega)
              clear hk
              go_wp2_with fail
              go_ret
              exact ⟨rfl, HB0.out⟩
        · rw [decide_eq_false h3, Bool.false_and] at hq
          subst hq
          have u3_0 : decide (e > 4611686018427387904) = true := decide_eq_true (by omega)
          have u3_1 : decide (4611686018427387904 < e) = true := decide_eq_true (by omega)
          go_enter Tryd.func33, Tryd.ntmps33
          go_wp2_with fail
          go_ret
          exact ⟨rfl, HB0.out⟩
      · rw [decide_eq_false h2, Bool.false_and] at hq
        subst hq
        have u2_0 : decide (e < 0) = true := decide_eq_true (by omega)
        go_enter Tryd.func33, Tryd.ntmps33
        go_wp2_with fail
        go_ret
        exact ⟨rfl, HB0.out⟩
    · rw [decide_eq_false h1, Bool.false_and] at hq
      subst hq
      have u1_0 : decide (s > 4611686018427387904) = true := decide_eq_true (by omega)
      have u1_1 : decide (4611686018427387904 < s) = true := decide_eq_true (by omega)
      go_enter Tryd.func33, Tryd.ntmps33
      go_wp2_with fail
      go_ret
      exact ⟨rfl, HB0.out⟩
  · rw [decide_eq_false h0, Bool.false_and] at hq
    subst hq
    have u0_0 : decide (s < 1) = true := decide_eq_true (by omega)
    go_enter Tryd.func33, Tryd.ntmps33
    go_wp2_with fail
    go_ret
    exact ⟨rfl, HB0.out⟩
def precentorref03_May.f (k s e i t c : Int) (L bo : List Int) : Option Bool := if L.length < 10000 then some (mayB k s e i t c L bo.length) else none
theorem precentorref03_May.calls (a0_0 a0_1 a0_2 a0_3 a0_4 a0_5 : Int) (A0_6 : Option Addr) (c0_6 : Nat) (l0_6 : List Int) (A0_7 : Option Addr) (c0_7 : Nat) (l0_7 : List Int) (r : Bool) (w : World) (hr0_6 : Kd.C (Kd.int .i64) w A0_6 l0_6.length l0_6) (hc0_6 : l0_6.length ≤ c0_6) (hr0_7 : Kd.C (Kd.int .u8) w A0_7 l0_7.length l0_7) (hc0_7 : l0_7.length ≤ c0_7) (h : precentorref03_May.f a0_0 a0_1 a0_2 a0_3 a0_4 a0_5 l0_6 l0_7 = some r) :
    Calls Tryd.prog 33 #[.agg #[.int .i64 a0_0, .int .i64 a0_1, .int .i64 a0_2, .int .i64 a0_3, .int .i64 a0_4, .int .i64 a0_5, .slice A0_6 l0_6.length c0_6, .slice A0_7 l0_7.length c0_7]] w fun e w' => e = .returned (.bool r) ∧ Below w.heap.size w w' := by
  unfold precentorref03_May.f at h
  by_cases hl : l0_6.length < 10000
  · rw [if_pos hl] at h
    exact precentorref03_May.is _ _ _ _ _ _ _ _ _ _ _ _ _ hr0_6 hc0_6 hl r (Option.some.inj h)
  · rw [if_neg hl] at h; cases h
end Go.Proofs.YtieolhhokepkjaaDoor.Print
namespace Go.Proofs.YtieolhhokepkjaaDoor.Print
set_option linter.unusedVariables false
set_option linter.unusedSimpArgs false
open Go.RowKit Go.Proofs.YtieolhhokepkjaaDoorW.PrintWords Go.Proofs.YtieolhhokepkjaaDoorW.PrintLast Go.Proofs.YtieolhhokepkjaaDoorW.PrintMore Go.Proofs.YtieolhhokepkjaaDoor.NumPlain

theorem rputrow {W : Int} {l p : List Int} (hl : l.length < 10000) (hf : Fa l W) (hp : flat W l = p) : precentorref02_PutRow.f (l.length + 10) l W = some p := by
  rw [rputrow_is hl (Nat.le_refl _), putrow_is hl (Nat.le_refl _), if_pos hf, hp]
def BytesG (w0 : World) (g : Nat) (x : Int) (A : Option Addr) (c : Nat) (p : List Int) (w' : World) : Prop :=
  O8 w' w0.heap.size (.slice (some ⟨g, 0, none⟩) 1 1) [x] ∧ p.length ≤ c ∧ Kd.C (Kd.int .u8) w' A p.length p ∧ Below w0.heap.size w0 w'
set_option maxRecDepth 100000 in
set_option maxHeartbeats 4000000 in
theorem precentorref03_Bytes.yes (k s e i t c : Int) (A6 : Option Addr) (c6 : Nat) (L : List Int) (A7 : Option Addr) (c7 : Nat) (bo : List Int) (w : World) (hr6 : Kd.C (Kd.int .i64) w A6 L.length L) (hc6 : L.length ≤ c6) (hr7 : Kd.C (Kd.int .u8) w A7 bo.length bo) (hc7 : bo.length ≤ c7) (hL : L.length < 10000) (hbo : bo.length < 100000000) (hm : mayB k s e i t c L bo.length = true) :
    Calls Tryd.prog 21 #[.agg #[.int .i64 k, .int .i64 s, .int .i64 e, .int .i64 i, .int .i64 t, .int .i64 c, .slice A6 L.length c6, .slice A7 bo.length c7]] w (BytesPost w (bytesOf k s e i t c L bo)) := by
  obtain ⟨hk, hs, he⟩ := mayB_head hm
  obtain ⟨w0, hw0, hB0, hs0, X0⟩ := boxed1 w (.int .i64 k) (.int .i64 s) (.int .i64 e) (.int .i64 i) (.int .i64 t) (.int .i64 c) (.slice A6 L.length c6) (.slice A7 bo.length c7)
  obtain ⟨⟨q0, q1, q2, q3, q4, q5, q6, q7⟩, _⟩ := cells8 X0
  have HB0 := Aside0.mk hB0
  have HMAY := Lib.hid (precentorref03_May.is k s e i t c A6 c6 L A7 c7 bo w0 (Kd.C_below hr6 hB0) hc6 hL true hm)
  have HR6 := Aside0.mk (Kd.C_below hr6 hB0)
  have HR7 := Aside0.mk (Kd.C_below hr7 hB0)
  have HL := Lib.hid hL
  have HBO := Lib.hid hbo
  have HMM := Lib.hid hm
  have HC6 := Lib.hid hc6
  obtain ⟨p, hp⟩ : ∃ p, flat 8 [s, e] = p := ⟨_, rfl⟩
  have HP := Lib.hid (rputrow (W := 8) (l := [s, e]) (p := p) (by simp) (by
    intro x hx
    rcases List.mem_cons.1 hx with rfl | hx
    · exact ⟨Or.inr (Or.inr rfl), by omega, hs.2⟩
    · obtain rfl := List.mem_singleton.1 hx; exact ⟨Or.inr (Or.inr rfl), he⟩) hp)
  have HPL := Lib.hid (show p.length = 16 by rw [← hp, flat_length]; rfl)
  have HH := Lib.hid (show headOf k s e = [IntKind.u8.wrap k] ++ p by rw [← hp]; unfold headOf flat; simp [enc, u8w])
  clear X0 hB0 hr6 hr7 hL hbo hm hc6 hc7 hp hs he hs0
  go_enter Tryd.func21, Tryd.ntmps21
  go_wp2_with fail
  refine HMAY.out.mono ?_
  rintro e1 w1 ⟨rfl, hb⟩
  have HBq := Aside0.mk hb
  clear hb hw0
  go_wp2_with fail
  refine start_ (n := 12) (S := fun w' => w'.cell? ⟨w.heap.size, 0, none⟩ = some (.int .i64 k) ∧ w'.cell? ⟨w.heap.size, 1, none⟩ = some (.int .i64 s) ∧ w'.cell? ⟨w.heap.size, 2, none⟩ = some (.int .i64 e)) (ds := []) #[false, false, false, false, false, false, false, false, false, false, false, false] (by kernel_rfl) rfl rfl ⟨pw_cell_below (below_drew1 HBq.out) q0, pw_cell_below (below_drew1 HBq.out) q1, pw_cell_below (below_drew1 HBq.out) q2⟩ (fun hHeld => ?_)
  have n0_ := Aside0.mk (below_drew1 HBq.out)
  clear HBq
  have HBq := n0_
  clear n0_
  generalize hw2_ : w1.drew = w2 at *
  clear hw2_
  refine pure_ (i := 0) (N := some 9) (v := ?_) (a' := ?_) #[true, false, false, false, false, false, false, false, false, false, false, false] rfl rfl (by kernel_rfl) (fun _ _ _ h => h) (Or.inl ⟨by rfl, ?_⟩) ?_ ?_
  rotate_left
  · intro w'
    go_simp
    with_reducible rfl
  rotate_left
  · simp only [Act.put, List.setIfInBounds_toArray, List.set_cons_zero, List.set_cons_succ, i64_w, i32_w]
    rfl
  refine pure_ (i := 4) (N := some 13) (v := ?_) (a' := ?_) #[true, false, false, false, true, false, false, false, false, false, false, false] rfl rfl (by kernel_rfl) (fun _ _ _ h => h) (Or.inl ⟨by rfl, ?_⟩) ?_ ?_
  rotate_left
  · intro w'
    go_simp
    with_reducible rfl
  rotate_left
  · simp only [Act.put, List.setIfInBounds_toArray, List.set_cons_zero, List.set_cons_succ, i64_w, i32_w]
    rfl
  refine pure_ (i := 6) (N := some 15) (v := ?_) (a' := ?_) #[true, false, false, false, true, false, true, false, false, false, false, false] rfl rfl (by kernel_rfl) (fun _ _ _ h => h) (Or.inl ⟨by rfl, ?_⟩) ?_ ?_
  rotate_left
  · intro w'
    go_simp
    with_reducible rfl
  rotate_left
  · simp only [Act.put, List.setIfInBounds_toArray, List.set_cons_zero, List.set_cons_succ, i64_w, i32_w]
    rfl
  refine take_ (i := 1) (N := some 10) (v := ?_) (a' := ?_) #[true, true, false, false, true, false, true, false, false, false, false, false] rfl rfl (by kernel_rfl) (fun _ _ _ h => h) (Or.inl ⟨by rfl, ?_⟩) hHeld ?_ ?_
  rotate_left
  · rintro w' ⟨s0, s1, s2⟩
    go_simp
    with_reducible rfl
  rotate_left
  · simp only [Act.put, List.setIfInBounds_toArray, List.set_cons_zero, List.set_cons_succ, i64_w, i32_w]
    rfl
  refine pure_ (i := 2) (N := some 11) (v := ?_) (a' := ?_) #[true, true, true, false, true, false, true, false, false, false, false, false] rfl rfl (by kernel_rfl) (fun _ _ _ h => h) (Or.inl ⟨by rfl, ?_⟩) ?_ ?_
  rotate_left
  · intro w'
    go_simp
    with_reducible rfl
  rotate_left
  · simp only [Act.put, List.setIfInBounds_toArray, List.set_cons_zero, List.set_cons_succ, i64_w, i32_w]
    rfl
  refine take_ (i := 5) (N := some 14) (v := ?_) (a' := ?_) #[true, true, true, false, true, true, true, false, false, false, false, false] rfl rfl (by kernel_rfl) (fun _ _ _ h => h) (Or.inl ⟨by rfl, ?_⟩) hHeld ?_ ?_
  rotate_left
  · rintro w' ⟨s0, s1, s2⟩
    go_simp
    with_reducible rfl
  rotate_left
  · simp only [Act.put, List.setIfInBounds_toArray, List.set_cons_zero, List.set_cons_succ, i64_w, i32_w]
    rfl
  refine take_ (i := 7) (N := some 16) (v := ?_) (a' := ?_) #[true, true, true, false, true, true, true, true, false, false, false, false] rfl rfl (by kernel_rfl) (fun _ _ _ h => h) (Or.inl ⟨by rfl, ?_⟩) hHeld ?_ ?_
  rotate_left
  · rintro w' ⟨s0, s1, s2⟩
    go_simp
    with_reducible rfl
  rotate_left
  · simp only [Act.put, List.setIfInBounds_toArray, List.set_cons_zero, List.set_cons_succ, i64_w, i32_w]
    rfl
  refine join_ (σ := Nat × Nat × Option Addr × Nat) 2 #[true, true, true, true, true, true, true, true, true, true, false, false] (fun s_ => [(12, .slice (some ⟨s_.1, 0, none⟩) 1 1), (17, .slice (some ⟨s_.2.1, 0, none⟩) 2 2), (18, .slice s_.2.2.1 p.length s_.2.2.2)]) (fun s_ w2_ => (w2_.cell? ⟨w.heap.size, 0, none⟩ = some (.int .i64 k) ∧ w2_.cell? ⟨w.heap.size, 1, none⟩ = some (.int .i64 s) ∧ w2_.cell? ⟨w.heap.size, 2, none⟩ = some (.int .i64 e)) ∧ BytesG w0 s_.1 (IntKind.u8.wrap k) s_.2.2.1 s_.2.2.2 p w2_) ?_ ?_
  rotate_left
  · intro hCont
    refine two_ (i := 3) (j := 8) (Ni := some 12) (Nj := some 17) #[true, true, true, true, true, true, true, true, false, false, false, false] #[true, true, true, false, true, true, true, true, true, false, false, false] rfl rfl rfl rfl (by kernel_rfl) (by decide) (by decide) (fun K hK => ?_) (fun K hK => ?_)
    · skip
      refine value_ (w1 := ?_) (v := ?_) (by rfl) rfl ?_ ?_
      rotate_left 2
      · go_simp
        constructor
        · rfl
        · rfl
      have hb := below_alloc (Below.refl w2.heap.size w2) (Obj.cells #[.int .u8 (IntKind.u8.wrap k)] 5)
      have HO12 := Aside0.mk (O8.lit (blk_new w2 (Obj.cells #[.int .u8 (IntKind.u8.wrap k)] 5)) HBq.out.size [IntKind.u8.wrap k] (by simp) rfl)
      have n0_ := Aside0.mk (below_step HBq.out hb)
      clear HBq hb
      have HBq := n0_
      clear n0_
      generalize hgl_ : w2.alloc (Obj.cells #[.int .u8 (IntKind.u8.wrap k)] 5) = w3 at *
      clear hgl_
      generalize w2.heap.size = g12 at *
      refine hK.out _ _ ⟨pw_cell_below HBq.out q0, pw_cell_below HBq.out q1, pw_cell_below HBq.out q2⟩ (fun hHeld => ?_)
      clear hK K
      refine norm_ (a' := ?_) ?_ ?_
      rotate_left
      · show Act.put _ (some 12) _ = _
        simp only [Act.put, List.setIfInBounds_toArray, List.set_cons_zero, List.set_cons_succ, i64_w, i32_w]
        rfl
      refine one_ (i := 8) (N := some 17) #[true, true, true, true, true, true, true, true, true, false, false, false] rfl rfl (by kernel_rfl) (by decide) (fun K hK => ?_)
      refine value_ (w1 := ?_) (v := ?_) (by rfl) rfl ?_ ?_
      rotate_left 2
      · go_simp
        constructor
        · rfl
        · rfl
      have hb := below_alloc (Below.refl w3.heap.size w3) (Obj.cells #[.int .i64 s, .int .i64 e] 3)
      have n1_ := Aside0.mk (O8.below HO12.out hb)
      clear HO12
      have HO12 := n1_
      clear n1_
      have HC17 := Aside0.mk (Kd.C_lit64 (blk_new w3 (Obj.cells #[.int .i64 s, .int .i64 e] 3)) [s, e] (by simp) rfl)
      have n0_ := Aside0.mk (below_step HBq.out hb)
      clear HBq hb
      have HBq := n0_
      clear n0_
      generalize hgl_ : w3.alloc (Obj.cells #[.int .i64 s, .int .i64 e] 3) = w5 at *
      clear hgl_
      generalize w3.heap.size = g17 at *
      refine hK.out _ _ ⟨pw_cell_below HBq.out q0, pw_cell_below HBq.out q1, pw_cell_below HBq.out q2⟩ (fun hHeld => ?_)
      clear hK K
      refine norm_ (a' := ?_) ?_ ?_
      rotate_left
      · show Act.put _ (some 17) _ = _
        simp only [Act.put, List.setIfInBounds_toArray, List.set_cons_zero, List.set_cons_succ, i64_w, i32_w]
        rfl
      refine one_ (i := 9) (N := some 18) #[true, true, true, true, true, true, true, true, true, true, false, false] rfl rfl (by kernel_rfl) (by decide) (fun K hK => ?_)
      have HCT := Lib.hid (show Calls Tryd.prog 43 #[.slice (some ⟨g17, 0, none⟩) 2 2, .int .i64 8] w5 _ from precentorref02_PutRow.calls 12 (some ⟨g17, 0, none⟩) 2 [s, e] 8 p w5 HC17.out (Nat.le_refl _) HP.out)
      refine goes_ Tryd.func43 (by kernel_rfl) rfl #[.slice (some ⟨g17, 0, none⟩) 2 2, .int .i64 8] (by rfl) rfl rfl (by simp only [List.map_toArray, List.map_cons, List.map_nil]; rfl) ?_
      with_reducible refine (HCT.out).mono ?_
      rintro e0 w8 ⟨v18, rfl, hr, hb⟩
      refine ⟨_, rfl, ?_⟩
      obtain ⟨A18, c18, rfl, hl18, hC18⟩ := Kd.R_reads hr
      have HL18 := Lib.hid hl18
      clear hr hl18 HCT
      have n1_ := Aside0.mk (O8.below HO12.out hb)
      clear HO12
      have HO12 := n1_
      clear n1_
      have n1_ := Aside0.mk (Kd.C_below HC17.out hb)
      clear HC17
      have HC17 := n1_
      clear n1_
      have HC18 := Aside0.mk hC18
      clear hC18
      have n0_ := Aside0.mk (below_step HBq.out hb)
      clear HBq hb
      have HBq := n0_
      clear n0_
      refine hK.out _ _ ⟨pw_cell_below HBq.out q0, pw_cell_below HBq.out q1, pw_cell_below HBq.out q2⟩ (fun hHeld => ?_)
      clear hK K
      refine norm_ (a' := ?_) ?_ ?_
      rotate_left
      · show Act.put _ (some 18) _ = _
        simp only [Act.put, List.setIfInBounds_toArray, List.set_cons_zero, List.set_cons_succ, i64_w, i32_w]
        rfl
      exact norm_ (by simp only [putAll, Act.put, List.setIfInBounds_toArray, List.set_cons_zero, List.set_cons_succ]) (hCont (g12, g17, A18, c18) _ ⟨hHeld, HO12.out, HL18.out, HC18.out, HBq.out⟩)
    · skip
      refine value_ (w1 := ?_) (v := ?_) (by rfl) rfl ?_ ?_
      rotate_left 2
      · go_simp
        constructor
        · rfl
        · rfl
      have hb := below_alloc (Below.refl w2.heap.size w2) (Obj.cells #[.int .i64 s, .int .i64 e] 3)
      have HC17 := Aside0.mk (Kd.C_lit64 (blk_new w2 (Obj.cells #[.int .i64 s, .int .i64 e] 3)) [s, e] (by simp) rfl)
      have n0_ := Aside0.mk (below_step HBq.out hb)
      clear HBq hb
      have HBq := n0_
      clear n0_
      generalize hgl_ : w2.alloc (Obj.cells #[.int .i64 s, .int .i64 e] 3) = w4 at *
      clear hgl_
      generalize w2.heap.size = g17 at *
      refine hK.out _ _ ⟨pw_cell_below HBq.out q0, pw_cell_below HBq.out q1, pw_cell_below HBq.out q2⟩ (fun hHeld => ?_)
      clear hK K
      refine norm_ (a' := ?_) ?_ ?_
      rotate_left
      · show Act.put _ (some 17) _ = _
        simp only [Act.put, List.setIfInBounds_toArray, List.set_cons_zero, List.set_cons_succ, i64_w, i32_w]
        rfl
      refine two_ (i := 3) (j := 9) (Ni := some 12) (Nj := some 18) #[true, true, true, true, true, true, true, true, true, false, false, false] #[true, true, true, false, true, true, true, true, true, true, false, false] rfl rfl rfl rfl (by kernel_rfl) (by decide) (by decide) (fun K hK => ?_) (fun K hK => ?_)
      · skip
        refine value_ (w1 := ?_) (v := ?_) (by rfl) rfl ?_ ?_
        rotate_left 2
        · go_simp
          constructor
          · rfl
          · rfl
        have hb := below_alloc (Below.refl w4.heap.size w4) (Obj.cells #[.int .u8 (IntKind.u8.wrap k)] 5)
        have n1_ := Aside0.mk (Kd.C_below HC17.out hb)
        clear HC17
        have HC17 := n1_
        clear n1_
        have HO12 := Aside0.mk (O8.lit (blk_new w4 (Obj.cells #[.int .u8 (IntKind.u8.wrap k)] 5)) HBq.out.size [IntKind.u8.wrap k] (by simp) rfl)
        have n0_ := Aside0.mk (below_step HBq.out hb)
        clear HBq hb
        have HBq := n0_
        clear n0_
        generalize hgl_ : w4.alloc (Obj.cells #[.int .u8 (IntKind.u8.wrap k)] 5) = w6 at *
        clear hgl_
        generalize w4.heap.size = g12 at *
        refine hK.out _ _ ⟨pw_cell_below HBq.out q0, pw_cell_below HBq.out q1, pw_cell_below HBq.out q2⟩ (fun hHeld => ?_)
        clear hK K
        refine norm_ (a' := ?_) ?_ ?_
        rotate_left
        · show Act.put _ (some 12) _ = _
          simp only [Act.put, List.setIfInBounds_toArray, List.set_cons_zero, List.set_cons_succ, i64_w, i32_w]
          rfl
        refine one_ (i := 9) (N := some 18) #[true, true, true, true, true, true, true, true, true, true, false, false] rfl rfl (by kernel_rfl) (by decide) (fun K hK => ?_)
        have HCT := Lib.hid (show Calls Tryd.prog 43 #[.slice (some ⟨g17, 0, none⟩) 2 2, .int .i64 8] w6 _ from precentorref02_PutRow.calls 12 (some ⟨g17, 0, none⟩) 2 [s, e] 8 p w6 HC17.out (Nat.le_refl _) HP.out)
        refine goes_ Tryd.func43 (by kernel_rfl) rfl #[.slice (some ⟨g17, 0, none⟩) 2 2, .int .i64 8] (by rfl) rfl rfl (by simp only [List.map_toArray, List.map_cons, List.map_nil]; rfl) ?_
        with_reducible refine (HCT.out).mono ?_
        rintro e0 w9 ⟨v18, rfl, hr, hb⟩
        refine ⟨_, rfl, ?_⟩
        obtain ⟨A18, c18, rfl, hl18, hC18⟩ := Kd.R_reads hr
        have HL18 := Lib.hid hl18
        clear hr hl18 HCT
        have n1_ := Aside0.mk (O8.below HO12.out hb)
        clear HO12
        have HO12 := n1_
        clear n1_
        have n1_ := Aside0.mk (Kd.C_below HC17.out hb)
        clear HC17
        have HC17 := n1_
        clear n1_
        have HC18 := Aside0.mk hC18
        clear hC18
        have n0_ := Aside0.mk (below_step HBq.out hb)
        clear HBq hb
        have HBq := n0_
        clear n0_
        refine hK.out _ _ ⟨pw_cell_below HBq.out q0, pw_cell_below HBq.out q1, pw_cell_below HBq.out q2⟩ (fun hHeld => ?_)
        clear hK K
        refine norm_ (a' := ?_) ?_ ?_
        rotate_left
        · show Act.put _ (some 18) _ = _
          simp only [Act.put, List.setIfInBounds_toArray, List.set_cons_zero, List.set_cons_succ, i64_w, i32_w]
          rfl
        exact norm_ (by simp only [putAll, Act.put, List.setIfInBounds_toArray, List.set_cons_zero, List.set_cons_succ]) (hCont (g12, g17, A18, c18) _ ⟨hHeld, HO12.out, HL18.out, HC18.out, HBq.out⟩)
      · skip
        have HCT := Lib.hid (show Calls Tryd.prog 43 #[.slice (some ⟨g17, 0, none⟩) 2 2, .int .i64 8] w4 _ from precentorref02_PutRow.calls 12 (some ⟨g17, 0, none⟩) 2 [s, e] 8 p w4 HC17.out (Nat.le_refl _) HP.out)
        refine goes_ Tryd.func43 (by kernel_rfl) rfl #[.slice (some ⟨g17, 0, none⟩) 2 2, .int .i64 8] (by rfl) rfl rfl (by simp only [List.map_toArray, List.map_cons, List.map_nil]; rfl) ?_
        with_reducible refine (HCT.out).mono ?_
        rintro e0 w7 ⟨v18, rfl, hr, hb⟩
        refine ⟨_, rfl, ?_⟩
        obtain ⟨A18, c18, rfl, hl18, hC18⟩ := Kd.R_reads hr
        have HL18 := Lib.hid hl18
        clear hr hl18 HCT
        have n1_ := Aside0.mk (Kd.C_below HC17.out hb)
        clear HC17
        have HC17 := n1_
        clear n1_
        have HC18 := Aside0.mk hC18
        clear hC18
        have n0_ := Aside0.mk (below_step HBq.out hb)
        clear HBq hb
        have HBq := n0_
        clear n0_
        refine hK.out _ _ ⟨pw_cell_below HBq.out q0, pw_cell_below HBq.out q1, pw_cell_below HBq.out q2⟩ (fun hHeld => ?_)
        clear hK K
        refine norm_ (a' := ?_) ?_ ?_
        rotate_left
        · show Act.put _ (some 18) _ = _
          simp only [Act.put, List.setIfInBounds_toArray, List.set_cons_zero, List.set_cons_succ, i64_w, i32_w]
          rfl
        refine one_ (i := 3) (N := some 12) #[true, true, true, true, true, true, true, true, true, true, false, false] rfl rfl (by kernel_rfl) (by decide) (fun K hK => ?_)
        refine value_ (w1 := ?_) (v := ?_) (by rfl) rfl ?_ ?_
        rotate_left 2
        · go_simp
          constructor
          · rfl
          · rfl
        have hb := below_alloc (Below.refl w7.heap.size w7) (Obj.cells #[.int .u8 (IntKind.u8.wrap k)] 5)
        have n1_ := Aside0.mk (Kd.C_below HC18.out hb)
        clear HC18
        have HC18 := n1_
        clear n1_
        have HO12 := Aside0.mk (O8.lit (blk_new w7 (Obj.cells #[.int .u8 (IntKind.u8.wrap k)] 5)) HBq.out.size [IntKind.u8.wrap k] (by simp) rfl)
        have n0_ := Aside0.mk (below_step HBq.out hb)
        clear HBq hb
        have HBq := n0_
        clear n0_
        generalize hgl_ : w7.alloc (Obj.cells #[.int .u8 (IntKind.u8.wrap k)] 5) = w10 at *
        clear hgl_
        generalize w7.heap.size = g12 at *
        refine hK.out _ _ ⟨pw_cell_below HBq.out q0, pw_cell_below HBq.out q1, pw_cell_below HBq.out q2⟩ (fun hHeld => ?_)
        clear hK K
        refine norm_ (a' := ?_) ?_ ?_
        rotate_left
        · show Act.put _ (some 12) _ = _
          simp only [Act.put, List.setIfInBounds_toArray, List.set_cons_zero, List.set_cons_succ, i64_w, i32_w]
          rfl
        exact norm_ (by simp only [putAll, Act.put, List.setIfInBounds_toArray, List.set_cons_zero, List.set_cons_succ]) (hCont (g12, g17, A18, c18) _ ⟨hHeld, HO12.out, HL18.out, HC18.out, HBq.out⟩)
  rintro ⟨g12, g17, A18, c18⟩ w11 ⟨hS_, hD_⟩
  have hHeld := hS_
  have HD := Aside0.mk hD_
  clear hS_ hD_
  refine norm_ (a' := ?_) ?_ ?_
  rotate_left
  · simp only [putAll, Act.put, List.setIfInBounds_toArray, List.set_cons_zero, List.set_cons_succ]
    rfl
  refine one_ (i := 10) (N := some 19) #[true, true, true, true, true, true, true, true, true, true, true, false] rfl rfl (by kernel_rfl) (by decide) (fun K hK => ?_)
  refine ap8_step (w0 := w0) (b := w0.heap.size) (by rfl) rfl rfl rfl HD.out.1 HD.out.2.2.1 HD.out.2.2.2 HD.out.2.2.2.size (by have := HPL.out; simp; omega) ?_
  intro v7 w12 ho hb
  have HO := Aside0.mk ho
  have HBq := Aside0.mk hb
  clear ho hb
  refine hK.out _ _ ⟨pw_cell_below HBq.out q0, pw_cell_below HBq.out q1, pw_cell_below HBq.out q2⟩ (fun hHeld => ?_)
  clear hK K
  refine norm_ (a' := ?_) ?_ ?_
  rotate_left
  · show Act.put _ (some 19) _ = _
    simp only [Act.put, List.setIfInBounds_toArray, List.set_cons_zero, List.set_cons_succ, i64_w, i32_w]
    rfl
  refine pure_ (i := 11) (N := some 4) (v := ?_) (a' := ?_) #[true, true, true, true, true, true, true, true, true, true, true, true] rfl rfl (by kernel_rfl) (fun _ _ _ h => h) (Or.inl ⟨by rfl, ?_⟩) ?_ ?_
  rotate_left
  · intro w'
    go_simp
    with_reducible rfl
  rotate_left
  · simp only [Act.put, List.setIfInBounds_toArray, List.set_cons_zero, List.set_cons_succ, i64_w, i32_w]
    rfl
  refine done_ (by kernel_rfl) ?_

  clear hHeld HD
  obtain ⟨hd, hhd⟩ : ∃ hd, headOf k s e = hd := ⟨_, rfl⟩
  have HH2 := Lib.hid hhd
  have HHL := Lib.hid (show hd.length = 17 by rw [← hhd, HH.out]; have := HPL.out; simp [this])
  have HOn := Aside0.mk (show O8 w12 w0.heap.size v7 hd by rw [← hhd, HH.out]; exact HO.out)
  clear hhd HO
  have HO := HOn
  clear HOn
  have y0 := pw_cell_below HBq.out q0
  have y1 := pw_cell_below HBq.out q1
  have y2 := pw_cell_below HBq.out q2
  have y3 := pw_cell_below HBq.out q3
  have y4 := pw_cell_below HBq.out q4
  have y5 := pw_cell_below HBq.out q5
  have y6 := pw_cell_below HBq.out q6
  have y7 := pw_cell_below HBq.out q7
  rcases (show k = 1 ∨ k = 2 ∨ k = 3 ∨ k = 4 ∨ k = 5 ∨ k = 6 by omega) with rfl | rfl | rfl | rfl | rfl | rfl
  · have HBY := Lib.hid (show bytesOf 1 s e i t c L bo = hd ++ [IntKind.u8.wrap i, IntKind.u8.wrap t] ++ bo by unfold bytesOf tailOf; rw [if_pos rfl, HH2.out]; simp [enc, u8w])
    go_wp2_with (first | ((with_reducible refine gate_builtin (b := .append) (xs := #[.tmp 23, .tmp 30]) rfl ?_); at_builtin; refine ap8 (w0 := w0) (b := w0.heap.size) (ys := [IntKind.u8.wrap i, IntKind.u8.wrap t]) rfl rfl rfl rfl (O8.below HO.out (below_alloc (Below.refl _ _) _)) (Kd.C_lit8 (blk_new w12 _) [IntKind.u8.wrap i, IntKind.u8.wrap t] (by simp) rfl) (below_alloc HBq.out _) ((below_alloc HBq.out _)).size (by have := HHL.out; simp; omega) ?_; intro v8 w13 ho hb; have HO1 := Aside0.mk ho; have HB1 := Aside0.mk hb; clear ho hb; have z0 := pw_cell_below HB1.out q0; have z7 := pw_cell_below HB1.out q7) | ((with_reducible refine gate_builtin (b := .append) (xs := #[.tmp 32, .tmp 34]) rfl ?_); at_builtin; refine ap8 (w0 := w0) (b := w0.heap.size) rfl rfl rfl rfl HO1.out (Kd.C_below HR7.out HB1.out) HB1.out (HB1.out).size (by have h1 := HHL.out; have h2 := HBO.out; simp; omega) ?_; intro v9 w14 ho hb; have HO2 := Aside0.mk ho; have HB2 := Aside0.mk hb; clear ho hb; have zz0 := pw_cell_below HB2.out q0))
    go_ret
    exact ⟨_, rfl, by rw [HBY.out]; exact O8.lower HO2.out HB0.out.size, below_step HB0.out HB2.out⟩
  · obtain ⟨p4, hp4⟩ : ∃ p, flat 1 L = p := ⟨_, rfl⟩
    have HBY := Lib.hid (show bytesOf 2 s e i t c L bo = hd ++ [IntKind.u8.wrap i] ++ p4 by unfold bytesOf tailOf; rw [if_neg (by decide), if_pos rfl, HH2.out, hp4]; simp [enc, u8w])
    have HPR := Lib.hid (rputrow (W := 1) (l := L) (p := p4) HL.out (fa2 HMM.out) hp4)
    have HP4 := Lib.hid (show p4.length < 10000 by rw [← hp4, flat_length]; have := HL.out; simp; omega)
    clear hp4
    go_wp2_with ((with_reducible refine gate_builtin (b := .append) (xs := #[.tmp 39, .tmp 43]) rfl ?_); at_builtin; refine ap8 (w0 := w0) (b := w0.heap.size) (ys := [IntKind.u8.wrap i]) rfl rfl rfl rfl (O8.below HO.out (below_alloc (Below.refl _ _) _)) (Kd.C_lit8 (blk_new w12 _) [IntKind.u8.wrap i] (by simp) rfl) (below_alloc HBq.out _) ((below_alloc HBq.out _)).size (by have := HHL.out; simp; omega) ?_; intro v8 w13 ho hb; have HO1 := Aside0.mk ho; have HB1 := Aside0.mk hb; clear ho hb; have z0 := pw_cell_below HB1.out q0; have z6 := pw_cell_below HB1.out q6)
    refine (precentorref02_PutRow.calls (L.length + 10) A6 c6 L 1 p4 w13 (Kd.C_below HR6.out HB1.out) HC6.out HPR.out).mono ?_
    rintro e8 w15 ⟨v10, rfl, hr, hb⟩
    obtain ⟨A14, c14, rfl, hl4, hC4⟩ := Kd.R_reads hr
    have HC4 := Aside0.mk hC4
    have HO3 := Aside0.mk (O8.below HO1.out hb)
    have HB3 := Aside0.mk (below_step HB1.out hb)
    have zz0 := pw_cell_below HB3.out q0
    clear hr hb hl4 hC4
    go_wp2_with ((with_reducible refine gate_builtin (b := .append) (xs := #[.tmp 45, .tmp 48]) rfl ?_); at_builtin; refine ap8 (w0 := w0) (b := w0.heap.size) rfl rfl rfl rfl HO3.out HC4.out HB3.out (HB3.out).size (by have h1 := HHL.out; have h2 := HP4.out; simp; omega) ?_; intro v9 w16 ho hb; have HO4 := Aside0.mk ho; have HB4 := Aside0.mk hb; clear ho hb; have z9 := pw_cell_below HB4.out q0)
    go_ret
    exact ⟨_, rfl, by rw [HBY.out]; exact O8.lower HO4.out HB0.out.size, below_step HB0.out HB4.out⟩
  · have HBY := Lib.hid (show bytesOf 3 s e i t c L bo = hd by unfold bytesOf tailOf; rw [if_neg (by decide), if_neg (by decide), if_neg (by decide), if_neg (by decide), if_neg (by decide), HH2.out, List.append_nil])
    go_wp2_with fail
    go_ret
    exact ⟨_, rfl, by rw [HBY.out]; exact O8.lower HO.out HB0.out.size, below_step HB0.out HBq.out⟩
  · have HBY := Lib.hid (show bytesOf 4 s e i t c L bo = hd ++ [IntKind.u8.wrap i] by unfold bytesOf tailOf; rw [if_neg (by decide), if_neg (by decide), if_pos rfl, HH2.out]; simp [enc, u8w])
    go_wp2_with ((with_reducible refine gate_builtin (b := .append) (xs := #[.tmp 53, .tmp 57]) rfl ?_); at_builtin; refine ap8 (w0 := w0) (b := w0.heap.size) (ys := [IntKind.u8.wrap i]) rfl rfl rfl rfl (O8.below HO.out (below_alloc (Below.refl _ _) _)) (Kd.C_lit8 (blk_new w12 _) [IntKind.u8.wrap i] (by simp) rfl) (below_alloc HBq.out _) ((below_alloc HBq.out _)).size (by have := HHL.out; simp; omega) ?_; intro v8 w13 ho hb; have HO1 := Aside0.mk ho; have HB1 := Aside0.mk hb; clear ho hb; have z0 := pw_cell_below HB1.out q0)
    go_ret
    exact ⟨_, rfl, by rw [HBY.out]; exact O8.lower HO1.out HB0.out.size, below_step HB0.out HB1.out⟩
  · obtain ⟨p4, hp4⟩ : ∃ p, enc 8 c = p := ⟨_, rfl⟩
    have HBY := Lib.hid (show bytesOf 5 s e i t c L bo = hd ++ p4 by unfold bytesOf tailOf; rw [if_neg (by decide), if_neg (by decide), if_neg (by decide), if_pos rfl, HH2.out, hp4])
    have HPR := Lib.hid (show precentorref02_Put.f 20 c 8 = some p4 by rw [rput_is (by omega), ← hp4]; exact put8 (cc5 HMM.out))
    have HP4 := Lib.hid (show p4.length = 8 by rw [← hp4]; rfl)
    clear hp4
    go_wp2_with fail
    refine (precentorref02_Put.calls 20 c 8 p4 w12 HPR.out).mono ?_
    rintro e8 w15 ⟨v10, rfl, hr, hb⟩
    obtain ⟨A14, c14, rfl, hl4, hC4⟩ := Kd.R_reads hr
    have HC4 := Aside0.mk hC4
    have HO3 := Aside0.mk (O8.below HO.out hb)
    have HB3 := Aside0.mk (below_step HBq.out hb)
    clear hr hb hl4 hC4
    go_wp2_with ((with_reducible refine gate_builtin (b := .append) (xs := #[.tmp 62, .tmp 65]) rfl ?_); at_builtin; refine ap8 (w0 := w0) (b := w0.heap.size) rfl rfl rfl rfl HO3.out HC4.out HB3.out (HB3.out).size (by have := HHL.out; have := HP4.out; omega) ?_; intro v9 w16 ho hb; have HO4 := Aside0.mk ho; have HB4 := Aside0.mk hb; clear ho hb; have z9 := pw_cell_below HB4.out q0)
    go_ret
    exact ⟨_, rfl, by rw [HBY.out]; exact O8.lower HO4.out HB0.out.size, below_step HB0.out HB4.out⟩
  · obtain ⟨p4, hp4⟩ : ∃ p, flat 8 L = p := ⟨_, rfl⟩
    have HBY := Lib.hid (show bytesOf 6 s e i t c L bo = hd ++ p4 by unfold bytesOf tailOf; rw [if_neg (by decide), if_neg (by decide), if_neg (by decide), if_neg (by decide), if_pos rfl, HH2.out, hp4])
    have HPR := Lib.hid (rputrow (W := 8) (l := L) (p := p4) HL.out (fa6 HMM.out) hp4)
    have HP4 := Lib.hid (show p4.length < 80000 by rw [← hp4, flat_length]; have := HL.out; simp; omega)
    clear hp4
    go_wp2_with fail
    refine (precentorref02_PutRow.calls (L.length + 10) A6 c6 L 8 p4 w12 (Kd.C_below HR6.out HBq.out) HC6.out HPR.out).mono ?_
    rintro e8 w15 ⟨v10, rfl, hr, hb⟩
    obtain ⟨A14, c14, rfl, hl4, hC4⟩ := Kd.R_reads hr
    have HC4 := Aside0.mk hC4
    have HO3 := Aside0.mk (O8.below HO.out hb)
    have HB3 := Aside0.mk (below_step HBq.out hb)
    have zz0 := pw_cell_below HB3.out q0
    clear hr hb hl4 hC4
    go_wp2_with ((with_reducible refine gate_builtin (b := .append) (xs := #[.tmp 70, .tmp 73]) rfl ?_); at_builtin; refine ap8 (w0 := w0) (b := w0.heap.size) rfl rfl rfl rfl HO3.out HC4.out HB3.out (HB3.out).size (by have := HHL.out; have := HP4.out; omega) ?_; intro v9 w16 ho hb; have HO4 := Aside0.mk ho; have HB4 := Aside0.mk hb; clear ho hb; have z9 := pw_cell_below HB4.out q0)
    go_ret
    exact ⟨_, rfl, by rw [HBY.out]; exact O8.lower HO4.out HB0.out.size, below_step HB0.out HB4.out⟩
theorem precentorref03_Bytes.no (k s e i t c : Int) (A6 : Option Addr) (c6 : Nat) (L : List Int) (A7 : Option Addr) (c7 : Nat) (bo : List Int) (w : World) (hr6 : Kd.C (Kd.int .i64) w A6 L.length L) (hc6 : L.length ≤ c6) (hL : L.length < 10000) (hm : mayB k s e i t c L bo.length = false) :
    Calls Tryd.prog 21 #[.agg #[.int .i64 k, .int .i64 s, .int .i64 e, .int .i64 i, .int .i64 t, .int .i64 c, .slice A6 L.length c6, .slice A7 bo.length c7]] w (BytesPost w []) := by
  obtain ⟨w0, hw0, hB0, hs0, X0⟩ := boxed1 w (.int .i64 k) (.int .i64 s) (.int .i64 e) (.int .i64 i) (.int .i64 t) (.int .i64 c) (.slice A6 L.length c6) (.slice A7 bo.length c7)
  obtain ⟨⟨q0, q1, q2, q3, q4, q5, q6, q7⟩, _⟩ := cells8 X0
  have HB0 := Aside0.mk hB0
  have HMAY := Lib.hid (precentorref03_May.is k s e i t c A6 c6 L A7 c7 bo w0 (Kd.C_below hr6 hB0) hc6 hL false hm)
  clear X0 hB0 hr6 hm hc6 hs0
  go_enter Tryd.func21, Tryd.ntmps21
  go_wp2_with fail
  refine HMAY.out.mono ?_
  rintro e1 w1 ⟨rfl, hb⟩
  have HBq := Aside0.mk hb
  clear hb hw0
  go_wp2_with fail
  go_ret
  exact ⟨_, rfl, O8.nil _ _, below_step HB0.out HBq.out⟩
def precentorref03_Bytes.f (k s e i t c : Int) (L bo : List Int) : Option (List Int) :=
  if L.length < 10000 ∧ bo.length < 100000000 then some (if mayB k s e i t c L bo.length = true then bytesOf k s e i t c L bo else []) else none
theorem precentorref03_Bytes.is (k s e i t c : Int) (A6 : Option Addr) (c6 : Nat) (L : List Int) (A7 : Option Addr) (c7 : Nat) (bo : List Int) (w : World) (hr6 : Kd.C (Kd.int .i64) w A6 L.length L) (hc6 : L.length ≤ c6) (hr7 : Kd.C (Kd.int .u8) w A7 bo.length bo) (hc7 : bo.length ≤ c7) (hL : L.length < 10000) (hbo : bo.length < 100000000) :
    Calls Tryd.prog 21 #[.agg #[.int .i64 k, .int .i64 s, .int .i64 e, .int .i64 i, .int .i64 t, .int .i64 c, .slice A6 L.length c6, .slice A7 bo.length c7]] w (BytesPost w (if mayB k s e i t c L bo.length = true then bytesOf k s e i t c L bo else [])) := by
  cases hm : mayB k s e i t c L bo.length
  · rw [if_neg Bool.false_ne_true]; exact precentorref03_Bytes.no k s e i t c A6 c6 L A7 c7 bo w hr6 hc6 hL hm
  · rw [if_pos rfl]; exact precentorref03_Bytes.yes k s e i t c A6 c6 L A7 c7 bo w hr6 hc6 hr7 hc7 hL hbo hm
theorem precentorref03_Bytes.calls (a0_0 a0_1 a0_2 a0_3 a0_4 a0_5 : Int) (A0_6 : Option Addr) (c0_6 : Nat) (l0_6 : List Int) (A0_7 : Option Addr) (c0_7 : Nat) (l0_7 : List Int) (r : List Int) (w : World) (hr0_6 : Kd.C (Kd.int .i64) w A0_6 l0_6.length l0_6) (hc0_6 : l0_6.length ≤ c0_6) (hr0_7 : Kd.C (Kd.int .u8) w A0_7 l0_7.length l0_7) (hc0_7 : l0_7.length ≤ c0_7) (h : precentorref03_Bytes.f a0_0 a0_1 a0_2 a0_3 a0_4 a0_5 l0_6 l0_7 = some r) :
    Calls Tryd.prog 21 #[.agg #[.int .i64 a0_0, .int .i64 a0_1, .int .i64 a0_2, .int .i64 a0_3, .int .i64 a0_4, .int .i64 a0_5, .slice A0_6 l0_6.length c0_6, .slice A0_7 l0_7.length c0_7]] w fun e w' => ∃ v0_ : Value, e = .returned (v0_) ∧ Kd.R (Kd.int .u8) 5 w' w.heap.size (fun _ => True) v0_ r ∧ Below w.heap.size w w' := by
  unfold precentorref03_Bytes.f at h
  by_cases hc : l0_6.length < 10000 ∧ l0_7.length < 100000000
  · rw [if_pos hc] at h
    have h := Option.some.inj h
    subst h
    exact (precentorref03_Bytes.is a0_0 a0_1 a0_2 a0_3 a0_4 a0_5 A0_6 c0_6 l0_6 A0_7 c0_7 l0_7 w hr0_6 hc0_6 hr0_7 hc0_7 hc.1 hc.2).mono fun _ _ ⟨v, h1, h2, h3⟩ => ⟨v, h1, Kd.R_mono h2 (fun _ _ => trivial), h3⟩
  · rw [if_neg hc] at h; cases h
end Go.Proofs.YtieolhhokepkjaaDoor.Print
namespace Go.Proofs.YtieolhhokepkjaaDoor.Print
set_option linter.unusedVariables false
set_option linter.unusedSimpArgs false
open Go.RowKit Go.Proofs.YtieolhhokepkjaaDoorW.PrintWords Go.Proofs.YtieolhhokepkjaaDoorW.PrintLast Go.Proofs.YtieolhhokepkjaaDoorW.PrintMore Go.Proofs.YtieolhhokepkjaaDoor.NumPlain
theorem nilCr (k : Kd Int) (w : World) : Kd.C k w none 0 [] := by
  obtain ⟨A, c, h, _, hC⟩ := Kd.R_reads (Kd.R_nil k 0 w 0 (fun _ => True))
  obtain ⟨rfl, _, _⟩ := Value.slice.inj h
  exact hC
set_option maxRecDepth 100000 in
set_option maxHeartbeats 4000000 in
theorem precentorref04_May.is (K F k s e i t c : Int) (A8 : Option Addr) (c8 : Nat) (L : List Int) (A9 : Option Addr) (c9 : Nat) (bo : List Int) (T O M P : Int) (A14 : Option Addr) (c14 : Nat) (R : List Int) (w : World) (h8 : Kd.C (Kd.int .i64) w A8 L.length L) (l8 : L.length ≤ c8) (h9 : Kd.C (Kd.int .u8) w A9 bo.length bo) (l9 : bo.length ≤ c9) (h14 : Kd.C (Kd.int .i64) w A14 R.length R) (l14 : R.length ≤ c14) (hL : L.length < 10000) (hR : R.length < 10000) (q : Bool) (hq : mayP K F (mayB k s e i t c L bo.length) (bareB k s e i t c L bo) T O M P R = q) :
    Calls Tryd.prog 14 #[.agg #[.int .i64 K, .int .i64 F, .int .i64 k, .int .i64 s, .int .i64 e, .int .i64 i, .int .i64 t, .int .i64 c, .slice A8 L.length c8, .slice A9 bo.length c9, .int .i64 T, .int .i64 O, .int .i64 M, .int .i64 P, .slice A14 R.length c14]] w fun e' w' => e' = .returned (.bool q) ∧ Below w.heap.size w w' := by
  obtain ⟨w0, hw0, hB0, hs0, X0⟩ := boxed15 w (.int .i64 K) (.int .i64 F) (.int .i64 k) (.int .i64 s) (.int .i64 e) (.int .i64 i) (.int .i64 t) (.int .i64 c) (.slice A8 L.length c8) (.slice A9 bo.length c9) (.int .i64 T) (.int .i64 O) (.int .i64 M) (.int .i64 P) (.slice A14 R.length c14)
  have HB0 := Aside0.mk hB0
  have HX := Aside0.mk X0
  obtain ⟨⟨q0, q1, q2, q3, q4, q5, q6, q7, q8, q9, q10, q11, q12, q13, q14⟩, _⟩ := cells15 X0
  have HBA := Lib.hid (show Calls Tryd.prog 32 #[.agg #[.int .i64 k, .int .i64 s, .int .i64 e, .int .i64 i, .int .i64 t, .int .i64 c, .slice A8 L.length c8, .slice A9 bo.length c9], .agg #[.int .i64 0, .int .i64 0, .int .i64 0, .int .i64 0, .int .i64 0, .int .i64 0, .slice none 0 0, .slice none 0 0]] w0 _ from precentorref03_Same.calls k s e i t c A8 c8 L A9 c9 bo 0 0 0 0 0 0 none 0 [] none 0 [] (bareB k s e i t c L bo) w0 (Kd.C_below h8 hB0) l8 (Kd.C_below h9 hB0) l9 (nilCr _ _) (Nat.le_refl _) (nilCr _ _) (Nat.le_refl _) (if_pos hL))
  have HIT := Lib.hid (show ∀ W, Below w0.heap.size w0 W → Calls Tryd.prog 33 #[.agg #[.int .i64 k, .int .i64 s, .int .i64 e, .int .i64 i, .int .i64 t, .int .i64 c, .slice A8 L.length c8, .slice A9 bo.length c9]] W (fun e' w' => e' = .returned (.bool (mayB k s e i t c L bo.length)) ∧ Below W.heap.size W w') from fun W hb => precentorref03_May.calls k s e i t c A8 c8 L A9 c9 bo _ W (Kd.C_below (Kd.C_below h8 hB0) hb) l8 (Kd.C_below (Kd.C_below h9 hB0) hb) l9 (if_pos hL))
  have HR0 := Aside0.mk (Kd.C_below h14 hB0)
  have HRL := Lib.hid hR
  unfold mayP at hq
  generalize mayB k s e i t c L bo.length = it at *
  generalize bareB k s e i t c L bo = ba at *
  clear hB0 hs0 X0 h8 h9 h14 l8 l9 l14 hL hR
  go_enter Tryd.func14, Tryd.ntmps14
  go_wp2_with fail
  refine HBA.out.mono ?_
  rintro e1 w1 ⟨rfl, hb1⟩
  have y0 := pw_cell_below hb1 q0
  have y1 := pw_cell_below hb1 q1
  have y2 := pw_cell_below hb1 q2
  have y3 := pw_cell_below hb1 q3
  have y4 := pw_cell_below hb1 q4
  have y5 := pw_cell_below hb1 q5
  have y6 := pw_cell_below hb1 q6
  have y7 := pw_cell_below hb1 q7
  have y8 := pw_cell_below hb1 q8
  have y9 := pw_cell_below hb1 q9
  have y10 := pw_cell_below hb1 q10
  have y11 := pw_cell_below hb1 q11
  have y12 := pw_cell_below hb1 q12
  have y13 := pw_cell_below hb1 q13
  have y14 := pw_cell_below hb1 q14
  have HCT := Lib.hid (HIT.out w1 hb1)
  have HB1 := Aside0.mk hb1
  clear hb1 HBA HIT q0 q1 q2 q3 q4 q5 q6 q7 q8 q9 q10 q11 q12 q13 q14
  go_wp2_with fail
  refine HCT.out.mono ?_
  rintro e2 w2 ⟨rfl, hb2⟩
  have q0 := pw_cell_below hb2 y0
  have q1 := pw_cell_below hb2 y1
  have q10 := pw_cell_below hb2 y10
  have q11 := pw_cell_below hb2 y11
  have q12 := pw_cell_below hb2 y12
  have q13 := pw_cell_below hb2 y13
  have q14 := pw_cell_below hb2 y14
  have HB := Aside0.mk (below_step (below_step HB0.out HB1.out) hb2)
  have HR := Aside0.mk (Kd.C_below (Kd.C_below HR0.out HB1.out) hb2)
  clear hb2 HCT HB0 HB1 HR0 hw0 y0 y1 y2 y3 y4 y5 y6 y7 y8 y9 y10 y11 y12 y13 y14
  by_cases f0 : F < 0
  · rw [show wi F 0 63 = false from decide_eq_false (by omega), Bool.false_and] at hq
    subst hq
    have g0 : decide (F < 0) = true := decide_eq_true f0
    clear f0
    go_wp2_with fail
    go_ret
    exact ⟨rfl, HB.out⟩
  have g0 : decide (F < 0) = false := decide_eq_false f0
  by_cases f1 : F > 63
  · rw [show wi F 0 63 = false from decide_eq_false (by omega), Bool.false_and] at hq
    subst hq
    have g1 : decide (F > 63) = true := decide_eq_true f1
    have g2 : decide (63 < F) = true := decide_eq_true f1
    clear f0 f1
    go_wp2_with fail
    go_ret
    exact ⟨rfl, HB.out⟩
  have g1 : decide (F > 63) = false := decide_eq_false f1
  have g2 : decide (63 < F) = false := decide_eq_false f1
  rw [show wi F 0 63 = true from decide_eq_true (by omega), Bool.true_and] at hq
  clear f0 f1
  by_cases k12 : K = 1 ∨ K = 2
  · rw [if_pos k12] at hq
    have kk : (K == 1) = true ∨ ((K == 1) = false ∧ (K == 2) = true) := by rcases k12 with rfl | rfl; exact Or.inl rfl; exact Or.inr ⟨rfl, rfl⟩
    clear HR k12
    rcases kk with k1 | ⟨k1, k2⟩
    · cases it
      · rw [Bool.false_and] at hq; subst hq
        go_wp2_with fail
        go_ret
        exact ⟨rfl, HB.out⟩
      rw [Bool.true_and] at hq
      by_cases a0 : T = 0
      rotate_left
      · rw [decide_eq_false a0] at hq
        have b0 : (T == 0) = false := beq_eq_false_iff_ne.2 a0
        clear a0
        rw [Bool.false_and] at hq; subst hq
        go_wp2_with fail
        go_ret
        exact ⟨rfl, HB.out⟩
      rw [decide_eq_true a0, Bool.true_and] at hq
      subst a0
      by_cases a1 : O = 0
      rotate_left
      · rw [decide_eq_false a1] at hq
        have b1 : (O == 0) = false := beq_eq_false_iff_ne.2 a1
        clear a1
        rw [Bool.false_and] at hq; subst hq
        go_wp2_with fail
        go_ret
        exact ⟨rfl, HB.out⟩
      rw [decide_eq_true a1, Bool.true_and] at hq
      subst a1
      by_cases a2 : M = 0
      rotate_left
      · rw [decide_eq_false a2] at hq
        have b2 : (M == 0) = false := beq_eq_false_iff_ne.2 a2
        clear a2
        rw [Bool.false_and] at hq; subst hq
        go_wp2_with fail
        go_ret
        exact ⟨rfl, HB.out⟩
      rw [decide_eq_true a2, Bool.true_and] at hq
      subst a2
      by_cases a3 : P = 0
      rotate_left
      · rw [decide_eq_false a3] at hq
        have b3 : (P == 0) = false := beq_eq_false_iff_ne.2 a3
        clear a3
        rw [Bool.false_and] at hq; subst hq
        go_wp2_with fail
        go_ret
        exact ⟨rfl, HB.out⟩
      rw [decide_eq_true a3, Bool.true_and] at hq
      subst a3
      have b4 : ((R.length : Int) == 0) = q := by rw [← hq, len0]
      have b5 : (R.length == 0) = q := by rw [← hq]; rfl
      clear hq
      go_wp2_with fail
      go_ret
      exact ⟨rfl, HB.out⟩
    · cases it
      · rw [Bool.false_and] at hq; subst hq
        go_wp2_with fail
        go_ret
        exact ⟨rfl, HB.out⟩
      rw [Bool.true_and] at hq
      by_cases a0 : T = 0
      rotate_left
      · rw [decide_eq_false a0] at hq
        have b0 : (T == 0) = false := beq_eq_false_iff_ne.2 a0
        clear a0
        rw [Bool.false_and] at hq; subst hq
        go_wp2_with fail
        go_ret
        exact ⟨rfl, HB.out⟩
      rw [decide_eq_true a0, Bool.true_and] at hq
      subst a0
      by_cases a1 : O = 0
      rotate_left
      · rw [decide_eq_false a1] at hq
        have b1 : (O == 0) = false := beq_eq_false_iff_ne.2 a1
        clear a1
        rw [Bool.false_and] at hq; subst hq
        go_wp2_with fail
        go_ret
        exact ⟨rfl, HB.out⟩
      rw [decide_eq_true a1, Bool.true_and] at hq
      subst a1
      by_cases a2 : M = 0
      rotate_left
      · rw [decide_eq_false a2] at hq
        have b2 : (M == 0) = false := beq_eq_false_iff_ne.2 a2
        clear a2
        rw [Bool.false_and] at hq; subst hq
        go_wp2_with fail
        go_ret
        exact ⟨rfl, HB.out⟩
      rw [decide_eq_true a2, Bool.true_and] at hq
      subst a2
      by_cases a3 : P = 0
      rotate_left
      · rw [decide_eq_false a3] at hq
        have b3 : (P == 0) = false := beq_eq_false_iff_ne.2 a3
        clear a3
        rw [Bool.false_and] at hq; subst hq
        go_wp2_with fail
        go_ret
        exact ⟨rfl, HB.out⟩
      rw [decide_eq_true a3, Bool.true_and] at hq
      subst a3
      have b4 : ((R.length : Int) == 0) = q := by rw [← hq, len0]
      have b5 : (R.length == 0) = q := by rw [← hq]; rfl
      clear hq
      go_wp2_with fail
      go_ret
      exact ⟨rfl, HB.out⟩
  rw [if_neg k12] at hq
  have k1 : (K == 1) = false := beq_eq_false_iff_ne.2 (fun h => k12 (Or.inl h))
  have k2 : (K == 2) = false := beq_eq_false_iff_ne.2 (fun h => k12 (Or.inr h))
  clear k12
  by_cases k3 : K = 3
  · rw [if_pos k3] at hq
    subst k3
    clear HR
    cases ba
    · rw [Bool.false_and] at hq; subst hq
      go_wp2_with fail
      go_ret
      exact ⟨rfl, HB.out⟩
    rw [Bool.true_and] at hq
    by_cases c1 : 0 ≤ T
    rotate_left
    · rw [show wi T 0 63 = false from decide_eq_false (by omega), Bool.false_and] at hq
      subst hq
      have d1 : decide (T ≥ 0) = false := decide_eq_false c1
      have d1' : decide (0 ≤ T) = false := decide_eq_false c1
      clear c1
      go_wp2_with fail
      go_ret
      exact ⟨rfl, HB.out⟩
    have d1 : decide (T ≥ 0) = true := decide_eq_true c1
    have d1' : decide (0 ≤ T) = true := decide_eq_true c1
    by_cases e1 : T ≤ 63
    rotate_left
    · rw [show wi T 0 63 = false from decide_eq_false (by omega), Bool.false_and] at hq
      subst hq
      have i1 : decide (T ≤ 63) = false := decide_eq_false e1
      clear c1 e1
      go_wp2_with fail
      go_ret
      exact ⟨rfl, HB.out⟩
    have i1 : decide (T ≤ 63) = true := decide_eq_true e1
    rw [show wi T 0 63 = true from decide_eq_true ⟨c1, e1⟩, Bool.true_and] at hq
    clear c1 e1
    by_cases c2 : 1 ≤ O
    rotate_left
    · rw [show wi O 1 4611686018427387904 = false from decide_eq_false (by omega), Bool.false_and] at hq
      subst hq
      have d2 : decide (O ≥ 1) = false := decide_eq_false c2
      have d2' : decide (1 ≤ O) = false := decide_eq_false c2
      clear c2
      go_wp2_with fail
      go_ret
      exact ⟨rfl, HB.out⟩
    have d2 : decide (O ≥ 1) = true := decide_eq_true c2
    have d2' : decide (1 ≤ O) = true := decide_eq_true c2
    by_cases e2 : O ≤ 4611686018427387904
    rotate_left
    · rw [show wi O 1 4611686018427387904 = false from decide_eq_false (by omega), Bool.false_and] at hq
      subst hq
      have i2 : decide (O ≤ 4611686018427387904) = false := decide_eq_false e2
      clear c2 e2
      go_wp2_with fail
      go_ret
      exact ⟨rfl, HB.out⟩
    have i2 : decide (O ≤ 4611686018427387904) = true := decide_eq_true e2
    rw [show wi O 1 4611686018427387904 = true from decide_eq_true ⟨c2, e2⟩, Bool.true_and] at hq
    clear c2 e2
    by_cases c3 : 1 ≤ M
    rotate_left
    · rw [show wi M 1 64 = false from decide_eq_false (by omega), Bool.false_and] at hq
      subst hq
      have d3 : decide (M ≥ 1) = false := decide_eq_false c3
      have d3' : decide (1 ≤ M) = false := decide_eq_false c3
      clear c3
      go_wp2_with fail
      go_ret
      exact ⟨rfl, HB.out⟩
    have d3 : decide (M ≥ 1) = true := decide_eq_true c3
    have d3' : decide (1 ≤ M) = true := decide_eq_true c3
    by_cases e3 : M ≤ 64
    rotate_left
    · rw [show wi M 1 64 = false from decide_eq_false (by omega), Bool.false_and] at hq
      subst hq
      have i3 : decide (M ≤ 64) = false := decide_eq_false e3
      clear c3 e3
      go_wp2_with fail
      go_ret
      exact ⟨rfl, HB.out⟩
    have i3 : decide (M ≤ 64) = true := decide_eq_true e3
    rw [show wi M 1 64 = true from decide_eq_true ⟨c3, e3⟩, Bool.true_and] at hq
    clear c3 e3
    by_cases a0 : P = 0
    rotate_left
    · rw [decide_eq_false a0] at hq
      have b0 : (P == 0) = false := beq_eq_false_iff_ne.2 a0
      clear a0
      rw [Bool.false_and] at hq; subst hq
      go_wp2_with fail
      go_ret
      exact ⟨rfl, HB.out⟩
    rw [decide_eq_true a0, Bool.true_and] at hq
    subst a0
    have b4 : ((R.length : Int) == 0) = q := by rw [← hq, len0]
    have b5 : (R.length == 0) = q := by rw [← hq]; rfl
    clear hq
    go_wp2_with fail
    go_ret
    exact ⟨rfl, HB.out⟩
  rw [if_neg k3] at hq
  by_cases k4 : K = 4
  rotate_left
  · rw [if_neg k4] at hq
    subst hq
    have k3 : (K == 3) = false := beq_eq_false_iff_ne.2 k3
    have k4 : (K == 4) = false := beq_eq_false_iff_ne.2 k4
    clear HR
    go_wp2_with fail
    go_ret
    exact ⟨rfl, HB.out⟩
  rw [if_pos k4] at hq
  subst k4
  have hm0 : R.length ≤ 9223372036854775807 := by have := HRL.out; omega
  have HQ := Lib.hid hq
  clear hq
  go_wp2_with fail
  go_loop [5] (fun i => ∃ n : Nat, n ≤ R.length ∧ i = Value.int .i64 n ∧ Aside0 (∀ j : Nat, j < n → wi (rd R (j : Int)) 0 4611686018427387904 = true)) (fun i => R.length - (intOf i).toNat)
  case atStart => exact ⟨0, Nat.zero_le _, rfl, ⟨fun j hj => by omega⟩⟩
  case round =>
    obtain ⟨n, hn, rfl, HA⟩ := hrel
    by_cases hlt : n < R.length
    · obtain ⟨ad, rfl, hc⟩ := Kd.at_int HR.out (n : Int) (by omega) (by omega)
      rw [Int.toNat_natCast] at hc
      by_cases hx : wi (rd R (n : Int)) 0 4611686018427387904 = false
      · have h0 := HQ.out
        rw [each_bad hlt hx, Bool.false_and] at h0
        subst h0
        unfold wi at hx
        have hx := of_decide_eq_false hx
        clear HQ HA
        generalize rd R (n : Int) = x at *
        by_cases x0 : x < 0
        · have d0 : decide (x < 0) = true := decide_eq_true x0
          clear hx x0
          go_wp2_with fail
          go_ret
          exact ⟨rfl, HB.out⟩
        · have d0 : decide (x < 0) = false := decide_eq_false x0
          have d1 : decide (x > 4611686018427387904) = true := decide_eq_true (by omega)
          have d2 : decide (4611686018427387904 < x) = true := decide_eq_true (by omega)
          clear hx x0
          go_wp2_with fail
          go_ret
          exact ⟨rfl, HB.out⟩
      · have hx : wi (rd R (n : Int)) 0 4611686018427387904 = true := by simpa using hx
        have HA2 := Aside0.mk (show ∀ j : Nat, j < n + 1 → wi (rd R (j : Int)) 0 4611686018427387904 = true from fun j hj => by
          rcases Nat.lt_succ_iff_lt_or_eq.1 hj with h | rfl
          · exact HA.out j h
          · exact hx)
        unfold wi at hx
        have hx := of_decide_eq_true hx
        clear HA
        generalize rd R (n : Int) = x at *
        have d0 : decide (x < 0) = false := decide_eq_false (by omega)
        have d1 : decide (x > 4611686018427387904) = false := decide_eq_false (by omega)
        have d2 : decide (4611686018427387904 < x) = false := decide_eq_false (by omega)
        clear hx
        go_wp2_with fail
        go_round
        case rel => exact ⟨n + 1, by omega, by go_num, HA2⟩
        case measure => simp [intOf]; omega
    · obtain rfl : n = R.length := by omega
      have hq := HQ.out
      rw [each_good HA.out, Bool.true_and] at hq
      clear HQ HA HR
      cases ba
      · rw [Bool.false_and] at hq; subst hq
        go_wp2_with fail
        go_ret
        exact ⟨rfl, HB.out⟩
      rw [Bool.true_and] at hq
      by_cases a0 : T = 0
      rotate_left
      · rw [decide_eq_false a0] at hq
        have b0 : (T == 0) = false := beq_eq_false_iff_ne.2 a0
        clear a0
        rw [Bool.false_and] at hq; subst hq
        go_wp2_with fail
        go_ret
        exact ⟨rfl, HB.out⟩
      rw [decide_eq_true a0, Bool.true_and] at hq
      subst a0
      by_cases a1 : O = 0
      rotate_left
      · rw [decide_eq_false a1] at hq
        have b1 : (O == 0) = false := beq_eq_false_iff_ne.2 a1
        clear a1
        rw [Bool.false_and] at hq; subst hq
        go_wp2_with fail
        go_ret
        exact ⟨rfl, HB.out⟩
      rw [decide_eq_true a1, Bool.true_and] at hq
      subst a1
      by_cases a2 : M = 0
      rotate_left
      · rw [decide_eq_false a2] at hq
        have b2 : (M == 0) = false := beq_eq_false_iff_ne.2 a2
        clear a2
        rw [Bool.false_and] at hq; subst hq
        go_wp2_with fail
        go_ret
        exact ⟨rfl, HB.out⟩
      rw [decide_eq_true a2, Bool.true_and] at hq
      subst a2
      by_cases c1 : 0 ≤ P
      rotate_left
      · rw [show wi P 0 4611686018427387904 = false from decide_eq_false (by omega), Bool.false_and] at hq
        subst hq
        have d1 : decide (P ≥ 0) = false := decide_eq_false c1
        have d1' : decide (0 ≤ P) = false := decide_eq_false c1
        clear c1
        go_wp2_with fail
        go_ret
        exact ⟨rfl, HB.out⟩
      have d1 : decide (P ≥ 0) = true := decide_eq_true c1
      have d1' : decide (0 ≤ P) = true := decide_eq_true c1
      by_cases e1 : P ≤ 4611686018427387904
      rotate_left
      · rw [show wi P 0 4611686018427387904 = false from decide_eq_false (by omega), Bool.false_and] at hq
        subst hq
        have i1 : decide (P ≤ 4611686018427387904) = false := decide_eq_false e1
        clear c1 e1
        go_wp2_with fail
        go_ret
        exact ⟨rfl, HB.out⟩
      have i1 : decide (P ≤ 4611686018427387904) = true := decide_eq_true e1
      rw [show wi P 0 4611686018427387904 = true from decide_eq_true ⟨c1, e1⟩, Bool.true_and] at hq
      clear c1 e1
      by_cases r2 : 2 ≤ R.length
      rotate_left
      · rw [show wi (R.length : Int) 2 64 = false from decide_eq_false (by omega)] at hq
        subst hq
        have s1 : decide ((R.length : Int) ≥ 2) = false := decide_eq_false (by omega)
        have s2 : decide (2 ≤ R.length) = false := decide_eq_false r2
        have s3 : decide (R.length ≥ 2) = false := decide_eq_false r2
        have s4 : decide ((2 : Int) ≤ (R.length : Int)) = false := decide_eq_false (by omega)
        clear r2 hn hlt
        go_wp2_with fail
        go_ret
        exact ⟨rfl, HB.out⟩
      have s1 : decide ((R.length : Int) ≥ 2) = true := decide_eq_true (by omega)
      have s2 : decide (2 ≤ R.length) = true := decide_eq_true r2
      have s3 : decide (R.length ≥ 2) = true := decide_eq_true r2
      have s4 : decide ((2 : Int) ≤ (R.length : Int)) = true := decide_eq_true (by omega)
      have s5 : decide ((R.length : Int) ≤ 64) = q := by rw [← hq]; exact decide_eq_decide.2 (by omega)
      have s6 : decide (R.length ≤ 64) = q := by rw [← hq]; exact decide_eq_decide.2 (by omega)
      clear r2 hn hlt hq
      go_wp2_with fail
      go_ret
      exact ⟨rfl, HB.out⟩
def precentorref04_May.f (n : Nat) (K F k s e i t c : Int) (L bo : List Int) (T O M P : Int) (R : List Int) : Option Bool := if L.length < 10000 ∧ R.length < 10000 then some (mayP K F (mayB k s e i t c L bo.length) (bareB k s e i t c L bo) T O M P R) else none
theorem precentorref04_May.calls (n : Nat) (K F k s e i t c : Int) (A8 : Option Addr) (c8 : Nat) (L : List Int) (A9 : Option Addr) (c9 : Nat) (bo : List Int) (T O M P : Int) (A14 : Option Addr) (c14 : Nat) (R : List Int) (r : Bool) (w : World) (h8 : Kd.C (Kd.int .i64) w A8 L.length L) (l8 : L.length ≤ c8) (h9 : Kd.C (Kd.int .u8) w A9 bo.length bo) (l9 : bo.length ≤ c9) (h14 : Kd.C (Kd.int .i64) w A14 R.length R) (l14 : R.length ≤ c14) (h : precentorref04_May.f n K F k s e i t c L bo T O M P R = some r) :
    Calls Tryd.prog 14 #[.agg #[.int .i64 K, .int .i64 F, .int .i64 k, .int .i64 s, .int .i64 e, .int .i64 i, .int .i64 t, .int .i64 c, .slice A8 L.length c8, .slice A9 bo.length c9, .int .i64 T, .int .i64 O, .int .i64 M, .int .i64 P, .slice A14 R.length c14]] w fun e' w' => e' = .returned (.bool r) ∧ Below w.heap.size w w' := by
  unfold precentorref04_May.f at h
  split at h
  · rename_i hc
    exact precentorref04_May.is K F k s e i t c A8 c8 L A9 c9 bo T O M P A14 c14 R w h8 l8 h9 l9 h14 l14 hc.1 hc.2 r (Option.some.inj h)
  · cases h
theorem rmayP_is (K F k s e i t c : Int) (L bo : List Int) (T O M P : Int) (R : List Int) (hL : L.length < 10000) (hR : R.length < 10000) (n : Nat) (hn : 10010 ≤ n) :
    precentorref04_May.f n K F k s e i t c L bo T O M P R = some (mayP K F (mayB k s e i t c L bo.length) (bareB k s e i t c L bo) T O M P R) := if_pos ⟨hL, hR⟩
theorem precentorref04_May.mono : ∀ K F k s e i t c L bo T O M P R n, LeO (precentorref04_May.f n K F k s e i t c L bo T O M P R) (precentorref04_May.f (n + 1) K F k s e i t c L bo T O M P R) := fun _ _ _ _ _ _ _ _ _ _ _ _ _ _ _ _ => fun _ h => h

end Go.Proofs.YtieolhhokepkjaaDoor.Print
namespace Go.Proofs.YtieolhhokepkjaaDoor.Print
open Go.RowKit Go.Proofs.YtieolhhokepkjaaDoorW.PrintWords Go.Proofs.YtieolhhokepkjaaDoorW.PrintLast Go.Proofs.YtieolhhokepkjaaDoorW.PrintMore
attribute [local go_sem] max2_int min2_int max_two min_two max_three min_three max_four min_four   -- for this text's walks alone
set_option linter.unusedVariables false
set_option linter.unusedSimpArgs false

/-! ### precentorlaw04_PktLengths: function 7 -/
def precentorlaw04_PktLengths.j0 : Nat → Bool → Bool → Int → Int → Int → Int → Int → Int → Int → Int → List Int → List Int → Int → Int → Int → Int → List Int → Option (Bool)
  | 0, _, _, _, _, _, _, _, _, _, _, _, _, _, _, _, _, _ => none
  | k + 1, x3, x13, x448000, x448001, x448002, x448003, x448004, x448005, x448006, x448007, x448008, x448009, x448010, x448011, x448012, x448013, x448014 => if x13 = true then (some x3) else ((pkt_Bytes.f x448000 x448001 x448002 x448003 x448004 x448005 x448006 x448007 x448008 x448009 x448010 x448011 x448012 x448013 x448014).bind fun t451 => (if x448000 = 3 then (if x3 = true then (some ((t451.length : Int) == 17)) else (none)) else (if x448000 = 4 then (if x3 = true then (some ((t451.length : Int) == (wrap64 (15 + (wrap64 (8 * (x448014.length : Int))))))) else (none)) else (if x3 = true then ((precentorref03_Bytes.f x448002 x448003 x448004 x448005 x448006 x448007 x448008 x448009).bind fun t454 => (some ((t451.length : Int) == (wrap64 (7 + (t454.length : Int)))))) else (none)))))
def precentorlaw04_PktLengths.f (k : Nat) (a0_0 : Int) (a0_1 : Int) (a0_2 : Int) (a0_3 : Int) (a0_4 : Int) (a0_5 : Int) (a0_6 : Int) (a0_7 : Int) (l0_8 : List Int) (l0_9 : List Int) (a0_10 : Int) (a0_11 : Int) (a0_12 : Int) (a0_13 : Int) (l0_14 : List Int) : Option (Bool) := (precentorlaw04_shown.f).bind fun t448 => ((precentorref04_Few.f a0_0 a0_1 a0_2 a0_3 a0_4 a0_5 a0_6 a0_7 l0_8 l0_9 a0_10 a0_11 a0_12 a0_13 l0_14).bind fun t449 => (if t449 = true then ((precentorref04_May.f k a0_0 a0_1 a0_2 a0_3 a0_4 a0_5 a0_6 a0_7 l0_8 l0_9 a0_10 a0_11 a0_12 a0_13 l0_14).bind fun t450 => (precentorlaw04_PktLengths.j0 k t448 (!t450) a0_0 a0_1 a0_2 a0_3 a0_4 a0_5 a0_6 a0_7 l0_8 l0_9 a0_10 a0_11 a0_12 a0_13 l0_14)) else (precentorlaw04_PktLengths.j0 k t448 true a0_0 a0_1 a0_2 a0_3 a0_4 a0_5 a0_6 a0_7 l0_8 l0_9 a0_10 a0_11 a0_12 a0_13 l0_14)))
theorem precentorlaw04_PktLengths.mono_l : ∀ k, (∀ y0 y1 y2 y3 y4 y5 y6 y7 y8 y9 y10 y11 y12 y13 y14 y15 y16, LeO (precentorlaw04_PktLengths.j0 k y0 y1 y2 y3 y4 y5 y6 y7 y8 y9 y10 y11 y12 y13 y14 y15 y16) (precentorlaw04_PktLengths.j0 (k + 1) y0 y1 y2 y3 y4 y5 y6 y7 y8 y9 y10 y11 y12 y13 y14 y15 y16))
  | 0 => fun _ _ _ _ _ _ _ _ _ _ _ _ _ _ _ _ _ r h => by simp [precentorlaw04_PktLengths.j0] at h
  | k + 1 => by
    have ih0 := precentorlaw04_PktLengths.mono_l k
    · intro y0 y1 y2 y3 y4 y5 y6 y7 y8 y9 y10 y11 y12 y13 y14 y15 y16
      unfold precentorlaw04_PktLengths.j0
      repeat' first
      | (with_reducible exact ih0 _ _ _ _ _ _ _ _ _ _ _ _ _ _ _ _ _)
      | (with_reducible exact precentorref04_May.mono _ _ _ _ _ _ _ _ _ _ _ _ _ _ _ _)
      | (with_reducible exact LeO.refl _)
      | (with_reducible exact LeO.none _)
      | (with_reducible refine LeO.ite ?_ ?_)
      | (with_reducible refine LeO.bind ?_ (fun _ => ?_))
      | exact ih0 _ _ _ _ _ _ _ _ _ _ _ _ _ _ _ _ _
      | exact precentorref04_May.mono _ _ _ _ _ _ _ _ _ _ _ _ _ _ _ _
      | exact LeO.none _
      | refine LeO.ite ?_ ?_
      | refine LeO.bind ?_ (fun _ => ?_)
theorem precentorlaw04_PktLengths.mono : ∀ a0 a1 a2 a3 a4 a5 a6 a7 a8 a9 a10 a11 a12 a13 a14 k, LeO (precentorlaw04_PktLengths.f k a0 a1 a2 a3 a4 a5 a6 a7 a8 a9 a10 a11 a12 a13 a14) (precentorlaw04_PktLengths.f (k + 1) a0 a1 a2 a3 a4 a5 a6 a7 a8 a9 a10 a11 a12 a13 a14) := by
  intro a0 a1 a2 a3 a4 a5 a6 a7 a8 a9 a10 a11 a12 a13 a14 k
  have ih0 := precentorlaw04_PktLengths.mono_l k
  unfold precentorlaw04_PktLengths.f
  repeat' first
      | (with_reducible exact ih0 _ _ _ _ _ _ _ _ _ _ _ _ _ _ _ _ _)
      | (with_reducible exact precentorref04_May.mono _ _ _ _ _ _ _ _ _ _ _ _ _ _ _ _)
      | (with_reducible exact LeO.refl _)
      | (with_reducible exact LeO.none _)
      | (with_reducible refine LeO.ite ?_ ?_)
      | (with_reducible refine LeO.bind ?_ (fun _ => ?_))
      | exact ih0 _ _ _ _ _ _ _ _ _ _ _ _ _ _ _ _ _
      | exact precentorref04_May.mono _ _ _ _ _ _ _ _ _ _ _ _ _ _ _ _
      | exact LeO.none _
      | refine LeO.ite ?_ ?_
      | refine LeO.bind ?_ (fun _ => ?_)
set_option maxHeartbeats 8000000 in
set_option maxRecDepth 100000 in
theorem precentorlaw04_PktLengths.calls (k : Nat) (a0_0 : Int) (a0_1 : Int) (a0_2 : Int) (a0_3 : Int) (a0_4 : Int) (a0_5 : Int) (a0_6 : Int) (a0_7 : Int) (A0_8 : Option Addr) (c0_8 : Nat) (l0_8 : List Int) (A0_9 : Option Addr) (c0_9 : Nat) (l0_9 : List Int) (a0_10 : Int) (a0_11 : Int) (a0_12 : Int) (a0_13 : Int) (A0_14 : Option Addr) (c0_14 : Nat) (l0_14 : List Int) (r : Bool) (w : World) (hr0_8 : Kd.C (Kd.int .i64) w A0_8 l0_8.length l0_8) (hc0_8 : l0_8.length ≤ c0_8) (hr0_9 : Kd.C (Kd.int .u8) w A0_9 l0_9.length l0_9) (hc0_9 : l0_9.length ≤ c0_9) (hr0_14 : Kd.C (Kd.int .i64) w A0_14 l0_14.length l0_14) (hc0_14 : l0_14.length ≤ c0_14) (hG : GB w) (h : precentorlaw04_PktLengths.f k a0_0 a0_1 a0_2 a0_3 a0_4 a0_5 a0_6 a0_7 l0_8 l0_9 a0_10 a0_11 a0_12 a0_13 l0_14 = some r) :
    Calls Tryd.prog 7 #[.agg #[.int .i64 a0_0, .int .i64 a0_1, .int .i64 a0_2, .int .i64 a0_3, .int .i64 a0_4, .int .i64 a0_5, .int .i64 a0_6, .int .i64 a0_7, .slice A0_8 l0_8.length c0_8, .slice A0_9 l0_9.length c0_9, .int .i64 a0_10, .int .i64 a0_11, .int .i64 a0_12, .int .i64 a0_13, .slice A0_14 l0_14.length c0_14]] w fun e w' => e = .returned (.bool r) ∧ Below w.heap.size w w' := by
  have hu27 := Tryd.underlying27
  have hu25 := Tryd.underlying25
  have HR0_8 := Aside0.mk hr0_8
  have HC0_8 := Aside0.mk hc0_8
  clear hr0_8 hc0_8
  have HR0_9 := Aside0.mk hr0_9
  have HC0_9 := Aside0.mk hc0_9
  clear hr0_9 hc0_9
  have HR0_14 := Aside0.mk hr0_14
  have HC0_14 := Aside0.mk hc0_14
  clear hr0_14 hc0_14
  have HB := Aside0.mk (Below.refl w.heap.size w)
  have H : ((precentorlaw04_shown.f).bind fun t448 => ((precentorref04_Few.f a0_0 a0_1 a0_2 a0_3 a0_4 a0_5 a0_6 a0_7 l0_8 l0_9 a0_10 a0_11 a0_12 a0_13 l0_14).bind fun t449 => (if t449 = true then ((precentorref04_May.f k a0_0 a0_1 a0_2 a0_3 a0_4 a0_5 a0_6 a0_7 l0_8 l0_9 a0_10 a0_11 a0_12 a0_13 l0_14).bind fun t450 => (precentorlaw04_PktLengths.j0 k t448 (!t450) a0_0 a0_1 a0_2 a0_3 a0_4 a0_5 a0_6 a0_7 l0_8 l0_9 a0_10 a0_11 a0_12 a0_13 l0_14)) else (precentorlaw04_PktLengths.j0 k t448 true a0_0 a0_1 a0_2 a0_3 a0_4 a0_5 a0_6 a0_7 l0_8 l0_9 a0_10 a0_11 a0_12 a0_13 l0_14)))) = some r := h
  clear h
  replace H := Option.bind_eq_some_iff.mp H
  obtain ⟨t448, A20, H⟩ := H
  replace H : ((precentorref04_Few.f a0_0 a0_1 a0_2 a0_3 a0_4 a0_5 a0_6 a0_7 l0_8 l0_9 a0_10 a0_11 a0_12 a0_13 l0_14).bind fun t449 => (if t449 = true then ((precentorref04_May.f k a0_0 a0_1 a0_2 a0_3 a0_4 a0_5 a0_6 a0_7 l0_8 l0_9 a0_10 a0_11 a0_12 a0_13 l0_14).bind fun t450 => (precentorlaw04_PktLengths.j0 k t448 (!t450) a0_0 a0_1 a0_2 a0_3 a0_4 a0_5 a0_6 a0_7 l0_8 l0_9 a0_10 a0_11 a0_12 a0_13 l0_14)) else (precentorlaw04_PktLengths.j0 k t448 true a0_0 a0_1 a0_2 a0_3 a0_4 a0_5 a0_6 a0_7 l0_8 l0_9 a0_10 a0_11 a0_12 a0_13 l0_14))) = some r := H
  have A2 := Aside0.mk A20
  clear A20
  have HC3 := Aside0.mk H
  clear H
  go_enter Tryd.func7, Tryd.ntmps7
  go_upto_region 2 with (first | ((with_reducible refine gate_dst (N := 1) rfl ?_); (try (refine gate_guard (by rfl) ?_; dsimp only)); refine box_event ?hg (N := 1) ?hd (cs := #[.int .i64 a0_0, .int .i64 a0_1, .int .i64 a0_2, .int .i64 a0_3, .int .i64 a0_4, .int .i64 a0_5, .int .i64 a0_6, .int .i64 a0_7, .slice A0_8 l0_8.length c0_8, .slice A0_9 l0_9.length c0_9, .int .i64 a0_10, .int .i64 a0_11, .int .i64 a0_12, .int .i64 a0_13, .slice A0_14 l0_14.length c0_14]) (t := 27) ?hr ?_; (case hd => rfl); (case hg => rfl); (case hr => first | (go_simp; done) | (go_simp; rfl)); intro gb447 hg w4 hbox hb; have n0_ := Aside0.mk (below_step (by repeat (first | (with_reducible first | exact HB.out | apply below_alloc | apply pw_below_drewN | apply below_drew1) | exact HB.out)) hb); have n1_ := Aside0.mk (hbox); have n2_ := Aside0.mk ((by rw [hg]; exact (below_size (by repeat (first | (with_reducible first | exact HB.out | apply below_alloc | apply pw_below_drewN | apply below_drew1) | exact HB.out))) : w.heap.size ≤ gb447)); have n3_ := Aside0.mk ((by rw [hg]; exact (below_size (by repeat (first | (with_reducible first | exact HB.out | apply below_alloc | apply pw_below_drewN | apply below_drew1) | exact HB.out))) : w.heap.size ≤ gb447)); clear HB; have HB := n0_; have BK447 := n1_; have GW447 := n2_; have GE447 := n3_; clear n0_ n1_ n2_ n3_; clear hb hbox hg) | ((with_reducible refine gate_callee (f := 9) rfl ?_); refine goesL_ (some 5) rfl rfl Tryd.func9 (by kernel_rfl) rfl #[] rfl (by (try simp only [List.map_toArray, List.map_cons, List.map_nil]); first | done | rfl | (simp only [List.length_drop, List.length_take]; rfl)) ?_; (with_reducible refine (precentorlaw04_shown.calls  t448 _ ?side1 A2.out).mono ?_); (case side1 => exact GB.below hG (by repeat (first | (with_reducible first | exact HB.out | apply below_alloc | apply pw_below_drewN | apply below_drew1 | refine below_set ?_ GE447.out) | exact HB.out))); rintro e w5 ⟨rfl, hb⟩; refine ⟨_, rfl, ?_⟩; have n0_ := Aside0.mk (blk_below (g := gb447) (o := .cells #[.int .i64 a0_0, .int .i64 a0_1, .int .i64 a0_2, .int .i64 a0_3, .int .i64 a0_4, .int .i64 a0_5, .int .i64 a0_6, .int .i64 a0_7, .slice A0_8 l0_8.length c0_8, .slice A0_9 l0_9.length c0_9, .int .i64 a0_10, .int .i64 a0_11, .int .i64 a0_12, .int .i64 a0_13, .slice A0_14 l0_14.length c0_14] 27 (0, 0)) (by (with_reducible repeat (first | refine blk_drewN ?_ _ | refine blk_drew ?_ | refine blk_alloc ?_ _)); exact BK447.out) hb); have n1_ := Aside0.mk (below_step (by repeat (first | (with_reducible first | exact HB.out | apply below_alloc | apply pw_below_drewN | apply below_drew1 | refine below_set ?_ GE447.out) | exact HB.out)) hb); clear BK447; clear HB; have BK447 := n0_; have HB := n1_; clear n0_ n1_; (try clear hb); (try clear hb2); (try clear hk); (try clear hi)))
  (try simp only [Act.put, List.setIfInBounds_toArray, List.set_cons_zero, List.set_cons_succ])
  go_cut [13] (fun v13 wc => ∃ (kq : Nat) (x13_2 : Bool), v13 = .bool x13_2 ∧ Aside0 (precentorlaw04_PktLengths.j0 kq t448 x13_2 a0_0 a0_1 a0_2 a0_3 a0_4 a0_5 a0_6 a0_7 l0_8 l0_9 a0_10 a0_11 a0_12 a0_13 l0_14 = some r) ∧ Aside0 (kq ≤ k) ∧ Aside0 (wc.heap[gb447]? = some (.cells #[.int .i64 a0_0, .int .i64 a0_1, .int .i64 a0_2, .int .i64 a0_3, .int .i64 a0_4, .int .i64 a0_5, .int .i64 a0_6, .int .i64 a0_7, (.slice A0_8 l0_8.length c0_8), (.slice A0_9 l0_9.length c0_9), .int .i64 a0_10, .int .i64 a0_11, .int .i64 a0_12, .int .i64 a0_13, (.slice A0_14 l0_14.length c0_14)] 27 (0, 0))) ∧ Aside0 (Below w.heap.size w wc))
  case first =>
    have H := HC3.out
    clear HC3
    replace H := Option.bind_eq_some_iff.mp H
    obtain ⟨t449, A60, H⟩ := H
    replace H : (if t449 = true then ((precentorref04_May.f k a0_0 a0_1 a0_2 a0_3 a0_4 a0_5 a0_6 a0_7 l0_8 l0_9 a0_10 a0_11 a0_12 a0_13 l0_14).bind fun t450 => (precentorlaw04_PktLengths.j0 k t448 (!t450) a0_0 a0_1 a0_2 a0_3 a0_4 a0_5 a0_6 a0_7 l0_8 l0_9 a0_10 a0_11 a0_12 a0_13 l0_14)) else (precentorlaw04_PktLengths.j0 k t448 true a0_0 a0_1 a0_2 a0_3 a0_4 a0_5 a0_6 a0_7 l0_8 l0_9 a0_10 a0_11 a0_12 a0_13 l0_14)) = some r := H
    have A6 := Aside0.mk A60
    clear A60
    by_cases c7 : t449 = true
    · subst c7
      have H1 : ((precentorref04_May.f k a0_0 a0_1 a0_2 a0_3 a0_4 a0_5 a0_6 a0_7 l0_8 l0_9 a0_10 a0_11 a0_12 a0_13 l0_14).bind fun t450 => (precentorlaw04_PktLengths.j0 k t448 (!t450) a0_0 a0_1 a0_2 a0_3 a0_4 a0_5 a0_6 a0_7 l0_8 l0_9 a0_10 a0_11 a0_12 a0_13 l0_14)) = some r := by rw [if_pos rfl] at H; exact H
      clear H
      have H := H1
      clear H1
      replace H := Option.bind_eq_some_iff.mp H
      obtain ⟨t450, A80, H⟩ := H
      replace H : (precentorlaw04_PktLengths.j0 k t448 (!t450) a0_0 a0_1 a0_2 a0_3 a0_4 a0_5 a0_6 a0_7 l0_8 l0_9 a0_10 a0_11 a0_12 a0_13 l0_14) = some r := H
      have A8 := Aside0.mk A80
      clear A80
      have H' := Aside0.mk H
      clear H
      have hcz9_0 : w5.cell? ⟨gb447, 0, none⟩ = some (.int .i64 a0_0) := (blk_cell BK447.out 0).trans rfl
      have hcz9_1 : w5.cell? ⟨gb447, 1, none⟩ = some (.int .i64 a0_1) := (blk_cell BK447.out 1).trans rfl
      have hcz9_2 : w5.cell? ⟨gb447, 2, none⟩ = some (.int .i64 a0_2) := (blk_cell BK447.out 2).trans rfl
      have hcz9_3 : w5.cell? ⟨gb447, 3, none⟩ = some (.int .i64 a0_3) := (blk_cell BK447.out 3).trans rfl
      have hcz9_4 : w5.cell? ⟨gb447, 4, none⟩ = some (.int .i64 a0_4) := (blk_cell BK447.out 4).trans rfl
      have hcz9_5 : w5.cell? ⟨gb447, 5, none⟩ = some (.int .i64 a0_5) := (blk_cell BK447.out 5).trans rfl
      have hcz9_6 : w5.cell? ⟨gb447, 6, none⟩ = some (.int .i64 a0_6) := (blk_cell BK447.out 6).trans rfl
      have hcz9_7 : w5.cell? ⟨gb447, 7, none⟩ = some (.int .i64 a0_7) := (blk_cell BK447.out 7).trans rfl
      have hcz9_8 : w5.cell? ⟨gb447, 8, none⟩ = some (.slice A0_8 l0_8.length c0_8) := (blk_cell BK447.out 8).trans rfl
      have hcz9_9 : w5.cell? ⟨gb447, 9, none⟩ = some (.slice A0_9 l0_9.length c0_9) := (blk_cell BK447.out 9).trans rfl
      have hcz9_10 : w5.cell? ⟨gb447, 10, none⟩ = some (.int .i64 a0_10) := (blk_cell BK447.out 10).trans rfl
      have hcz9_11 : w5.cell? ⟨gb447, 11, none⟩ = some (.int .i64 a0_11) := (blk_cell BK447.out 11).trans rfl
      have hcz9_12 : w5.cell? ⟨gb447, 12, none⟩ = some (.int .i64 a0_12) := (blk_cell BK447.out 12).trans rfl
      have hcz9_13 : w5.cell? ⟨gb447, 13, none⟩ = some (.int .i64 a0_13) := (blk_cell BK447.out 13).trans rfl
      have hcz9_14 : w5.cell? ⟨gb447, 14, none⟩ = some (.slice A0_14 l0_14.length c0_14) := (blk_cell BK447.out 14).trans rfl
      have hfz9_0 := blk_frozen BK447.out 0
      have hfz9_1 := blk_frozen BK447.out 1
      have hfz9_2 := blk_frozen BK447.out 2
      have hfz9_3 := blk_frozen BK447.out 3
      have hfz9_4 := blk_frozen BK447.out 4
      have hfz9_5 := blk_frozen BK447.out 5
      have hfz9_6 := blk_frozen BK447.out 6
      have hfz9_7 := blk_frozen BK447.out 7
      have hfz9_8 := blk_frozen BK447.out 8
      have hfz9_9 := blk_frozen BK447.out 9
      have hfz9_10 := blk_frozen BK447.out 10
      have hfz9_11 := blk_frozen BK447.out 11
      have hfz9_12 := blk_frozen BK447.out 12
      have hfz9_13 := blk_frozen BK447.out 13
      have hfz9_14 := blk_frozen BK447.out 14
      go_wp2_with (first | ((with_reducible refine gate_callee (f := 10) rfl ?_); refine goesL_ (some 7) rfl rfl Tryd.func10 (by kernel_rfl) rfl #[.agg #[.int .i64 a0_0, .int .i64 a0_1, .int .i64 a0_2, .int .i64 a0_3, .int .i64 a0_4, .int .i64 a0_5, .int .i64 a0_6, .int .i64 a0_7, .slice A0_8 l0_8.length c0_8, .slice A0_9 l0_9.length c0_9, .int .i64 a0_10, .int .i64 a0_11, .int .i64 a0_12, .int .i64 a0_13, .slice A0_14 l0_14.length c0_14]] rfl (by (try simp only [List.map_toArray, List.map_cons, List.map_nil]); first | done | rfl | (simp only [List.length_drop, List.length_take]; rfl)) ?_; (with_reducible refine (precentorref04_Few.calls a0_0 a0_1 a0_2 a0_3 a0_4 a0_5 a0_6 a0_7 _ _ l0_8 _ _ l0_9 a0_10 a0_11 a0_12 a0_13 _ _ l0_14 true _ ?side1 ?side2 ?side3 ?side4 ?side5 ?side6 A6.out).mono ?_); (case side1 => repeat (first | exact (Kd.C_below HR0_8.out HB.out) | (with_reducible refine Kd.C_alloc ?_ _) | (with_reducible refine Kd.C_drewN ?_ _) | (with_reducible refine Kd.C_drew ?_))); (case side2 => exact HC0_8.out); (case side3 => repeat (first | exact (Kd.C_below HR0_9.out HB.out) | (with_reducible refine Kd.C_alloc ?_ _) | (with_reducible refine Kd.C_drewN ?_ _) | (with_reducible refine Kd.C_drew ?_))); (case side4 => exact HC0_9.out); (case side5 => repeat (first | exact (Kd.C_below HR0_14.out HB.out) | (with_reducible refine Kd.C_alloc ?_ _) | (with_reducible refine Kd.C_drewN ?_ _) | (with_reducible refine Kd.C_drew ?_))); (case side6 => exact HC0_14.out); rintro e w10 ⟨rfl, hb⟩; refine ⟨_, rfl, ?_⟩; have n0_ := Aside0.mk (blk_below (g := gb447) (o := .cells #[.int .i64 a0_0, .int .i64 a0_1, .int .i64 a0_2, .int .i64 a0_3, .int .i64 a0_4, .int .i64 a0_5, .int .i64 a0_6, .int .i64 a0_7, .slice A0_8 l0_8.length c0_8, .slice A0_9 l0_9.length c0_9, .int .i64 a0_10, .int .i64 a0_11, .int .i64 a0_12, .int .i64 a0_13, .slice A0_14 l0_14.length c0_14] 27 (0, 0)) (by (with_reducible repeat (first | refine blk_drewN ?_ _ | refine blk_drew ?_ | refine blk_alloc ?_ _)); exact BK447.out) hb); have n1_ := Aside0.mk (below_step (by repeat (first | (with_reducible first | exact HB.out | apply below_alloc | apply pw_below_drewN | apply below_drew1 | refine below_set ?_ GE447.out) | exact HB.out)) hb); clear BK447; clear HB; have BK447 := n0_; have HB := n1_; clear n0_ n1_; (try clear hb); (try clear hb2); (try clear hk); (try clear hi); have hcz11_0 : w10.cell? ⟨gb447, 0, none⟩ = some (.int .i64 a0_0) := (blk_cell BK447.out 0).trans rfl; have hcz11_1 : w10.cell? ⟨gb447, 1, none⟩ = some (.int .i64 a0_1) := (blk_cell BK447.out 1).trans rfl; have hcz11_2 : w10.cell? ⟨gb447, 2, none⟩ = some (.int .i64 a0_2) := (blk_cell BK447.out 2).trans rfl; have hcz11_3 : w10.cell? ⟨gb447, 3, none⟩ = some (.int .i64 a0_3) := (blk_cell BK447.out 3).trans rfl; have hcz11_4 : w10.cell? ⟨gb447, 4, none⟩ = some (.int .i64 a0_4) := (blk_cell BK447.out 4).trans rfl; have hcz11_5 : w10.cell? ⟨gb447, 5, none⟩ = some (.int .i64 a0_5) := (blk_cell BK447.out 5).trans rfl; have hcz11_6 : w10.cell? ⟨gb447, 6, none⟩ = some (.int .i64 a0_6) := (blk_cell BK447.out 6).trans rfl; have hcz11_7 : w10.cell? ⟨gb447, 7, none⟩ = some (.int .i64 a0_7) := (blk_cell BK447.out 7).trans rfl; have hcz11_8 : w10.cell? ⟨gb447, 8, none⟩ = some (.slice A0_8 l0_8.length c0_8) := (blk_cell BK447.out 8).trans rfl; have hcz11_9 : w10.cell? ⟨gb447, 9, none⟩ = some (.slice A0_9 l0_9.length c0_9) := (blk_cell BK447.out 9).trans rfl; have hcz11_10 : w10.cell? ⟨gb447, 10, none⟩ = some (.int .i64 a0_10) := (blk_cell BK447.out 10).trans rfl; have hcz11_11 : w10.cell? ⟨gb447, 11, none⟩ = some (.int .i64 a0_11) := (blk_cell BK447.out 11).trans rfl; have hcz11_12 : w10.cell? ⟨gb447, 12, none⟩ = some (.int .i64 a0_12) := (blk_cell BK447.out 12).trans rfl; have hcz11_13 : w10.cell? ⟨gb447, 13, none⟩ = some (.int .i64 a0_13) := (blk_cell BK447.out 13).trans rfl; have hcz11_14 : w10.cell? ⟨gb447, 14, none⟩ = some (.slice A0_14 l0_14.length c0_14) := (blk_cell BK447.out 14).trans rfl; have hfz11_0 := blk_frozen BK447.out 0; have hfz11_1 := blk_frozen BK447.out 1; have hfz11_2 := blk_frozen BK447.out 2; have hfz11_3 := blk_frozen BK447.out 3; have hfz11_4 := blk_frozen BK447.out 4; have hfz11_5 := blk_frozen BK447.out 5; have hfz11_6 := blk_frozen BK447.out 6; have hfz11_7 := blk_frozen BK447.out 7; have hfz11_8 := blk_frozen BK447.out 8; have hfz11_9 := blk_frozen BK447.out 9; have hfz11_10 := blk_frozen BK447.out 10; have hfz11_11 := blk_frozen BK447.out 11; have hfz11_12 := blk_frozen BK447.out 12; have hfz11_13 := blk_frozen BK447.out 13; have hfz11_14 := blk_frozen BK447.out 14) | (go_at_call 14; (with_reducible refine (precentorref04_May.calls k a0_0 a0_1 a0_2 a0_3 a0_4 a0_5 a0_6 a0_7 _ _ l0_8 _ _ l0_9 a0_10 a0_11 a0_12 a0_13 _ _ l0_14 t450 _ ?side1 ?side2 ?side3 ?side4 ?side5 ?side6 A8.out).mono ?_); (case side1 => repeat (first | exact (Kd.C_below HR0_8.out HB.out) | (with_reducible refine Kd.C_alloc ?_ _) | (with_reducible refine Kd.C_drewN ?_ _) | (with_reducible refine Kd.C_drew ?_))); (case side2 => exact HC0_8.out); (case side3 => repeat (first | exact (Kd.C_below HR0_9.out HB.out) | (with_reducible refine Kd.C_alloc ?_ _) | (with_reducible refine Kd.C_drewN ?_ _) | (with_reducible refine Kd.C_drew ?_))); (case side4 => exact HC0_9.out); (case side5 => repeat (first | exact (Kd.C_below HR0_14.out HB.out) | (with_reducible refine Kd.C_alloc ?_ _) | (with_reducible refine Kd.C_drewN ?_ _) | (with_reducible refine Kd.C_drew ?_))); (case side6 => exact HC0_14.out); rintro e w12 ⟨rfl, hb⟩; have n0_ := Aside0.mk (blk_below (g := gb447) (o := .cells #[.int .i64 a0_0, .int .i64 a0_1, .int .i64 a0_2, .int .i64 a0_3, .int .i64 a0_4, .int .i64 a0_5, .int .i64 a0_6, .int .i64 a0_7, .slice A0_8 l0_8.length c0_8, .slice A0_9 l0_9.length c0_9, .int .i64 a0_10, .int .i64 a0_11, .int .i64 a0_12, .int .i64 a0_13, .slice A0_14 l0_14.length c0_14] 27 (0, 0)) (by (with_reducible repeat (first | refine blk_drewN ?_ _ | refine blk_drew ?_ | refine blk_alloc ?_ _)); exact BK447.out) hb); have n1_ := Aside0.mk (below_step (by repeat (first | (with_reducible first | exact HB.out | apply below_alloc | apply pw_below_drewN | apply below_drew1 | refine below_set ?_ GE447.out) | exact HB.out)) hb); clear BK447; clear HB; have BK447 := n0_; have HB := n1_; clear n0_ n1_; (try clear hb); (try clear hb2); (try clear hk); (try clear hi)))
      go_meet
      case rel => exact ⟨_, (!t450), (by first | rfl | (simp; done) | (simp [*]; done)), H', ⟨by first | omega | exact Nat.le_refl _⟩, ⟨by (with_reducible repeat (first | refine blk_drewN ?_ _ | refine blk_drew ?_ | refine blk_alloc ?_ _)); exact BK447.out⟩, ⟨by repeat (first | (with_reducible first | exact HB.out | apply below_alloc | apply pw_below_drewN | apply below_drew1 | refine below_set ?_ GE447.out) | exact HB.out)⟩⟩
    · replace c7 := Bool.eq_false_iff.mpr c7
      subst c7
      have H1 : (precentorlaw04_PktLengths.j0 k t448 true a0_0 a0_1 a0_2 a0_3 a0_4 a0_5 a0_6 a0_7 l0_8 l0_9 a0_10 a0_11 a0_12 a0_13 l0_14) = some r := by rw [if_neg (show ¬ (false = true) by decide)] at H; exact H
      clear H
      have H := H1
      clear H1
      have H' := Aside0.mk H
      clear H
      have hcz13_0 : w5.cell? ⟨gb447, 0, none⟩ = some (.int .i64 a0_0) := (blk_cell BK447.out 0).trans rfl
      have hcz13_1 : w5.cell? ⟨gb447, 1, none⟩ = some (.int .i64 a0_1) := (blk_cell BK447.out 1).trans rfl
      have hcz13_2 : w5.cell? ⟨gb447, 2, none⟩ = some (.int .i64 a0_2) := (blk_cell BK447.out 2).trans rfl
      have hcz13_3 : w5.cell? ⟨gb447, 3, none⟩ = some (.int .i64 a0_3) := (blk_cell BK447.out 3).trans rfl
      have hcz13_4 : w5.cell? ⟨gb447, 4, none⟩ = some (.int .i64 a0_4) := (blk_cell BK447.out 4).trans rfl
      have hcz13_5 : w5.cell? ⟨gb447, 5, none⟩ = some (.int .i64 a0_5) := (blk_cell BK447.out 5).trans rfl
      have hcz13_6 : w5.cell? ⟨gb447, 6, none⟩ = some (.int .i64 a0_6) := (blk_cell BK447.out 6).trans rfl
      have hcz13_7 : w5.cell? ⟨gb447, 7, none⟩ = some (.int .i64 a0_7) := (blk_cell BK447.out 7).trans rfl
      have hcz13_8 : w5.cell? ⟨gb447, 8, none⟩ = some (.slice A0_8 l0_8.length c0_8) := (blk_cell BK447.out 8).trans rfl
      have hcz13_9 : w5.cell? ⟨gb447, 9, none⟩ = some (.slice A0_9 l0_9.length c0_9) := (blk_cell BK447.out 9).trans rfl
      have hcz13_10 : w5.cell? ⟨gb447, 10, none⟩ = some (.int .i64 a0_10) := (blk_cell BK447.out 10).trans rfl
      have hcz13_11 : w5.cell? ⟨gb447, 11, none⟩ = some (.int .i64 a0_11) := (blk_cell BK447.out 11).trans rfl
      have hcz13_12 : w5.cell? ⟨gb447, 12, none⟩ = some (.int .i64 a0_12) := (blk_cell BK447.out 12).trans rfl
      have hcz13_13 : w5.cell? ⟨gb447, 13, none⟩ = some (.int .i64 a0_13) := (blk_cell BK447.out 13).trans rfl
      have hcz13_14 : w5.cell? ⟨gb447, 14, none⟩ = some (.slice A0_14 l0_14.length c0_14) := (blk_cell BK447.out 14).trans rfl
      have hfz13_0 := blk_frozen BK447.out 0
      have hfz13_1 := blk_frozen BK447.out 1
      have hfz13_2 := blk_frozen BK447.out 2
      have hfz13_3 := blk_frozen BK447.out 3
      have hfz13_4 := blk_frozen BK447.out 4
      have hfz13_5 := blk_frozen BK447.out 5
      have hfz13_6 := blk_frozen BK447.out 6
      have hfz13_7 := blk_frozen BK447.out 7
      have hfz13_8 := blk_frozen BK447.out 8
      have hfz13_9 := blk_frozen BK447.out 9
      have hfz13_10 := blk_frozen BK447.out 10
      have hfz13_11 := blk_frozen BK447.out 11
      have hfz13_12 := blk_frozen BK447.out 12
      have hfz13_13 := blk_frozen BK447.out 13
      have hfz13_14 := blk_frozen BK447.out 14
      go_wp2_with (first | ((with_reducible refine gate_callee (f := 10) rfl ?_); refine goesL_ (some 7) rfl rfl Tryd.func10 (by kernel_rfl) rfl #[.agg #[.int .i64 a0_0, .int .i64 a0_1, .int .i64 a0_2, .int .i64 a0_3, .int .i64 a0_4, .int .i64 a0_5, .int .i64 a0_6, .int .i64 a0_7, .slice A0_8 l0_8.length c0_8, .slice A0_9 l0_9.length c0_9, .int .i64 a0_10, .int .i64 a0_11, .int .i64 a0_12, .int .i64 a0_13, .slice A0_14 l0_14.length c0_14]] rfl (by (try simp only [List.map_toArray, List.map_cons, List.map_nil]); first | done | rfl | (simp only [List.length_drop, List.length_take]; rfl)) ?_; (with_reducible refine (precentorref04_Few.calls a0_0 a0_1 a0_2 a0_3 a0_4 a0_5 a0_6 a0_7 _ _ l0_8 _ _ l0_9 a0_10 a0_11 a0_12 a0_13 _ _ l0_14 false _ ?side1 ?side2 ?side3 ?side4 ?side5 ?side6 A6.out).mono ?_); (case side1 => repeat (first | exact (Kd.C_below HR0_8.out HB.out) | (with_reducible refine Kd.C_alloc ?_ _) | (with_reducible refine Kd.C_drewN ?_ _) | (with_reducible refine Kd.C_drew ?_))); (case side2 => exact HC0_8.out); (case side3 => repeat (first | exact (Kd.C_below HR0_9.out HB.out) | (with_reducible refine Kd.C_alloc ?_ _) | (with_reducible refine Kd.C_drewN ?_ _) | (with_reducible refine Kd.C_drew ?_))); (case side4 => exact HC0_9.out); (case side5 => repeat (first | exact (Kd.C_below HR0_14.out HB.out) | (with_reducible refine Kd.C_alloc ?_ _) | (with_reducible refine Kd.C_drewN ?_ _) | (with_reducible refine Kd.C_drew ?_))); (case side6 => exact HC0_14.out); rintro e w14 ⟨rfl, hb⟩; refine ⟨_, rfl, ?_⟩; have n0_ := Aside0.mk (blk_below (g := gb447) (o := .cells #[.int .i64 a0_0, .int .i64 a0_1, .int .i64 a0_2, .int .i64 a0_3, .int .i64 a0_4, .int .i64 a0_5, .int .i64 a0_6, .int .i64 a0_7, .slice A0_8 l0_8.length c0_8, .slice A0_9 l0_9.length c0_9, .int .i64 a0_10, .int .i64 a0_11, .int .i64 a0_12, .int .i64 a0_13, .slice A0_14 l0_14.length c0_14] 27 (0, 0)) (by (with_reducible repeat (first | refine blk_drewN ?_ _ | refine blk_drew ?_ | refine blk_alloc ?_ _)); exact BK447.out) hb); have n1_ := Aside0.mk (below_step (by repeat (first | (with_reducible first | exact HB.out | apply below_alloc | apply pw_below_drewN | apply below_drew1 | refine below_set ?_ GE447.out) | exact HB.out)) hb); clear BK447; clear HB; have BK447 := n0_; have HB := n1_; clear n0_ n1_; (try clear hb); (try clear hb2); (try clear hk); (try clear hi)))
      go_meet
      case rel => exact ⟨_, (true), (by first | rfl | (simp; done) | (simp [*]; done)), H', ⟨by first | omega | exact Nat.le_refl _⟩, ⟨by (with_reducible repeat (first | refine blk_drewN ?_ _ | refine blk_drew ?_ | refine blk_alloc ?_ _)); exact BK447.out⟩, ⟨by repeat (first | (with_reducible first | exact HB.out | apply below_alloc | apply pw_below_drewN | apply below_drew1 | refine below_set ?_ GE447.out) | exact HB.out)⟩⟩
  case rest =>
    clear HC3
    try clear c1
    try clear p2
    try clear c7
    try clear c9
    try clear c10
    try clear hcz11_0
    try clear hcz11_1
    try clear hcz11_10
    try clear hcz11_11
    try clear hcz11_12
    try clear hcz11_13
    try clear hcz11_14
    try clear hcz11_2
    try clear hcz11_3
    try clear hcz11_4
    try clear hcz11_5
    try clear hcz11_6
    try clear hcz11_7
    try clear hcz11_8
    try clear hcz11_9
    try clear hcz13_0
    try clear hcz13_1
    try clear hcz13_10
    try clear hcz13_11
    try clear hcz13_12
    try clear hcz13_13
    try clear hcz13_14
    try clear hcz13_2
    try clear hcz13_3
    try clear hcz13_4
    try clear hcz13_5
    try clear hcz13_6
    try clear hcz13_7
    try clear hcz13_8
    try clear hcz13_9
    try clear hcz9_0
    try clear hcz9_1
    try clear hcz9_10
    try clear hcz9_11
    try clear hcz9_12
    try clear hcz9_13
    try clear hcz9_14
    try clear hcz9_2
    try clear hcz9_3
    try clear hcz9_4
    try clear hcz9_5
    try clear hcz9_6
    try clear hcz9_7
    try clear hcz9_8
    try clear hcz9_9
    try clear hfz11_0
    try clear hfz11_1
    try clear hfz11_10
    try clear hfz11_11
    try clear hfz11_12
    try clear hfz11_13
    try clear hfz11_14
    try clear hfz11_2
    try clear hfz11_3
    try clear hfz11_4
    try clear hfz11_5
    try clear hfz11_6
    try clear hfz11_7
    try clear hfz11_8
    try clear hfz11_9
    try clear hfz13_0
    try clear hfz13_1
    try clear hfz13_10
    try clear hfz13_11
    try clear hfz13_12
    try clear hfz13_13
    try clear hfz13_14
    try clear hfz13_2
    try clear hfz13_3
    try clear hfz13_4
    try clear hfz13_5
    try clear hfz13_6
    try clear hfz13_7
    try clear hfz13_8
    try clear hfz13_9
    try clear hfz9_0
    try clear hfz9_1
    try clear hfz9_10
    try clear hfz9_11
    try clear hfz9_12
    try clear hfz9_13
    try clear hfz9_14
    try clear hfz9_2
    try clear hfz9_3
    try clear hfz9_4
    try clear hfz9_5
    try clear hfz9_6
    try clear hfz9_7
    try clear hfz9_8
    try clear hfz9_9
    obtain ⟨kq, x13_2, rfl, HA, HJ2, BK447, HB⟩ := hcut
    cases kq with
    | zero => exact absurd HA.out (by simp [precentorlaw04_PktLengths.j0])
    | succ kj2 =>
      have H := HA.out
      clear HA
      simp only [precentorlaw04_PktLengths.j0] at H
      by_cases c15 : x13_2 = true
      · subst c15
        have H1 : (some t448) = some r := by rw [if_pos rfl] at H; exact H
        clear H
        have H := H1
        clear H1
        obtain rfl := Option.some.inj H
        go_wp2
        go_ret
        exact ⟨by first | rfl | (simp [errW_none, errW_some] <;> rfl) | (simp [*, errW_none, errW_some] <;> rfl), by repeat (first | (with_reducible first | exact HB.out | apply below_alloc | apply pw_below_drewN | apply below_drew1 | refine below_set ?_ GE447.out) | exact HB.out)⟩
      · replace c15 := Bool.eq_false_iff.mpr c15
        subst c15
        have H1 : ((pkt_Bytes.f a0_0 a0_1 a0_2 a0_3 a0_4 a0_5 a0_6 a0_7 l0_8 l0_9 a0_10 a0_11 a0_12 a0_13 l0_14).bind fun t451 => (if a0_0 = 3 then (if t448 = true then (some ((t451.length : Int) == 17)) else (none)) else (if a0_0 = 4 then (if t448 = true then (some ((t451.length : Int) == (wrap64 (15 + (wrap64 (8 * (l0_14.length : Int))))))) else (none)) else (if t448 = true then ((precentorref03_Bytes.f a0_2 a0_3 a0_4 a0_5 a0_6 a0_7 l0_8 l0_9).bind fun t454 => (some ((t451.length : Int) == (wrap64 (7 + (t454.length : Int)))))) else (none))))) = some r := by rw [if_neg (show ¬ (false = true) by decide)] at H; exact H
        clear H
        have H := H1
        clear H1
        replace H := Option.bind_eq_some_iff.mp H
        obtain ⟨t451, A160, H⟩ := H
        replace H : (if a0_0 = 3 then (if t448 = true then (some ((t451.length : Int) == 17)) else (none)) else (if a0_0 = 4 then (if t448 = true then (some ((t451.length : Int) == (wrap64 (15 + (wrap64 (8 * (l0_14.length : Int))))))) else (none)) else (if t448 = true then ((precentorref03_Bytes.f a0_2 a0_3 a0_4 a0_5 a0_6 a0_7 l0_8 l0_9).bind fun t454 => (some ((t451.length : Int) == (wrap64 (7 + (t454.length : Int)))))) else (none)))) = some r := H
        have A16 := Aside0.mk A160
        clear A160
        by_cases c17 : a0_0 = 3
        · rw [if_pos c17] at H
          have c17b0 : (a0_0 == 3) = true := beq_iff_eq.mpr c17
          have c17b1 : (a0_0 != 3) = false := bne_eq_false_iff_eq.mpr c17
          clear c17
          by_cases c18 : t448 = true
          · subst c18
            have H1 : (some ((t451.length : Int) == 17)) = some r := by rw [if_pos rfl] at H; exact H
            clear H
            have H := H1
            clear H1
            obtain rfl := Option.some.inj H
            have hcz19_0 : wc.cell? ⟨gb447, 0, none⟩ = some (.int .i64 a0_0) := (blk_cell BK447.out 0).trans rfl
            have hcz19_1 : wc.cell? ⟨gb447, 1, none⟩ = some (.int .i64 a0_1) := (blk_cell BK447.out 1).trans rfl
            have hcz19_2 : wc.cell? ⟨gb447, 2, none⟩ = some (.int .i64 a0_2) := (blk_cell BK447.out 2).trans rfl
            have hcz19_3 : wc.cell? ⟨gb447, 3, none⟩ = some (.int .i64 a0_3) := (blk_cell BK447.out 3).trans rfl
            have hcz19_4 : wc.cell? ⟨gb447, 4, none⟩ = some (.int .i64 a0_4) := (blk_cell BK447.out 4).trans rfl
            have hcz19_5 : wc.cell? ⟨gb447, 5, none⟩ = some (.int .i64 a0_5) := (blk_cell BK447.out 5).trans rfl
            have hcz19_6 : wc.cell? ⟨gb447, 6, none⟩ = some (.int .i64 a0_6) := (blk_cell BK447.out 6).trans rfl
            have hcz19_7 : wc.cell? ⟨gb447, 7, none⟩ = some (.int .i64 a0_7) := (blk_cell BK447.out 7).trans rfl
            have hcz19_8 : wc.cell? ⟨gb447, 8, none⟩ = some (.slice A0_8 l0_8.length c0_8) := (blk_cell BK447.out 8).trans rfl
            have hcz19_9 : wc.cell? ⟨gb447, 9, none⟩ = some (.slice A0_9 l0_9.length c0_9) := (blk_cell BK447.out 9).trans rfl
            have hcz19_10 : wc.cell? ⟨gb447, 10, none⟩ = some (.int .i64 a0_10) := (blk_cell BK447.out 10).trans rfl
            have hcz19_11 : wc.cell? ⟨gb447, 11, none⟩ = some (.int .i64 a0_11) := (blk_cell BK447.out 11).trans rfl
            have hcz19_12 : wc.cell? ⟨gb447, 12, none⟩ = some (.int .i64 a0_12) := (blk_cell BK447.out 12).trans rfl
            have hcz19_13 : wc.cell? ⟨gb447, 13, none⟩ = some (.int .i64 a0_13) := (blk_cell BK447.out 13).trans rfl
            have hcz19_14 : wc.cell? ⟨gb447, 14, none⟩ = some (.slice A0_14 l0_14.length c0_14) := (blk_cell BK447.out 14).trans rfl
            have hfz19_0 := blk_frozen BK447.out 0
            have hfz19_1 := blk_frozen BK447.out 1
            have hfz19_2 := blk_frozen BK447.out 2
            have hfz19_3 := blk_frozen BK447.out 3
            have hfz19_4 := blk_frozen BK447.out 4
            have hfz19_5 := blk_frozen BK447.out 5
            have hfz19_6 := blk_frozen BK447.out 6
            have hfz19_7 := blk_frozen BK447.out 7
            have hfz19_8 := blk_frozen BK447.out 8
            have hfz19_9 := blk_frozen BK447.out 9
            have hfz19_10 := blk_frozen BK447.out 10
            have hfz19_11 := blk_frozen BK447.out 11
            have hfz19_12 := blk_frozen BK447.out 12
            have hfz19_13 := blk_frozen BK447.out 13
            have hfz19_14 := blk_frozen BK447.out 14
            go_wp2_with (first | ((with_reducible refine gate_callee (f := 17) rfl ?_); refine goesL_ (some 16) rfl rfl Tryd.func17 (by kernel_rfl) rfl #[.agg #[.int .i64 a0_0, .int .i64 a0_1, .int .i64 a0_2, .int .i64 a0_3, .int .i64 a0_4, .int .i64 a0_5, .int .i64 a0_6, .int .i64 a0_7, .slice A0_8 l0_8.length c0_8, .slice A0_9 l0_9.length c0_9, .int .i64 a0_10, .int .i64 a0_11, .int .i64 a0_12, .int .i64 a0_13, .slice A0_14 l0_14.length c0_14]] rfl (by (try simp only [List.map_toArray, List.map_cons, List.map_nil]); first | done | rfl | (simp only [List.length_drop, List.length_take]; rfl)) ?_; (with_reducible refine (pkt_Bytes.calls a0_0 a0_1 a0_2 a0_3 a0_4 a0_5 a0_6 a0_7 _ _ l0_8 _ _ l0_9 a0_10 a0_11 a0_12 a0_13 _ _ l0_14 t451 _ ?side1 ?side2 ?side3 ?side4 ?side5 ?side6 ?side7 A16.out).mono ?_); (case side1 => repeat (first | exact (Kd.C_below HR0_8.out HB.out) | (with_reducible refine Kd.C_alloc ?_ _) | (with_reducible refine Kd.C_drewN ?_ _) | (with_reducible refine Kd.C_drew ?_))); (case side2 => exact HC0_8.out); (case side3 => repeat (first | exact (Kd.C_below HR0_9.out HB.out) | (with_reducible refine Kd.C_alloc ?_ _) | (with_reducible refine Kd.C_drewN ?_ _) | (with_reducible refine Kd.C_drew ?_))); (case side4 => exact HC0_9.out); (case side5 => repeat (first | exact (Kd.C_below HR0_14.out HB.out) | (with_reducible refine Kd.C_alloc ?_ _) | (with_reducible refine Kd.C_drewN ?_ _) | (with_reducible refine Kd.C_drew ?_))); (case side6 => exact HC0_14.out); (case side7 => exact GB.below hG (by repeat (first | (with_reducible first | exact HB.out | apply below_alloc | apply pw_below_drewN | apply below_drew1 | refine below_set ?_ GE447.out) | exact HB.out))); rintro e w20 ⟨v452, rfl, ho0, hb⟩; refine ⟨_, rfl, ?_⟩; have n0_ := Aside0.mk (Kd.R_lower ho0 (below_size (by repeat (first | (with_reducible first | exact HB.out | apply below_alloc | apply pw_below_drewN | apply below_drew1 | refine below_set ?_ GE447.out) | exact HB.out)))); have n1_ := Aside0.mk (blk_below (g := gb447) (o := .cells #[.int .i64 a0_0, .int .i64 a0_1, .int .i64 a0_2, .int .i64 a0_3, .int .i64 a0_4, .int .i64 a0_5, .int .i64 a0_6, .int .i64 a0_7, .slice A0_8 l0_8.length c0_8, .slice A0_9 l0_9.length c0_9, .int .i64 a0_10, .int .i64 a0_11, .int .i64 a0_12, .int .i64 a0_13, .slice A0_14 l0_14.length c0_14] 27 (0, 0)) (by (with_reducible repeat (first | refine blk_drewN ?_ _ | refine blk_drew ?_ | refine blk_alloc ?_ _)); exact BK447.out) hb); have n2_ := Aside0.mk (below_step (by repeat (first | (with_reducible first | exact HB.out | apply below_alloc | apply pw_below_drewN | apply below_drew1 | refine below_set ?_ GE447.out) | exact HB.out)) hb); clear BK447; clear HB; have HO453 := n0_; have BK447 := n1_; have HB := n2_; clear n0_ n1_ n2_; (try clear hb); (try clear hb2); (try clear hk); (try clear hi); (try clear ho0); obtain ⟨Ao21, co21, eo21⟩ := Kd.R_slice HO453.out; subst eo21; have hcz22_0 : w20.cell? ⟨gb447, 0, none⟩ = some (.int .i64 a0_0) := (blk_cell BK447.out 0).trans rfl; have hcz22_1 : w20.cell? ⟨gb447, 1, none⟩ = some (.int .i64 a0_1) := (blk_cell BK447.out 1).trans rfl; have hcz22_2 : w20.cell? ⟨gb447, 2, none⟩ = some (.int .i64 a0_2) := (blk_cell BK447.out 2).trans rfl; have hcz22_3 : w20.cell? ⟨gb447, 3, none⟩ = some (.int .i64 a0_3) := (blk_cell BK447.out 3).trans rfl; have hcz22_4 : w20.cell? ⟨gb447, 4, none⟩ = some (.int .i64 a0_4) := (blk_cell BK447.out 4).trans rfl; have hcz22_5 : w20.cell? ⟨gb447, 5, none⟩ = some (.int .i64 a0_5) := (blk_cell BK447.out 5).trans rfl; have hcz22_6 : w20.cell? ⟨gb447, 6, none⟩ = some (.int .i64 a0_6) := (blk_cell BK447.out 6).trans rfl; have hcz22_7 : w20.cell? ⟨gb447, 7, none⟩ = some (.int .i64 a0_7) := (blk_cell BK447.out 7).trans rfl; have hcz22_8 : w20.cell? ⟨gb447, 8, none⟩ = some (.slice A0_8 l0_8.length c0_8) := (blk_cell BK447.out 8).trans rfl; have hcz22_9 : w20.cell? ⟨gb447, 9, none⟩ = some (.slice A0_9 l0_9.length c0_9) := (blk_cell BK447.out 9).trans rfl; have hcz22_10 : w20.cell? ⟨gb447, 10, none⟩ = some (.int .i64 a0_10) := (blk_cell BK447.out 10).trans rfl; have hcz22_11 : w20.cell? ⟨gb447, 11, none⟩ = some (.int .i64 a0_11) := (blk_cell BK447.out 11).trans rfl; have hcz22_12 : w20.cell? ⟨gb447, 12, none⟩ = some (.int .i64 a0_12) := (blk_cell BK447.out 12).trans rfl; have hcz22_13 : w20.cell? ⟨gb447, 13, none⟩ = some (.int .i64 a0_13) := (blk_cell BK447.out 13).trans rfl; have hcz22_14 : w20.cell? ⟨gb447, 14, none⟩ = some (.slice A0_14 l0_14.length c0_14) := (blk_cell BK447.out 14).trans rfl; have hfz22_0 := blk_frozen BK447.out 0; have hfz22_1 := blk_frozen BK447.out 1; have hfz22_2 := blk_frozen BK447.out 2; have hfz22_3 := blk_frozen BK447.out 3; have hfz22_4 := blk_frozen BK447.out 4; have hfz22_5 := blk_frozen BK447.out 5; have hfz22_6 := blk_frozen BK447.out 6; have hfz22_7 := blk_frozen BK447.out 7; have hfz22_8 := blk_frozen BK447.out 8; have hfz22_9 := blk_frozen BK447.out 9; have hfz22_10 := blk_frozen BK447.out 10; have hfz22_11 := blk_frozen BK447.out 11; have hfz22_12 := blk_frozen BK447.out 12; have hfz22_13 := blk_frozen BK447.out 13; have hfz22_14 := blk_frozen BK447.out 14))
            go_ret
            exact ⟨by first | rfl | (simp [errW_none, errW_some] <;> rfl) | (simp [*, errW_none, errW_some] <;> rfl), by repeat (first | (with_reducible first | exact HB.out | apply below_alloc | apply pw_below_drewN | apply below_drew1 | refine below_set ?_ GE447.out) | exact HB.out)⟩
          · replace c18 := Bool.eq_false_iff.mpr c18
            subst c18
            have H1 : (none) = some r := by rw [if_neg (show ¬ (false = true) by decide)] at H; exact H
            clear H
            have H := H1
            clear H1
            exact absurd H (by simp)
        · rw [if_neg c17] at H
          have c17b0 : (a0_0 == 3) = false := beq_eq_false_iff_ne.mpr c17
          have c17b1 : (a0_0 != 3) = true := bne_iff_ne.mpr c17
          by_cases c23 : a0_0 = 4
          · rw [if_pos c23] at H
            have c23b0 : (a0_0 == 4) = true := beq_iff_eq.mpr c23
            have c23b1 : (a0_0 != 4) = false := bne_eq_false_iff_eq.mpr c23
            clear c23
            by_cases c24 : t448 = true
            · subst c24
              have H1 : (some ((t451.length : Int) == (wrap64 (15 + (wrap64 (8 * (l0_14.length : Int))))))) = some r := by rw [if_pos rfl] at H; exact H
              clear H
              have H := H1
              clear H1
              obtain rfl := Option.some.inj H
              have hcz25_0 : wc.cell? ⟨gb447, 0, none⟩ = some (.int .i64 a0_0) := (blk_cell BK447.out 0).trans rfl
              have hcz25_1 : wc.cell? ⟨gb447, 1, none⟩ = some (.int .i64 a0_1) := (blk_cell BK447.out 1).trans rfl
              have hcz25_2 : wc.cell? ⟨gb447, 2, none⟩ = some (.int .i64 a0_2) := (blk_cell BK447.out 2).trans rfl
              have hcz25_3 : wc.cell? ⟨gb447, 3, none⟩ = some (.int .i64 a0_3) := (blk_cell BK447.out 3).trans rfl
              have hcz25_4 : wc.cell? ⟨gb447, 4, none⟩ = some (.int .i64 a0_4) := (blk_cell BK447.out 4).trans rfl
              have hcz25_5 : wc.cell? ⟨gb447, 5, none⟩ = some (.int .i64 a0_5) := (blk_cell BK447.out 5).trans rfl
              have hcz25_6 : wc.cell? ⟨gb447, 6, none⟩ = some (.int .i64 a0_6) := (blk_cell BK447.out 6).trans rfl
              have hcz25_7 : wc.cell? ⟨gb447, 7, none⟩ = some (.int .i64 a0_7) := (blk_cell BK447.out 7).trans rfl
              have hcz25_8 : wc.cell? ⟨gb447, 8, none⟩ = some (.slice A0_8 l0_8.length c0_8) := (blk_cell BK447.out 8).trans rfl
              have hcz25_9 : wc.cell? ⟨gb447, 9, none⟩ = some (.slice A0_9 l0_9.length c0_9) := (blk_cell BK447.out 9).trans rfl
              have hcz25_10 : wc.cell? ⟨gb447, 10, none⟩ = some (.int .i64 a0_10) := (blk_cell BK447.out 10).trans rfl
              have hcz25_11 : wc.cell? ⟨gb447, 11, none⟩ = some (.int .i64 a0_11) := (blk_cell BK447.out 11).trans rfl
              have hcz25_12 : wc.cell? ⟨gb447, 12, none⟩ = some (.int .i64 a0_12) := (blk_cell BK447.out 12).trans rfl
              have hcz25_13 : wc.cell? ⟨gb447, 13, none⟩ = some (.int .i64 a0_13) := (blk_cell BK447.out 13).trans rfl
              have hcz25_14 : wc.cell? ⟨gb447, 14, none⟩ = some (.slice A0_14 l0_14.length c0_14) := (blk_cell BK447.out 14).trans rfl
              have hfz25_0 := blk_frozen BK447.out 0
              have hfz25_1 := blk_frozen BK447.out 1
              have hfz25_2 := blk_frozen BK447.out 2
              have hfz25_3 := blk_frozen BK447.out 3
              have hfz25_4 := blk_frozen BK447.out 4
              have hfz25_5 := blk_frozen BK447.out 5
              have hfz25_6 := blk_frozen BK447.out 6
              have hfz25_7 := blk_frozen BK447.out 7
              have hfz25_8 := blk_frozen BK447.out 8
              have hfz25_9 := blk_frozen BK447.out 9
              have hfz25_10 := blk_frozen BK447.out 10
              have hfz25_11 := blk_frozen BK447.out 11
              have hfz25_12 := blk_frozen BK447.out 12
              have hfz25_13 := blk_frozen BK447.out 13
              have hfz25_14 := blk_frozen BK447.out 14
              go_wp2_with (first | ((with_reducible refine gate_callee (f := 17) rfl ?_); refine goesL_ (some 16) rfl rfl Tryd.func17 (by kernel_rfl) rfl #[.agg #[.int .i64 a0_0, .int .i64 a0_1, .int .i64 a0_2, .int .i64 a0_3, .int .i64 a0_4, .int .i64 a0_5, .int .i64 a0_6, .int .i64 a0_7, .slice A0_8 l0_8.length c0_8, .slice A0_9 l0_9.length c0_9, .int .i64 a0_10, .int .i64 a0_11, .int .i64 a0_12, .int .i64 a0_13, .slice A0_14 l0_14.length c0_14]] rfl (by (try simp only [List.map_toArray, List.map_cons, List.map_nil]); first | done | rfl | (simp only [List.length_drop, List.length_take]; rfl)) ?_; (with_reducible refine (pkt_Bytes.calls a0_0 a0_1 a0_2 a0_3 a0_4 a0_5 a0_6 a0_7 _ _ l0_8 _ _ l0_9 a0_10 a0_11 a0_12 a0_13 _ _ l0_14 t451 _ ?side1 ?side2 ?side3 ?side4 ?side5 ?side6 ?side7 A16.out).mono ?_); (case side1 => repeat (first | exact (Kd.C_below HR0_8.out HB.out) | (with_reducible refine Kd.C_alloc ?_ _) | (with_reducible refine Kd.C_drewN ?_ _) | (with_reducible refine Kd.C_drew ?_))); (case side2 => exact HC0_8.out); (case side3 => repeat (first | exact (Kd.C_below HR0_9.out HB.out) | (with_reducible refine Kd.C_alloc ?_ _) | (with_reducible refine Kd.C_drewN ?_ _) | (with_reducible refine Kd.C_drew ?_))); (case side4 => exact HC0_9.out); (case side5 => repeat (first | exact (Kd.C_below HR0_14.out HB.out) | (with_reducible refine Kd.C_alloc ?_ _) | (with_reducible refine Kd.C_drewN ?_ _) | (with_reducible refine Kd.C_drew ?_))); (case side6 => exact HC0_14.out); (case side7 => exact GB.below hG (by repeat (first | (with_reducible first | exact HB.out | apply below_alloc | apply pw_below_drewN | apply below_drew1 | refine below_set ?_ GE447.out) | exact HB.out))); rintro e w26 ⟨v452, rfl, ho0, hb⟩; refine ⟨_, rfl, ?_⟩; have n0_ := Aside0.mk (Kd.R_lower ho0 (below_size (by repeat (first | (with_reducible first | exact HB.out | apply below_alloc | apply pw_below_drewN | apply below_drew1 | refine below_set ?_ GE447.out) | exact HB.out)))); have n1_ := Aside0.mk (blk_below (g := gb447) (o := .cells #[.int .i64 a0_0, .int .i64 a0_1, .int .i64 a0_2, .int .i64 a0_3, .int .i64 a0_4, .int .i64 a0_5, .int .i64 a0_6, .int .i64 a0_7, .slice A0_8 l0_8.length c0_8, .slice A0_9 l0_9.length c0_9, .int .i64 a0_10, .int .i64 a0_11, .int .i64 a0_12, .int .i64 a0_13, .slice A0_14 l0_14.length c0_14] 27 (0, 0)) (by (with_reducible repeat (first | refine blk_drewN ?_ _ | refine blk_drew ?_ | refine blk_alloc ?_ _)); exact BK447.out) hb); have n2_ := Aside0.mk (below_step (by repeat (first | (with_reducible first | exact HB.out | apply below_alloc | apply pw_below_drewN | apply below_drew1 | refine below_set ?_ GE447.out) | exact HB.out)) hb); clear BK447; clear HB; have HO453 := n0_; have BK447 := n1_; have HB := n2_; clear n0_ n1_ n2_; (try clear hb); (try clear hb2); (try clear hk); (try clear hi); (try clear ho0); obtain ⟨Ao27, co27, eo27⟩ := Kd.R_slice HO453.out; subst eo27; have hcz28_0 : w26.cell? ⟨gb447, 0, none⟩ = some (.int .i64 a0_0) := (blk_cell BK447.out 0).trans rfl; have hcz28_1 : w26.cell? ⟨gb447, 1, none⟩ = some (.int .i64 a0_1) := (blk_cell BK447.out 1).trans rfl; have hcz28_2 : w26.cell? ⟨gb447, 2, none⟩ = some (.int .i64 a0_2) := (blk_cell BK447.out 2).trans rfl; have hcz28_3 : w26.cell? ⟨gb447, 3, none⟩ = some (.int .i64 a0_3) := (blk_cell BK447.out 3).trans rfl; have hcz28_4 : w26.cell? ⟨gb447, 4, none⟩ = some (.int .i64 a0_4) := (blk_cell BK447.out 4).trans rfl; have hcz28_5 : w26.cell? ⟨gb447, 5, none⟩ = some (.int .i64 a0_5) := (blk_cell BK447.out 5).trans rfl; have hcz28_6 : w26.cell? ⟨gb447, 6, none⟩ = some (.int .i64 a0_6) := (blk_cell BK447.out 6).trans rfl; have hcz28_7 : w26.cell? ⟨gb447, 7, none⟩ = some (.int .i64 a0_7) := (blk_cell BK447.out 7).trans rfl; have hcz28_8 : w26.cell? ⟨gb447, 8, none⟩ = some (.slice A0_8 l0_8.length c0_8) := (blk_cell BK447.out 8).trans rfl; have hcz28_9 : w26.cell? ⟨gb447, 9, none⟩ = some (.slice A0_9 l0_9.length c0_9) := (blk_cell BK447.out 9).trans rfl; have hcz28_10 : w26.cell? ⟨gb447, 10, none⟩ = some (.int .i64 a0_10) := (blk_cell BK447.out 10).trans rfl; have hcz28_11 : w26.cell? ⟨gb447, 11, none⟩ = some (.int .i64 a0_11) := (blk_cell BK447.out 11).trans rfl; have hcz28_12 : w26.cell? ⟨gb447, 12, none⟩ = some (.int .i64 a0_12) := (blk_cell BK447.out 12).trans rfl; have hcz28_13 : w26.cell? ⟨gb447, 13, none⟩ = some (.int .i64 a0_13) := (blk_cell BK447.out 13).trans rfl; have hcz28_14 : w26.cell? ⟨gb447, 14, none⟩ = some (.slice A0_14 l0_14.length c0_14) := (blk_cell BK447.out 14).trans rfl; have hfz28_0 := blk_frozen BK447.out 0; have hfz28_1 := blk_frozen BK447.out 1; have hfz28_2 := blk_frozen BK447.out 2; have hfz28_3 := blk_frozen BK447.out 3; have hfz28_4 := blk_frozen BK447.out 4; have hfz28_5 := blk_frozen BK447.out 5; have hfz28_6 := blk_frozen BK447.out 6; have hfz28_7 := blk_frozen BK447.out 7; have hfz28_8 := blk_frozen BK447.out 8; have hfz28_9 := blk_frozen BK447.out 9; have hfz28_10 := blk_frozen BK447.out 10; have hfz28_11 := blk_frozen BK447.out 11; have hfz28_12 := blk_frozen BK447.out 12; have hfz28_13 := blk_frozen BK447.out 13; have hfz28_14 := blk_frozen BK447.out 14))
              go_ret
              exact ⟨by first | rfl | (simp [errW_none, errW_some] <;> rfl) | (simp [*, errW_none, errW_some] <;> rfl), by repeat (first | (with_reducible first | exact HB.out | apply below_alloc | apply pw_below_drewN | apply below_drew1 | refine below_set ?_ GE447.out) | exact HB.out)⟩
            · replace c24 := Bool.eq_false_iff.mpr c24
              subst c24
              have H1 : (none) = some r := by rw [if_neg (show ¬ (false = true) by decide)] at H; exact H
              clear H
              have H := H1
              clear H1
              exact absurd H (by simp)
          · rw [if_neg c23] at H
            have c23b0 : (a0_0 == 4) = false := beq_eq_false_iff_ne.mpr c23
            have c23b1 : (a0_0 != 4) = true := bne_iff_ne.mpr c23
            by_cases c29 : t448 = true
            · subst c29
              have H1 : ((precentorref03_Bytes.f a0_2 a0_3 a0_4 a0_5 a0_6 a0_7 l0_8 l0_9).bind fun t454 => (some ((t451.length : Int) == (wrap64 (7 + (t454.length : Int)))))) = some r := by rw [if_pos rfl] at H; exact H
              clear H
              have H := H1
              clear H1
              replace H := Option.bind_eq_some_iff.mp H
              obtain ⟨t454, A300, H⟩ := H
              replace H : (some ((t451.length : Int) == (wrap64 (7 + (t454.length : Int))))) = some r := H
              have A30 := Aside0.mk A300
              clear A300
              obtain rfl := Option.some.inj H
              have hcz31_0 : wc.cell? ⟨gb447, 0, none⟩ = some (.int .i64 a0_0) := (blk_cell BK447.out 0).trans rfl
              have hcz31_1 : wc.cell? ⟨gb447, 1, none⟩ = some (.int .i64 a0_1) := (blk_cell BK447.out 1).trans rfl
              have hcz31_2 : wc.cell? ⟨gb447, 2, none⟩ = some (.int .i64 a0_2) := (blk_cell BK447.out 2).trans rfl
              have hcz31_3 : wc.cell? ⟨gb447, 3, none⟩ = some (.int .i64 a0_3) := (blk_cell BK447.out 3).trans rfl
              have hcz31_4 : wc.cell? ⟨gb447, 4, none⟩ = some (.int .i64 a0_4) := (blk_cell BK447.out 4).trans rfl
              have hcz31_5 : wc.cell? ⟨gb447, 5, none⟩ = some (.int .i64 a0_5) := (blk_cell BK447.out 5).trans rfl
              have hcz31_6 : wc.cell? ⟨gb447, 6, none⟩ = some (.int .i64 a0_6) := (blk_cell BK447.out 6).trans rfl
              have hcz31_7 : wc.cell? ⟨gb447, 7, none⟩ = some (.int .i64 a0_7) := (blk_cell BK447.out 7).trans rfl
              have hcz31_8 : wc.cell? ⟨gb447, 8, none⟩ = some (.slice A0_8 l0_8.length c0_8) := (blk_cell BK447.out 8).trans rfl
              have hcz31_9 : wc.cell? ⟨gb447, 9, none⟩ = some (.slice A0_9 l0_9.length c0_9) := (blk_cell BK447.out 9).trans rfl
              have hcz31_10 : wc.cell? ⟨gb447, 10, none⟩ = some (.int .i64 a0_10) := (blk_cell BK447.out 10).trans rfl
              have hcz31_11 : wc.cell? ⟨gb447, 11, none⟩ = some (.int .i64 a0_11) := (blk_cell BK447.out 11).trans rfl
              have hcz31_12 : wc.cell? ⟨gb447, 12, none⟩ = some (.int .i64 a0_12) := (blk_cell BK447.out 12).trans rfl
              have hcz31_13 : wc.cell? ⟨gb447, 13, none⟩ = some (.int .i64 a0_13) := (blk_cell BK447.out 13).trans rfl
              have hcz31_14 : wc.cell? ⟨gb447, 14, none⟩ = some (.slice A0_14 l0_14.length c0_14) := (blk_cell BK447.out 14).trans rfl
              have hfz31_0 := blk_frozen BK447.out 0
              have hfz31_1 := blk_frozen BK447.out 1
              have hfz31_2 := blk_frozen BK447.out 2
              have hfz31_3 := blk_frozen BK447.out 3
              have hfz31_4 := blk_frozen BK447.out 4
              have hfz31_5 := blk_frozen BK447.out 5
              have hfz31_6 := blk_frozen BK447.out 6
              have hfz31_7 := blk_frozen BK447.out 7
              have hfz31_8 := blk_frozen BK447.out 8
              have hfz31_9 := blk_frozen BK447.out 9
              have hfz31_10 := blk_frozen BK447.out 10
              have hfz31_11 := blk_frozen BK447.out 11
              have hfz31_12 := blk_frozen BK447.out 12
              have hfz31_13 := blk_frozen BK447.out 13
              have hfz31_14 := blk_frozen BK447.out 14
              go_wp2_with (first | ((with_reducible refine gate_callee (f := 17) rfl ?_); refine goesL_ (some 16) rfl rfl Tryd.func17 (by kernel_rfl) rfl #[.agg #[.int .i64 a0_0, .int .i64 a0_1, .int .i64 a0_2, .int .i64 a0_3, .int .i64 a0_4, .int .i64 a0_5, .int .i64 a0_6, .int .i64 a0_7, .slice A0_8 l0_8.length c0_8, .slice A0_9 l0_9.length c0_9, .int .i64 a0_10, .int .i64 a0_11, .int .i64 a0_12, .int .i64 a0_13, .slice A0_14 l0_14.length c0_14]] rfl (by (try simp only [List.map_toArray, List.map_cons, List.map_nil]); first | done | rfl | (simp only [List.length_drop, List.length_take]; rfl)) ?_; (with_reducible refine (pkt_Bytes.calls a0_0 a0_1 a0_2 a0_3 a0_4 a0_5 a0_6 a0_7 _ _ l0_8 _ _ l0_9 a0_10 a0_11 a0_12 a0_13 _ _ l0_14 t451 _ ?side1 ?side2 ?side3 ?side4 ?side5 ?side6 ?side7 A16.out).mono ?_); (case side1 => repeat (first | exact (Kd.C_below HR0_8.out HB.out) | (with_reducible refine Kd.C_alloc ?_ _) | (with_reducible refine Kd.C_drewN ?_ _) | (with_reducible refine Kd.C_drew ?_))); (case side2 => exact HC0_8.out); (case side3 => repeat (first | exact (Kd.C_below HR0_9.out HB.out) | (with_reducible refine Kd.C_alloc ?_ _) | (with_reducible refine Kd.C_drewN ?_ _) | (with_reducible refine Kd.C_drew ?_))); (case side4 => exact HC0_9.out); (case side5 => repeat (first | exact (Kd.C_below HR0_14.out HB.out) | (with_reducible refine Kd.C_alloc ?_ _) | (with_reducible refine Kd.C_drewN ?_ _) | (with_reducible refine Kd.C_drew ?_))); (case side6 => exact HC0_14.out); (case side7 => exact GB.below hG (by repeat (first | (with_reducible first | exact HB.out | apply below_alloc | apply pw_below_drewN | apply below_drew1 | refine below_set ?_ GE447.out) | exact HB.out))); rintro e w32 ⟨v452, rfl, ho0, hb⟩; refine ⟨_, rfl, ?_⟩; have n0_ := Aside0.mk (Kd.R_lower ho0 (below_size (by repeat (first | (with_reducible first | exact HB.out | apply below_alloc | apply pw_below_drewN | apply below_drew1 | refine below_set ?_ GE447.out) | exact HB.out)))); have n1_ := Aside0.mk (blk_below (g := gb447) (o := .cells #[.int .i64 a0_0, .int .i64 a0_1, .int .i64 a0_2, .int .i64 a0_3, .int .i64 a0_4, .int .i64 a0_5, .int .i64 a0_6, .int .i64 a0_7, .slice A0_8 l0_8.length c0_8, .slice A0_9 l0_9.length c0_9, .int .i64 a0_10, .int .i64 a0_11, .int .i64 a0_12, .int .i64 a0_13, .slice A0_14 l0_14.length c0_14] 27 (0, 0)) (by (with_reducible repeat (first | refine blk_drewN ?_ _ | refine blk_drew ?_ | refine blk_alloc ?_ _)); exact BK447.out) hb); have n2_ := Aside0.mk (below_step (by repeat (first | (with_reducible first | exact HB.out | apply below_alloc | apply pw_below_drewN | apply below_drew1 | refine below_set ?_ GE447.out) | exact HB.out)) hb); clear BK447; clear HB; have HO453 := n0_; have BK447 := n1_; have HB := n2_; clear n0_ n1_ n2_; (try clear hb); (try clear hb2); (try clear hk); (try clear hi); (try clear ho0); obtain ⟨Ao33, co33, eo33⟩ := Kd.R_slice HO453.out; subst eo33; have hcz34_0 : w32.cell? ⟨gb447, 0, none⟩ = some (.int .i64 a0_0) := (blk_cell BK447.out 0).trans rfl; have hcz34_1 : w32.cell? ⟨gb447, 1, none⟩ = some (.int .i64 a0_1) := (blk_cell BK447.out 1).trans rfl; have hcz34_2 : w32.cell? ⟨gb447, 2, none⟩ = some (.int .i64 a0_2) := (blk_cell BK447.out 2).trans rfl; have hcz34_3 : w32.cell? ⟨gb447, 3, none⟩ = some (.int .i64 a0_3) := (blk_cell BK447.out 3).trans rfl; have hcz34_4 : w32.cell? ⟨gb447, 4, none⟩ = some (.int .i64 a0_4) := (blk_cell BK447.out 4).trans rfl; have hcz34_5 : w32.cell? ⟨gb447, 5, none⟩ = some (.int .i64 a0_5) := (blk_cell BK447.out 5).trans rfl; have hcz34_6 : w32.cell? ⟨gb447, 6, none⟩ = some (.int .i64 a0_6) := (blk_cell BK447.out 6).trans rfl; have hcz34_7 : w32.cell? ⟨gb447, 7, none⟩ = some (.int .i64 a0_7) := (blk_cell BK447.out 7).trans rfl; have hcz34_8 : w32.cell? ⟨gb447, 8, none⟩ = some (.slice A0_8 l0_8.length c0_8) := (blk_cell BK447.out 8).trans rfl; have hcz34_9 : w32.cell? ⟨gb447, 9, none⟩ = some (.slice A0_9 l0_9.length c0_9) := (blk_cell BK447.out 9).trans rfl; have hcz34_10 : w32.cell? ⟨gb447, 10, none⟩ = some (.int .i64 a0_10) := (blk_cell BK447.out 10).trans rfl; have hcz34_11 : w32.cell? ⟨gb447, 11, none⟩ = some (.int .i64 a0_11) := (blk_cell BK447.out 11).trans rfl; have hcz34_12 : w32.cell? ⟨gb447, 12, none⟩ = some (.int .i64 a0_12) := (blk_cell BK447.out 12).trans rfl; have hcz34_13 : w32.cell? ⟨gb447, 13, none⟩ = some (.int .i64 a0_13) := (blk_cell BK447.out 13).trans rfl; have hcz34_14 : w32.cell? ⟨gb447, 14, none⟩ = some (.slice A0_14 l0_14.length c0_14) := (blk_cell BK447.out 14).trans rfl; have hfz34_0 := blk_frozen BK447.out 0; have hfz34_1 := blk_frozen BK447.out 1; have hfz34_2 := blk_frozen BK447.out 2; have hfz34_3 := blk_frozen BK447.out 3; have hfz34_4 := blk_frozen BK447.out 4; have hfz34_5 := blk_frozen BK447.out 5; have hfz34_6 := blk_frozen BK447.out 6; have hfz34_7 := blk_frozen BK447.out 7; have hfz34_8 := blk_frozen BK447.out 8; have hfz34_9 := blk_frozen BK447.out 9; have hfz34_10 := blk_frozen BK447.out 10; have hfz34_11 := blk_frozen BK447.out 11; have hfz34_12 := blk_frozen BK447.out 12; have hfz34_13 := blk_frozen BK447.out 13; have hfz34_14 := blk_frozen BK447.out 14) | (go_at_call 21; (with_reducible refine (precentorref03_Bytes.calls a0_2 a0_3 a0_4 a0_5 a0_6 a0_7 _ _ l0_8 _ _ l0_9 t454 _ ?side1 ?side2 ?side3 ?side4 A30.out).mono ?_); (case side1 => repeat (first | exact (Kd.C_below HR0_8.out HB.out) | (with_reducible refine Kd.C_alloc ?_ _) | (with_reducible refine Kd.C_drewN ?_ _) | (with_reducible refine Kd.C_drew ?_))); (case side2 => exact HC0_8.out); (case side3 => repeat (first | exact (Kd.C_below HR0_9.out HB.out) | (with_reducible refine Kd.C_alloc ?_ _) | (with_reducible refine Kd.C_drewN ?_ _) | (with_reducible refine Kd.C_drew ?_))); (case side4 => exact HC0_9.out); rintro e w35 ⟨v455, rfl, ho0, hb⟩; have n0_ := Aside0.mk (Kd.R_elder' (by (with_reducible repeat (first | apply Kd.R_alloc | apply Kd.R_drewN | apply Kd.R_drew)); exact HO453.out) (Kd.R_base ho0) hb); have n1_ := Aside0.mk (Kd.R_lower (Kd.R_new' ho0 (Kd.R_lt (by (with_reducible repeat (first | apply Kd.R_alloc | apply Kd.R_drewN | apply Kd.R_drew)); exact HO453.out))) (below_size (by repeat (first | (with_reducible first | exact HB.out | apply below_alloc | apply pw_below_drewN | apply below_drew1 | refine below_set ?_ GE447.out) | exact HB.out)))); have n2_ := Aside0.mk (blk_below (g := gb447) (o := .cells #[.int .i64 a0_0, .int .i64 a0_1, .int .i64 a0_2, .int .i64 a0_3, .int .i64 a0_4, .int .i64 a0_5, .int .i64 a0_6, .int .i64 a0_7, .slice A0_8 l0_8.length c0_8, .slice A0_9 l0_9.length c0_9, .int .i64 a0_10, .int .i64 a0_11, .int .i64 a0_12, .int .i64 a0_13, .slice A0_14 l0_14.length c0_14] 27 (0, 0)) (by (with_reducible repeat (first | refine blk_drewN ?_ _ | refine blk_drew ?_ | refine blk_alloc ?_ _)); exact BK447.out) hb); have n3_ := Aside0.mk (below_step (by repeat (first | (with_reducible first | exact HB.out | apply below_alloc | apply pw_below_drewN | apply below_drew1 | refine below_set ?_ GE447.out) | exact HB.out)) hb); clear HO453; clear BK447; clear HB; have HO453 := n0_; have HO456 := n1_; have BK447 := n2_; have HB := n3_; clear n0_ n1_ n2_ n3_; (try clear hb); (try clear hb2); (try clear hk); (try clear hi); (try clear ho0); obtain ⟨Ao36, co36, eo36⟩ := Kd.R_slice HO456.out; subst eo36))
              go_ret
              exact ⟨by first | rfl | (simp [errW_none, errW_some] <;> rfl) | (simp [*, errW_none, errW_some] <;> rfl), by repeat (first | (with_reducible first | exact HB.out | apply below_alloc | apply pw_below_drewN | apply below_drew1 | refine below_set ?_ GE447.out) | exact HB.out)⟩
            · replace c29 := Bool.eq_false_iff.mpr c29
              subst c29
              have H1 : (none) = some r := by rw [if_neg (show ¬ (false = true) by decide)] at H; exact H
              clear H
              have H := H1
              clear H1
              exact absurd H (by simp)

-- NOT PRINTED: function 8 (precentorlaw04_PktEach)

end Go.Proofs.YtieolhhokepkjaaDoor.Print
