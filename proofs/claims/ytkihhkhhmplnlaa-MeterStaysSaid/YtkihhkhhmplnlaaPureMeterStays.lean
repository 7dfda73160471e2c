/- MeterStays, the plain law. No condition. -/
import Derived.Test.YtkihhkhhmplnlaaSayMeterStays
import Derived.Test.YtkihhkhhmplnlaaPlain
namespace Go.Proofs.Ytkihhkhhmplnlaa.MeterStaysS
set_option linter.unusedVariables false
set_option linter.unusedSimpArgs false
open Go.RowKit Go.Proofs.Ytkihhkhhmplnlaa.Print Go.Proofs.Ytkihhkhhmplnlaa.Plain Go.Proofs.Ytkihhkhhmplnlaa.FloatNat

theorem least_le (x : Int) : least x 1099511627776 ≤ 1099511627776 := by unfold least; split <;> omega
theorem least_nn {x : Int} (h : 0 ≤ x) : 0 ≤ least x 1099511627776 := by unfold least; split <;> omega
theorem least_ge {x y : Int} (h : y ≤ x) (h2 : y ≤ 1099511627776) : y ≤ least x 1099511627776 := by unfold least; split <;> omega
theorem least_twice {x y : Int} (h : 0 ≤ y) : least (least x 1099511627776 + y) 1099511627776 = least (x + y) 1099511627776 := by
  unfold least
  repeat' split
  all_goals omega

theorem plain : Pure := by
  rintro ⟨⟨at', m, b⟩, x, y, c, d⟩ ⟨_, wx, wy, wc, wd⟩
  refine ⟨2, ?_⟩
  simp only [precentorlaw13_MeterStays.f, shown_true, Option.bind_some, right_eq, may_eq, decide_eq_true_eq]
  by_cases hr : R at' m b
  · rw [if_pos hr]
    by_cases h1 : M x y 1
    · rw [if_pos h1]
      by_cases h2 : M c d 1
      · rw [if_pos h2]
        obtain ⟨p1, p2, p3, p4, _⟩ := h1
        obtain ⟨q1, q2, q3, q4, _⟩ := h2
        rw [wrap_id (x := x + c) (by omega) (by omega), wrap_id (x := y + d) (by omega) (by omega)]
        by_cases h3 : x + c > 1099511627776
        · rw [if_pos h3]; simp [precentorlaw13_MeterStays.j0]
        · rw [if_neg h3]
          by_cases h4 : y + d > 1099511627776
          · simp [precentorlaw13_MeterStays.j0, h4]
          · simp only [precentorlaw13_MeterStays.j0, h4, decide_false, Bool.false_eq_true, if_false, if_true]
            obtain ⟨r1, r2, r3, r4, r5, r6⟩ := id hr
            have hr2 : R at' (least (m + x) 1099511627776) (least (b + y) 1099511627776) := ⟨r1, r2, least_nn (by omega), least_le _, least_nn (by omega), least_le _⟩
            rw [wrap_id (x := x + c) (by omega) (by omega), wrap_id (x := y + d) (by omega) (by omega)]
            rw [add_val hr ⟨p1, p2⟩ ⟨p3, p4⟩, add_val hr (x := x + c) (y := y + d) ⟨by omega, by omega⟩ ⟨by omega, by omega⟩]
            simp only [Option.bind_some, tick_eq 1 hr2, add_val hr2 ⟨q1, q2⟩ ⟨q3, q4⟩, right_eq, hr2, decide_true, if_true]
            unfold precentorref13_Tick.f
            rw [wrap_id (x := at' + 1) (by omega) (by omega), if_neg (by omega)]
            rw [least_twice q1, least_twice q3, show m + x + c = m + (x + c) by omega, show b + y + d = b + (y + d) by omega]
            have e1 : least (m + x) 1099511627776 ≥ m := least_ge (by omega) (by omega)
            have e2 : least (b + y) 1099511627776 ≥ b := least_ge (by omega) (by omega)
            simp [e1, e2]
      · rw [if_neg h2]; simp [precentorlaw13_MeterStays.j0]
    · rw [if_neg h1]; simp [precentorlaw13_MeterStays.j0]
  · rw [if_neg hr]; simp [precentorlaw13_MeterStays.j0]
end Go.Proofs.Ytkihhkhhmplnlaa.MeterStaysS
