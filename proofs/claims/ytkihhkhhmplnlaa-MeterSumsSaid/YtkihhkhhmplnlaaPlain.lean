/- Plain lemmas on the load: what the document's functions and the program's come to within the bounds. Conditions stand in each lemma. -/
import Derived.Test.YtkihhkhhmplnlaaPrint2
namespace Go.Proofs.Ytkihhkhhmplnlaa.Plain
set_option linter.unusedVariables false
set_option linter.unusedSimpArgs false
open Go.RowKit Go.Proofs.Ytkihhkhhmplnlaa.Print Go.Proofs.Ytkihhkhhmplnlaa.FloatNat

theorem shown_true : precentorlaw13_shown.f = some true := by decide +kernel

def R (a m b : Int) : Prop := 0 ≤ a ∧ a ≤ 1000 ∧ 0 ≤ m ∧ m ≤ 1099511627776 ∧ 0 ≤ b ∧ b ≤ 1099511627776
instance (a m b : Int) : Decidable (R a m b) := inferInstanceAs (Decidable (_ ∧ _))
def M (x y n : Int) : Prop := 0 ≤ x ∧ x ≤ 1099511627776 ∧ 0 ≤ y ∧ y ≤ 1099511627776 ∧ 1 ≤ n ∧ n ≤ 1000
instance (x y n : Int) : Decidable (M x y n) := inferInstanceAs (Decidable (_ ∧ _))

theorem right_eq (a m b : Int) : precentorref13_Right.f a m b = some (decide (R a m b)) := by
  unfold precentorref13_Right.f
  repeat' split
  all_goals (refine congrArg some (Bool.eq_iff_iff.2 ?_); simp only [decide_eq_true_eq, Bool.false_eq_true, false_iff]; unfold R; omega)
theorem may_eq (x y n : Int) : precentorref13_May.f x y n = some (decide (M x y n)) := by
  unfold precentorref13_May.f
  repeat' split
  all_goals (refine congrArg some (Bool.eq_iff_iff.2 ?_); simp only [decide_eq_true_eq, Bool.false_eq_true, false_iff]; unfold M; omega)
theorem wrap_id {x : Int} (h0 : -9223372036854775808 ≤ x) (h : x ≤ 9223372036854775807) : wrap64 x = x := by
  unfold wrap64; omega
theorem least_id {x : Int} (h : x ≤ 1099511627776) : least x 1099511627776 = x := by
  unfold least; split <;> omega
theorem small_of {x : Int} (h0 : 0 ≤ x) (h : x ≤ 1099511627776) : small x := by unfold small; omega
theorem tick_eq {a m b : Int} (n : Int) (h : R a m b) : meter_Tick.f a m b n = precentorref13_Tick.f a m b n := by
  obtain ⟨h1, h2, h3, h4, h5, h6⟩ := h
  unfold meter_Tick.f precentorref13_Tick.f
  rw [if_pos ⟨small_of h3 h4, small_of h5 h6⟩, least_id h4, least_id h6]
theorem most_eq (x : Int) : precentorref13_most.f x = some (least x 1099511627776) := by
  unfold precentorref13_most.f least; split <;> rfl
/-- What Add gives within the bounds. -/
theorem add_val {a m b x y : Int} (h : R a m b) (hx : 0 ≤ x ∧ x ≤ 1099511627776) (hy : 0 ≤ y ∧ y ≤ 1099511627776) : meter_Add.f a m b x y = some (a, least (m + x) 1099511627776, least (b + y) 1099511627776) := by
  obtain ⟨h1, h2, h3, h4, h5, h6⟩ := h
  unfold meter_Add.f
  rw [if_pos ⟨⟨small_of h3 h4, small_of h5 h6⟩, small_of hx.1 hx.2, small_of hy.1 hy.2⟩]
theorem add_eq {a m b x y : Int} (h : R a m b) (hx : 0 ≤ x ∧ x ≤ 1099511627776) (hy : 0 ≤ y ∧ y ≤ 1099511627776) : meter_Add.f a m b x y = precentorref13_Add.f a m b x y := by
  rw [add_val h hx hy]
  obtain ⟨h1, h2, h3, h4, h5, h6⟩ := h
  unfold precentorref13_Add.f
  simp only [most_eq, Option.bind_some]
  rw [wrap_id (by omega) (by omega), wrap_id (by omega) (by omega)]
theorem ref_tick_some (a m b n : Int) : ∃ r, precentorref13_Tick.f a m b n = some r := by
  unfold precentorref13_Tick.f; split <;> exact ⟨_, rfl⟩
end Go.Proofs.Ytkihhkhhmplnlaa.Plain
