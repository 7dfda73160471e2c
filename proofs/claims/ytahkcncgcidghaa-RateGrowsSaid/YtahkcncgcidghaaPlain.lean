/- Plain lemmas on buckets: what the program's functions come to within the bounds. Conditions stand in each lemma. -/
import Derived.Test.YtahkcncgcidghaaPrint2
namespace Go.Proofs.Ytahkcncgcidghaa.Plain
set_option linter.unusedVariables false
set_option linter.unusedSimpArgs false
open Go.RowKit Go.Proofs.Ytahkcncgcidghaa.Print Go.Proofs.Ytahkcncgcidghaa.FloatNat

theorem shown_true : precentorlaw11_shown.f = some true := by decide +kernel
theorem wrap_id {x : Int} (h0 : -9223372036854775808 ≤ x) (h : x ≤ 9223372036854775807) : wrap64 x = x := by
  unfold wrap64; omega
theorem wf_u8 {n : Int} (h : (Lit.int .u8 n).wf = true) : 0 ≤ n ∧ n ≤ 255 := by
  simpa [Lit.wf, IntKind.min, IntKind.max, IntKind.bits, IntKind.signed] using h
theorem cut {x n : Int} (h0 : 0 ≤ x) (h : x ≤ 4294967295) : Int.tmod (wrap64 x) n = x % n := by
  rw [wrap_id (by omega) (by omega), Int.tmod_eq_emod_of_nonneg h0]
/-- A right bucket. -/
def R (now left lo hi b : Int) : Prop := 1 ≤ lo ∧ lo ≤ hi ∧ hi ≤ 1048576 ∧ 1 ≤ b ∧ b ≤ 1048576 ∧ lo ≤ now ∧ now ≤ hi ∧ 0 ≤ left ∧ left ≤ b
instance (now left lo hi b : Int) : Decidable (R now left lo hi b) := inferInstanceAs (Decidable (_ ∧ _))
theorem right_eq (now left lo hi b : Int) : rate_Right.f now left lo hi b = some (decide (R now left lo hi b)) := by
  unfold rate_Right.f
  repeat' split
  all_goals (refine congrArg some (Bool.eq_iff_iff.2 ?_); simp only [decide_eq_true_eq, Bool.false_eq_true, false_iff]; unfold R; omega)
theorem sm {x : Int} (h0 : 0 ≤ x) (h : x ≤ 1048576) : small x := by unfold small; omega
theorem tick_val {now left lo hi b : Int} (naks : Int) (h : R now left lo hi b) : rate_Tick.f now left lo hi b naks = some (refill now lo hi naks, least (left + refill now lo hi naks) b) := by
  obtain ⟨h1, h2, h3, h4, h5, h6, h7, h8, h9⟩ := h
  unfold rate_Tick.f
  rw [if_pos ⟨⟨by omega, sm (by omega) (by omega), sm (by omega) (by omega)⟩, sm (by omega) (by omega), sm (by omega) (by omega), sm (by omega) (by omega)⟩]
theorem refill_bounds {now left lo hi b : Int} (naks : Int) (h : R now left lo hi b) : lo ≤ refill now lo hi naks ∧ refill now lo hi naks ≤ hi := by
  obtain ⟨h1, h2, h3, h4, h5, h6, h7, h8, h9⟩ := h
  unfold refill greatest least
  repeat' split
  all_goals omega
/-- A tick leaves a right bucket, with no less in it, and the least more, or full. -/
theorem tick_right {now left lo hi b : Int} (naks : Int) (h : R now left lo hi b) :
    R (refill now lo hi naks) (least (left + refill now lo hi naks) b) lo hi b ∧ left ≤ least (left + refill now lo hi naks) b ∧ least (left + refill now lo hi naks) b ≤ left + hi ∧
      (least (left + refill now lo hi naks) b < left + lo → least (left + refill now lo hi naks) b = b) := by
  have hb := refill_bounds naks h
  obtain ⟨h1, h2, h3, h4, h5, h6, h7, h8, h9⟩ := h
  generalize refill now lo hi naks = q at *
  unfold least R
  split <;> omega
theorem spend_val {now left lo hi b : Int} (n : Int) (h : R now left lo hi b) : rate_Spend.f now left n = some (if 0 ≤ n ∧ n ≤ left then (now, left - n, true) else (now, left, false)) := by
  obtain ⟨h1, h2, h3, h4, h5, h6, h7, h8, h9⟩ := h
  unfold rate_Spend.f
  by_cases a : n < 0
  · rw [if_pos a, if_neg (by omega)]
  · rw [if_neg a]
    by_cases c : left < n
    · rw [if_pos c, if_neg (by omega)]
    · rw [if_neg c, if_pos (show small now ∧ small left ∧ small n from ⟨sm (by omega) (by omega), sm (by omega) (by omega), sm (by omega) (by omega)⟩), if_pos (show 0 ≤ n ∧ n ≤ left from ⟨by omega, by omega⟩)]
end Go.Proofs.Ytahkcncgcidghaa.Plain
