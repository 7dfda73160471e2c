/- RateTells, the plain law. No condition. -/
import Derived.Test.YtahkcncgcidghaaSayRateTells
import Derived.Test.YtahkcncgcidghaaPlain
namespace Go.Proofs.Ytahkcncgcidghaa.RateTellsS
set_option linter.unusedVariables false
set_option linter.unusedSimpArgs false
open Go.RowKit Go.Proofs.Ytahkcncgcidghaa.Print Go.Proofs.Ytahkcncgcidghaa.Plain Go.Proofs.Ytahkcncgcidghaa.FloatNat
open Go.Proofs.YtahkcncgcidghaaW.PrintWords Go.Proofs.YtahkcncgcidghaaW.PrintLast Go.Proofs.YtahkcncgcidghaaW.PrintMore

theorem ref_may (lo hi b : Int) : precentorref11_May.f lo hi b = some (decide (1 ≤ lo ∧ lo ≤ hi ∧ hi ≤ 1048576 ∧ 1 ≤ b ∧ b ≤ 1048576)) := by
  unfold precentorref11_May.f
  repeat' split
  all_goals (refine congrArg some (Bool.eq_iff_iff.2 ?_); simp only [decide_eq_true_eq, Bool.false_eq_true, false_iff]; omega)
theorem ref_right (now left lo hi b : Int) : precentorref11_Right.f now left lo hi b = some (decide (R now left lo hi b)) := by
  unfold precentorref11_Right.f
  rw [ref_may]
  simp only [Option.bind_some, decide_eq_true_eq]
  repeat' split
  all_goals (refine congrArg some (Bool.eq_iff_iff.2 ?_); simp only [decide_eq_true_eq, Bool.false_eq_true, false_iff]; unfold R; omega)
theorem ref_tick {now left lo hi b : Int} (naks : Int) (h : R now left lo hi b) : precentorref11_Tick.f 1 now left lo hi b naks = some (refill now lo hi naks, least (left + refill now lo hi naks) b) := by
  obtain ⟨h1, h2, h3, h4, h5, h6, h7, h8, h9⟩ := h
  unfold precentorref11_Tick.f
  simp only [precentorref11_Tick.j0]
  rw [Int.tdiv_eq_ediv_of_nonneg (by omega), wrap_id (x := now + 1) (by omega) (by omega), wrap_id (x := now / 2) (by omega) (by omega), wrap_id (x := left + lo) (by omega) (by omega), wrap_id (x := left + now / 2) (by omega) (by omega), wrap_id (x := left + hi) (by omega) (by omega), wrap_id (x := left + (now + 1)) (by omega) (by omega)]
  unfold refill greatest least
  repeat' split
  all_goals first | rfl | omega | (simp only [Option.some.injEq, Prod.mk.injEq]; omega)
theorem ref_spend {now left lo hi b : Int} (n : Int) (h : R now left lo hi b) : precentorref11_Spend.f now left n = rate_Spend.f now left n := by
  rw [spend_val n h]
  obtain ⟨h1, h2, h3, h4, h5, h6, h7, h8, h9⟩ := h
  unfold precentorref11_Spend.f
  by_cases a : n < 0
  · rw [if_pos a, if_neg (by omega)]
  · rw [if_neg a]
    by_cases c : n > left
    · rw [if_pos c, if_neg (by omega)]
    · rw [if_neg c, if_pos ⟨by omega, by omega⟩, wrap_id (by omega) (by omega)]
theorem plain : Pure := by
  rintro ⟨⟨now, left⟩, lo, hi, b, n⟩ _
  refine ⟨1, ?_⟩
  simp only [precentorlaw11_RateTells.f, shown_true, Option.bind_some, ref_right, right_eq, bne_self_eq_false, Bool.false_eq_true, if_false, decide_eq_true_eq]
  by_cases h : R now left lo hi b
  · rw [if_pos h, ref_spend n h, tick_val n h, ref_tick n h, spend_val n h]
    simp [rate_Start.f, precentorref11_Start.f]
  · rw [if_neg h]
end Go.Proofs.Ytahkcncgcidghaa.RateTellsS
