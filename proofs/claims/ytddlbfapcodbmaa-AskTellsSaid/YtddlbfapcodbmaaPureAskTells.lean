/- AskTells, the plain law. No condition. -/
import Derived.Test.YtddlbfapcodbmaaSayAskTells
import Derived.Test.YtddlbfapcodbmaaPlain
namespace Go.Proofs.Ytddlbfapcodbmaa.AskTellsS
set_option linter.unusedVariables false
set_option linter.unusedSimpArgs false
open Go.RowKit Go.Proofs.Ytddlbfapcodbmaa.Print Go.Proofs.Ytddlbfapcodbmaa.Plain
open Go.Proofs.YtddlbfapcodbmaaW.PrintWords Go.Proofs.YtddlbfapcodbmaaW.PrintLast Go.Proofs.YtddlbfapcodbmaaW.PrintMore

theorem may_eq (now wait : Int) : precentorref10_May.f now wait = some (decide (0 ≤ now ∧ now ≤ 4611686018427387904 ∧ 1 ≤ wait ∧ wait ≤ 1000)) := by
  unfold precentorref10_May.f
  repeat' split
  all_goals (refine congrArg some (Bool.eq_iff_iff.2 ?_); simp only [decide_eq_true_eq, Bool.false_eq_true, false_iff]; omega)
theorem step_eq {now wait : Int} (due : Int) (gap : Bool) (h : 0 ≤ now ∧ now ≤ 4611686018427387904 ∧ 1 ≤ wait ∧ wait ≤ 1000) : ask_Step.f due now wait gap = precentorref10_Step.f due now wait gap := by
  cases gap with
  | false => rfl
  | true =>
    simp only [precentorref10_Step.f, if_true]
    by_cases h0 : due = 0
    · subst h0
      rw [step_new wait h.1 h.2.1, if_pos rfl, wrap_id (by omega) (by omega)]
    · rw [if_neg h0]
      by_cases h1 : due ≤ now
      · rw [if_pos h1, step_fire h0 h1 h.1 h.2.1 h.2.2.1 h.2.2.2, wrap_id (by omega) (by omega)]
      · rw [if_neg h1, step_wait wait h0 (by omega)]
theorem hush_eq (due now wait : Int) : ask_Hush.f due now wait = precentorref10_Hush.f due now wait := by
  unfold ask_Hush.f precentorref10_Hush.f mx
  split
  · rfl
  · split
    · rfl
    · rfl
theorem hush_some (due now wait : Int) : ∃ r, precentorref10_Hush.f due now wait = some r := by
  unfold precentorref10_Hush.f
  repeat' split
  all_goals exact ⟨_, rfl⟩
theorem plain : Pure := by
  rintro ⟨⟨due⟩, now, wait, gap⟩ _
  refine ⟨0, ?_⟩
  simp only [precentorlaw10_AskTells.f, shown_true, Option.bind_some, may_eq, decide_eq_true_eq]
  by_cases h : 0 ≤ now ∧ now ≤ 4611686018427387904 ∧ 1 ≤ wait ∧ wait ≤ 1000
  · rw [if_pos h, step_eq due gap h, hush_eq]
    obtain ⟨r, hr⟩ := step_some due now wait gap
    rw [step_eq due gap h] at hr
    obtain ⟨q, hq⟩ := hush_some due now wait
    simp [hr, hq]
  · rw [if_neg h]
end Go.Proofs.Ytddlbfapcodbmaa.AskTellsS
