/- AskNone, the plain law. No condition. -/
import Derived.Test.YtddlbfapcodbmaaSayAskNone
import Derived.Test.YtddlbfapcodbmaaPlain
namespace Go.Proofs.Ytddlbfapcodbmaa.AskNoneS
set_option linter.unusedVariables false
set_option linter.unusedSimpArgs false
open Go.RowKit Go.Proofs.Ytddlbfapcodbmaa.Print Go.Proofs.Ytddlbfapcodbmaa.Plain
open Go.Proofs.YtddlbfapcodbmaaW.PrintWords Go.Proofs.YtddlbfapcodbmaaW.PrintLast Go.Proofs.YtddlbfapcodbmaaW.PrintMore

theorem plain : Pure := by
  intro due now wait hd hn hw
  obtain ⟨n0, n1⟩ := wf_u32 hn
  obtain ⟨w0, w1⟩ := wf_u16 hw
  refine ⟨0, ?_⟩
  simp only [precentorlaw10_AskNone.f, shown_true, Option.bind_some, cut w0 (by omega : wait ≤ 4294967295), step_off]
  rw [wrap_id (x := now) (by omega) (by omega), wrap_id (x := 1 + wait % 1000) (by omega) (by omega), wrap_id (x := now + 1) (by omega) (by omega), wrap_id (x := now + 2) (by omega) (by omega), wrap_id (x := now + 2 + _) (by omega) (by omega)]
  rw [step_new _ (by omega) (by omega)]
  simp only [Option.bind_some]
  rw [step_fire (by omega) (by omega) (by omega) (by omega) (by omega) (by omega)]
  simp only [Option.bind_some, if_true, Bool.false_eq_true, if_false]
  rw [if_pos (by omega)]
  simp
end Go.Proofs.Ytddlbfapcodbmaa.AskNoneS
