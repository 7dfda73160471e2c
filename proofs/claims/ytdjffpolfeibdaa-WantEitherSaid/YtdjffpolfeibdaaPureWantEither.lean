/- WantEither, the plain law. No condition. -/
import Derived.Test.YtdjffpolfeibdaaSayWantEither
import Derived.Test.YtdjffpolfeibdaaPlain
namespace Go.Proofs.Ytdjffpolfeibdaa.WantEitherS
set_option linter.unusedVariables false
set_option linter.unusedSimpArgs false
open Go.RowKit Go.Proofs.Ytdjffpolfeibdaa.Print Go.Proofs.Ytdjffpolfeibdaa.Plain
open Go.Proofs.YtdjffpolfeibdaaW.PrintWords Go.Proofs.YtdjffpolfeibdaaW.PrintLast Go.Proofs.YtdjffpolfeibdaaW.PrintMore

theorem plain : Pure := by
  intro l hi lo _ _ _
  refine ⟨800, ?_⟩
  simp only [precentorlaw14_WantEither.f, shown_true, Option.bind_some]
  by_cases h : lo ≥ hi
  · rw [if_pos h]
  · rw [if_neg h]
    have a0 : asks 0 l hi lo = decide (hi ≤ l) := rfl
    have a1 : asks 1 l hi lo = decide (l ≤ lo) := rfl
    have o0 : want_Other.f 0 = some 1 := rfl
    have o1 : want_Other.f 1 = some 0 := rfl
    by_cases h1 : hi ≤ l
    · have h2 : ¬ l ≤ lo := by omega
      have b0 : asks 0 l hi lo = true := by rw [a0]; exact decide_eq_true h1
      have b1 : asks 1 l hi lo = false := by rw [a1]; exact decide_eq_false h2
      simp [asks_eq, b0, b1, step_yes b0 (h := 0) (n := 1) (by omega) (by omega), step_no b1 (h := 0) (n := 1), h1, o0, o1]
    · have b0 : asks 0 l hi lo = false := by rw [a0]; exact decide_eq_false h1
      by_cases h2 : l ≤ lo
      · have b1 : asks 1 l hi lo = true := by rw [a1]; exact decide_eq_true h2
        simp [asks_eq, b0, b1, step_yes b1 (h := 0) (n := 1) (by omega) (by omega), step_no b0 (h := 0) (n := 1), h1, h2, o0, o1]
      · have b1 : asks 1 l hi lo = false := by rw [a1]; exact decide_eq_false h2
        simp [asks_eq, b0, b1, step_no b1 (h := 0) (n := 1), step_no b0 (h := 0) (n := 1), h1, h2, o0, o1]
end Go.Proofs.Ytdjffpolfeibdaa.WantEitherS
