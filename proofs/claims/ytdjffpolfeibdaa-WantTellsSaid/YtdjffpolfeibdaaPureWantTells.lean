/- WantTells, the plain law. No condition. -/
import Derived.Test.YtdjffpolfeibdaaSayWantTells
import Derived.Test.YtdjffpolfeibdaaPlain
namespace Go.Proofs.Ytdjffpolfeibdaa.WantTellsS
set_option linter.unusedVariables false
set_option linter.unusedSimpArgs false
open Go.RowKit Go.Proofs.Ytdjffpolfeibdaa.Print Go.Proofs.Ytdjffpolfeibdaa.Plain
open Go.Proofs.YtdjffpolfeibdaaW.PrintWords Go.Proofs.YtdjffpolfeibdaaW.PrintLast Go.Proofs.YtdjffpolfeibdaaW.PrintMore

theorem may_eq (e hi lo n : Int) : precentorref14_May.f e hi lo n = some (decide (0 ≤ e ∧ e ≤ 1 ∧ lo < hi ∧ 1 ≤ n)) := by
  unfold precentorref14_May.f
  repeat' split
  all_goals (refine congrArg some (Bool.eq_iff_iff.2 ?_); simp only [decide_eq_true_eq, Bool.false_eq_true, false_iff]; omega)
theorem ref_asks (e l hi lo : Int) : precentorref14_Asks.f e l hi lo = want_Asks.f e l hi lo := by
  unfold precentorref14_Asks.f want_Asks.f
  split <;> rfl
theorem ref_step (h e l hi lo n : Int) : precentorref14_Step.f h e l hi lo n = want_Step.f h e l hi lo n := by
  unfold precentorref14_Step.f want_Step.f
  rw [ref_asks]
theorem ref_other {e : Int} (h : 0 ≤ e) (h1 : e ≤ 1) : precentorref14_Other.f e = want_Other.f e := by
  unfold precentorref14_Other.f want_Other.f
  split
  · rw [wrap_id (by omega) (by omega)]; congr 1; omega
  · rw [wrap_id (by omega) (by omega)]; congr 1; omega
theorem step_some (h e l hi lo n : Int) : ∃ r, want_Step.f h e l hi lo n = some r := by
  unfold want_Step.f
  rw [asks_eq]
  simp only [Option.bind_some]
  repeat' split
  all_goals exact ⟨_, rfl⟩
theorem other_some (e : Int) : ∃ r, want_Other.f e = some r := by
  unfold want_Other.f
  split <;> exact ⟨_, rfl⟩
theorem plain : Pure := by
  rintro ⟨⟨h⟩, e, l, hi, lo, n⟩ _
  refine ⟨800, ?_⟩
  simp only [precentorlaw14_WantTells.f, shown_true, Option.bind_some, may_eq, decide_eq_true_eq]
  have key : precentorlaw14_WantTells.j0 800 e l hi lo n true true h = some true := by simp [precentorlaw14_WantTells.j0]
  by_cases hm : 0 ≤ e ∧ e ≤ 1 ∧ lo < hi ∧ 1 ≤ n
  · rw [if_pos hm]
    split
    · exact key
    · by_cases hb : h > 1152921504606846976
      · rw [decide_eq_true hb]; exact key
      · rw [decide_eq_false hb]
        obtain ⟨r, hr⟩ := step_some h e l hi lo n
        obtain ⟨q, hq⟩ := other_some e
        simp [precentorlaw14_WantTells.j0, ref_step, ref_asks, ref_other hm.1 hm.2.1, hr, hq, asks_eq]
  · rw [if_neg hm]; exact key
end Go.Proofs.Ytdjffpolfeibdaa.WantTellsS
