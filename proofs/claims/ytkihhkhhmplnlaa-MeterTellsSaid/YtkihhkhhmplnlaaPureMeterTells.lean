/- MeterTells, the plain law. No condition. -/
import Derived.Test.YtkihhkhhmplnlaaSayMeterTells
import Derived.Test.YtkihhkhhmplnlaaPlain
namespace Go.Proofs.Ytkihhkhhmplnlaa.MeterTellsS
set_option linter.unusedVariables false
set_option linter.unusedSimpArgs false
open Go.RowKit Go.Proofs.Ytkihhkhhmplnlaa.Print Go.Proofs.Ytkihhkhhmplnlaa.Plain

theorem plain : Pure := by
  rintro ⟨⟨a, m, b⟩, many, size, window⟩ _
  refine ⟨2, ?_⟩
  simp only [precentorlaw13_MeterTells.f, shown_true, Option.bind_some, right_eq, may_eq, decide_eq_true_eq]
  by_cases hr : R a m b
  · rw [if_pos hr]
    by_cases hm : M many size window
    · obtain ⟨r, ht⟩ := ref_tick_some a m b window
      simp only [precentorlaw13_MeterTells.j0, hm, decide_true, Bool.not_true, Bool.false_eq_true, if_false, tick_eq window hr, ht, Option.bind_some, if_true,
        add_eq hr ⟨hm.1, hm.2.1⟩ ⟨hm.2.2.1, hm.2.2.2.1⟩]
      rw [← add_eq hr ⟨hm.1, hm.2.1⟩ ⟨hm.2.2.1, hm.2.2.2.1⟩, add_val hr ⟨hm.1, hm.2.1⟩ ⟨hm.2.2.1, hm.2.2.2.1⟩]
      simp
    · simp [precentorlaw13_MeterTells.j0, hm]
  · rw [if_neg hr]
    simp [precentorlaw13_MeterTells.j0]
end Go.Proofs.Ytkihhkhhmplnlaa.MeterTellsS
