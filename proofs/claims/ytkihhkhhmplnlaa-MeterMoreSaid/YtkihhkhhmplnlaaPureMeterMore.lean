/- MeterMore, the plain law. No condition. -/
import Derived.Test.YtkihhkhhmplnlaaSayMeterMore
import Derived.Test.YtkihhkhhmplnlaaPlain
namespace Go.Proofs.Ytkihhkhhmplnlaa.MeterMoreS
set_option linter.unusedVariables false
set_option linter.unusedSimpArgs false
open Go.RowKit Go.Proofs.Ytkihhkhhmplnlaa.Print Go.Proofs.Ytkihhkhhmplnlaa.Plain Go.Proofs.Ytkihhkhhmplnlaa.FloatNat

theorem wf_u32 {n : Int} (h : (Lit.int .u32 n).wf = true) : 0 ≤ n ∧ n ≤ 4294967295 := by
  simpa [Lit.wf, IntKind.min, IntKind.max, IntKind.bits, IntKind.signed] using h
theorem least_le (x : Int) : least x 1099511627776 ≤ 1099511627776 := by unfold least; split <;> omega
theorem least_mono {x y : Int} (h : x ≤ y) : least x 1099511627776 ≤ least y 1099511627776 := by
  unfold least
  repeat' split
  all_goals omega

theorem plain : Pure := by
  rintro ⟨⟨at', m, b⟩, x, y, more⟩ ⟨_, wx, wy, wm⟩
  have hm := wf_u32 wm
  refine ⟨2, ?_⟩
  simp only [precentorlaw13_MeterMore.f, shown_true, Option.bind_some, right_eq, may_eq, decide_eq_true_eq]
  by_cases hr : R at' m b
  · rw [if_pos hr]
    by_cases h1 : M x y 1
    · rw [if_pos h1]
      obtain ⟨p1, p2, p3, p4, _⟩ := h1
      obtain ⟨r1, r2, r3, r4, r5, r6⟩ := id hr
      simp only at hm
      rw [wrap_id (x := more) (by omega) (by omega), wrap_id (x := x + more) (by omega) (by omega)]
      by_cases h3 : x + more > 1099511627776
      · simp [precentorlaw13_MeterMore.j0, h3]
      · simp only [precentorlaw13_MeterMore.j0, h3, decide_false, Bool.false_eq_true, if_false, if_true]
        rw [wrap_id (x := more) (by omega) (by omega), wrap_id (x := x + more) (by omega) (by omega), wrap_id (x := m + x) (by omega) (by omega), wrap_id (x := b + y) (by omega) (by omega)]
        rw [add_val hr ⟨p1, p2⟩ ⟨p3, p4⟩, add_val hr (x := x + more) ⟨by omega, by omega⟩ ⟨p3, p4⟩]
        simp only [Option.bind_some]
        rw [if_pos (least_mono (by omega)), if_pos True.intro, if_pos (least_le _), if_pos (least_le _)]
        by_cases h5 : m + x > 1099511627776
        · rw [if_pos h5]
          by_cases h6 : b + y > 1099511627776
          · rw [if_pos h6]
          · rw [if_neg h6, least_id (by omega)]; simp
        · rw [if_neg h5, if_pos (least_id (by omega))]
          by_cases h6 : b + y > 1099511627776
          · rw [if_pos h6]
          · rw [if_neg h6, least_id (by omega)]; simp
    · rw [if_neg h1]; simp [precentorlaw13_MeterMore.j0]
  · rw [if_neg hr]; simp [precentorlaw13_MeterMore.j0]
end Go.Proofs.Ytkihhkhhmplnlaa.MeterMoreS
