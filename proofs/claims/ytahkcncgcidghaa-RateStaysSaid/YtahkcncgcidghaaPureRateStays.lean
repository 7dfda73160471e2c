/- RateStays, the plain law. No condition. -/
import Derived.Test.YtahkcncgcidghaaSayRateStays
import Derived.Test.YtahkcncgcidghaaPlain
namespace Go.Proofs.Ytahkcncgcidghaa.RateStaysS
set_option linter.unusedVariables false
set_option linter.unusedSimpArgs false
open Go.RowKit Go.Proofs.Ytahkcncgcidghaa.Print Go.Proofs.Ytahkcncgcidghaa.Plain Go.Proofs.Ytahkcncgcidghaa.FloatNat
open Go.Proofs.YtahkcncgcidghaaW.PrintWords Go.Proofs.YtahkcncgcidghaaW.PrintLast Go.Proofs.YtahkcncgcidghaaW.PrintMore

theorem less {now left lo hi b : Int} (h : R now left lo hi b) : refill now lo hi 1 ≤ refill now lo hi 0 ∧ least (left + refill now lo hi 1) b ≤ least (left + refill now lo hi 0) b := by
  have e : refill now lo hi 1 ≤ refill now lo hi 0 := by
    obtain ⟨h1, h2, h3, h4, h5, h6, h7, h8, h9⟩ := h
    unfold refill greatest least
    repeat' split
    all_goals omega
  refine ⟨e, ?_⟩
  generalize refill now lo hi 1 = p at *
  generalize refill now lo hi 0 = q at *
  unfold least
  repeat' split
  all_goals omega
theorem plain : Pure := by
  rintro ⟨⟨now, left⟩, lo, hi, b, n, naks⟩ _
  refine ⟨1, ?_⟩
  simp only [precentorlaw11_RateStays.f, shown_true, Option.bind_some, right_eq, decide_eq_true_eq]
  by_cases h : R now left lo hi b
  · obtain ⟨h1, h2, h3, h4, h5, h6, h7, h8, h9⟩ := id h
    obtain ⟨t1, t2, t3, _⟩ := tick_right naks h
    obtain ⟨l1, l2⟩ := less h
    have hst : R hi b lo hi b := ⟨h1, h2, h3, h4, h5, by omega, by omega, by omega, by omega⟩
    rw [if_pos h, if_neg (by omega), if_neg (by omega), if_neg (by omega), if_neg (by omega), if_neg (by omega), if_neg (by omega), if_neg (by omega), if_neg (by omega), show decide (left > b) = false from decide_eq_false (by omega)]
    simp only [precentorlaw11_RateStays.j0, Bool.false_eq_true, if_false]
    rw [tick_val naks h, tick_val 0 h, tick_val 1 h, spend_val n h]
    simp only [Option.bind_some, if_true, right_eq, t1, decide_true, rate_Start.f, hst]
    by_cases hn : 0 ≤ n ∧ n ≤ left
    · have hs : R now (left - n) lo hi b := ⟨h1, h2, h3, h4, h5, h6, h7, by omega, by omega⟩
      rw [if_pos hn]
      simp only [hs, decide_true, if_true]
      rw [if_pos hn.1, if_pos hn.2, if_pos t2, if_pos l1, decide_eq_true l2]
    · rw [if_neg hn]
      simp only [h, decide_true, if_true, Bool.false_eq_true, if_false]
      by_cases a : n ≥ 0
      · rw [if_pos a, if_neg (by omega), if_pos (by simp), if_pos t2, if_pos l1, decide_eq_true l2]
      · rw [if_neg a, if_pos (by simp), if_pos t2, if_pos l1, decide_eq_true l2]
  · rw [if_neg h]
end Go.Proofs.Ytahkcncgcidghaa.RateStaysS
