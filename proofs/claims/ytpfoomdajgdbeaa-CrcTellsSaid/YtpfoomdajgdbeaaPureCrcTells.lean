/- CrcTells, the plain law. No condition. -/
import Derived.Test.YtpfoomdajgdbeaaSayCrcTells
import Derived.Test.YtpfoomdajgdbeaaCrcPlain
namespace Go.Proofs.Ytpfoomdajgdbeaa.CrcTellsS
set_option linter.unusedVariables false
set_option linter.unusedSimpArgs false
open Go.RowKit Go.Proofs.Ytpfoomdajgdbeaa.Print Go.Proofs.Ytpfoomdajgdbeaa.Opens Go.Proofs.Ytpfoomdajgdbeaa.Crc Go.Proofs.Ytpfoomdajgdbeaa.CrcPlain
open Go.Proofs.YtpfoomdajgdbeaaW.PrintWords Go.Proofs.YtpfoomdajgdbeaaW.PrintLast

theorem plain : Pure := by
  intro x0 x1 x2 g0 g1 g2
  have h0 := by_of g0
  have h2 := by_of g2
  have w1 := wf_i64 g1
  have l2 : x2.length ≤ 9223372036854775807 := by have := g2.1; unfold maxLen at this; omega
  refine ⟨20012, ?_⟩
  simp only [precentorlaw01_CrcTells.f, precentorlaw01_shown.f, Option.bind_some]
  by_cases h : (x0.length : Int) > 2000
  · rw [if_pos h]
    simp [precentorlaw01_CrcTells.j0]
  · rw [if_neg h]
    simp only [precentorlaw01_CrcTells.j0, decide_eq_true_eq]
    by_cases hl : (x2.length : Int) > 2000
    · rw [if_pos hl]
    · rw [if_neg hl, ref_open h0 (by omega) (by omega), open_is (by omega), sum_is (by omega), ref_sum h0 (by omega) (by omega), seal_is (by omega), ref_seal h0 (by omega) (by omega), spoil_is (by omega), ref_spoil (by omega) l2 w1.2 (by omega)]
      simp only [Option.bind_some, if_true]
      show some (_ == (strOfNums (spl x0 x1 x2)).toList) = _
      simp [spl]
end Go.Proofs.Ytpfoomdajgdbeaa.CrcTellsS
