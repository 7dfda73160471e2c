/- CrcGoes, the plain law. No condition. -/
import Derived.Test.YtpfoomdajgdbeaaSayCrcGoes
import Derived.Test.YtpfoomdajgdbeaaCrcPlain
namespace Go.Proofs.Ytpfoomdajgdbeaa.CrcGoesS
set_option linter.unusedVariables false
set_option linter.unusedSimpArgs false
open Go.RowKit Go.Proofs.Ytpfoomdajgdbeaa.Print Go.Proofs.Ytpfoomdajgdbeaa.Opens Go.Proofs.Ytpfoomdajgdbeaa.Crc Go.Proofs.Ytpfoomdajgdbeaa.CrcPlain
open Go.Proofs.YtpfoomdajgdbeaaW.PrintWords Go.Proofs.YtpfoomdajgdbeaaW.PrintLast

theorem plain : Pure := by
  intro a b c g0 g1 g2
  have ha := by_of g0
  have hb := by_of g1
  have hc := by_of g2
  refine ⟨2, ?_⟩
  simp only [precentorlaw01_CrcGoes.f, precentorlaw01_shown.f, Option.bind_some]
  by_cases h : (a.length : Int) > 600
  · rw [if_pos h]
    simp [precentorlaw01_CrcGoes.j0]
  · rw [if_neg h]
    by_cases h1 : (b.length : Int) > 600
    · rw [if_pos h1]
      simp [precentorlaw01_CrcGoes.j0]
    · rw [if_neg h1]
      simp only [precentorlaw01_CrcGoes.j0, decide_eq_true_eq]
      by_cases h2 : (c.length : Int) > 600
      · rw [if_pos h2]
      · rw [if_neg h2]
        simp only [Option.bind_some, List.nil_append, List.length_nil, Nat.zero_add]
        rw [if_pos (by omega), if_pos (by omega), sum_is (by rw [List.length_append]; omega)]
        simp only [Option.bind_some]
        rw [if_pos (by omega), if_pos (by omega), sum_is (by rw [List.length_append]; omega), sum_is (by omega), sum_is (by omega)]
        simp only [Option.bind_some, if_true]
        have := goes ha hb hc
        by_cases he : sumOf a = sumOf b
        · rw [if_pos he, if_pos (this.2 he)]
        · rw [if_neg he, if_neg (fun e => he (this.1 e))]
end Go.Proofs.Ytpfoomdajgdbeaa.CrcGoesS
