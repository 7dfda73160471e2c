/- CrcBack, the plain law. No condition. -/
import Derived.Test.YtpfoomdajgdbeaaSayCrcBack
import Derived.Test.YtpfoomdajgdbeaaCrcPlain
namespace Go.Proofs.Ytpfoomdajgdbeaa.CrcBackS
set_option linter.unusedVariables false
set_option linter.unusedSimpArgs false
open Go.RowKit Go.Proofs.Ytpfoomdajgdbeaa.Print Go.Proofs.Ytpfoomdajgdbeaa.Opens Go.Proofs.Ytpfoomdajgdbeaa.Crc Go.Proofs.Ytpfoomdajgdbeaa.CrcPlain
open Go.Proofs.YtpfoomdajgdbeaaW.PrintWords Go.Proofs.YtpfoomdajgdbeaaW.PrintLast

theorem plain : Pure := by
  intro x0 x1 g0 g1
  have h0 := by_of g0
  have h1 := by_of g1
  refine ⟨2, ?_⟩
  simp only [precentorlaw01_CrcBack.f, precentorlaw01_shown.f, Option.bind_some]
  by_cases h : (x0.length : Int) > 2000
  · rw [if_pos h]
    simp [precentorlaw01_CrcBack.j0]
  · rw [if_neg h]
    simp only [precentorlaw01_CrcBack.j0, decide_eq_true_eq]
    by_cases hl : (x1.length : Int) > 2000
    · rw [if_pos hl]
    · rw [if_neg hl, seal_is (by omega), seal_is (by omega)]
      simp only [Option.bind_some]
      rw [open_seal (by omega)]
      simp only [Option.bind_some, if_true]
      rw [if_pos (by rw [wrap_id (by omega) (by omega), List.length_append, tl_length]; omega)]
      have s0 := (sumOf_range h0).1
      have s1 := (sumOf_range h1).1
      by_cases he : x0 = x1
      · subst he
        simp
      · have hne : ¬ (strOfNums x0).toList = (strOfNums x1).toList := fun e => he ((str_eq h0 h1).1 e)
        have hne2 : ¬ (strOfNums (x0 ++ tl (sumOf x0))).toList = (strOfNums (x1 ++ tl (sumOf x1))).toList := fun e => by
          have e1 := (str_eq (h0.app (tl_byt _ s0)) (h1.app (tl_byt _ s1))).1 e
          have e2 := congrArg List.length e1
          rw [List.length_append, List.length_append, tl_length, tl_length] at e2
          exact he (List.append_inj_left e1 (by omega))
        rw [if_neg hne2, if_neg hne]
end Go.Proofs.Ytpfoomdajgdbeaa.CrcBackS
