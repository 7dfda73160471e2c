/- CrcOpens, the plain law. No condition. -/
import Derived.Test.YtpfoomdajgdbeaaSayCrcOpens
import Derived.Test.YtpfoomdajgdbeaaCrcPlain
namespace Go.Proofs.Ytpfoomdajgdbeaa.CrcOpensS
set_option linter.unusedVariables false
set_option linter.unusedSimpArgs false
open Go.RowKit Go.Proofs.Ytpfoomdajgdbeaa.Print Go.Proofs.Ytpfoomdajgdbeaa.Opens Go.Proofs.Ytpfoomdajgdbeaa.Crc Go.Proofs.Ytpfoomdajgdbeaa.CrcPlain
open Go.Proofs.YtpfoomdajgdbeaaW.PrintWords Go.Proofs.YtpfoomdajgdbeaaW.PrintLast

theorem plain : Pure := by
  intro l g0
  have h0 := by_of g0
  refine ⟨0, ?_⟩
  simp only [precentorlaw01_CrcOpens.f, precentorlaw01_shown.f, Option.bind_some]
  by_cases h : (l.length : Int) > 2000
  · rw [if_pos h]
  · rw [if_neg h, open_is (by omega)]
    simp only [Option.bind_some, if_true]
    by_cases h4 : l.length < 4
    · rw [if_pos (by omega), if_pos h4]
      rfl
    · rw [if_neg (by omega), if_neg h4, wrap_id (by omega) (by omega), if_pos (by omega), if_pos (by omega), show ((l.length : Int) - 4).toNat = l.length - 4 by omega, seal_is (by rw [List.length_take]; omega)]
      simp only [Option.bind_some]
      have hs := (sumOf_range (h0.take (l.length - 4))).1
      have hcat : l = l.take (l.length - 4) ++ l.drop (l.length - 4) := (List.take_append_drop _ _).symm
      by_cases he : l.drop (l.length - 4) = tl (sumOf (l.take (l.length - 4)))
      · rw [if_pos he, if_pos rfl]
        rw [← he, ← hcat, if_pos rfl, if_pos rfl]
      · rw [if_neg he, if_neg (by decide)]
        rw [if_neg (fun e => he (by
          have e1 := (str_eq ((h0.take _).app (tl_byt _ hs)) h0).1 e
          have e2 : l.take (l.length - 4) ++ tl (sumOf (l.take (l.length - 4))) = l.take (l.length - 4) ++ l.drop (l.length - 4) := e1.trans hcat
          exact (List.append_cancel_left e2).symm))]
        rfl
end Go.Proofs.Ytpfoomdajgdbeaa.CrcOpensS
