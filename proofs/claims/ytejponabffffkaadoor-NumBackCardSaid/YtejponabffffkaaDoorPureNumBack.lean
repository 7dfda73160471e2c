/- NumBack, the plain law. No condition. -/
import Derived.Test.YtejponabffffkaaDoorSayNumBack
import Derived.Test.YtejponabffffkaaDoorPlain
namespace Go.Proofs.YtejponabffffkaaDoor.NumBackS
set_option linter.unusedVariables false
set_option linter.unusedSimpArgs false
open Go.RowKit Go.Proofs.YtejponabffffkaaDoor.Print Go.Proofs.YtejponabffffkaaDoor.Opens Go.Proofs.YtejponabffffkaaDoor.Plain
open Go.Proofs.YtejponabffffkaaDoorW.PrintWords Go.Proofs.YtejponabffffkaaDoorW.PrintLast

theorem plain : Pure := by
  intro n x t gn gx ⟨_, gt⟩
  have ht := by_of gt
  have hx := wf_u8 gx
  refine ⟨400, ?_⟩
  simp only [precentorlaw02_NumBack.f, shown_ge (show 20 ≤ 400 by omega), Option.bind_some]
  by_cases h1 : (t.length : Int) > 300
  · rw [if_pos h1]
  · obtain ⟨w0, w1, hW⟩ := wide hx.1
    rw [if_neg h1, if_pos w0, if_pos (by simpa using w1)]
    generalize rd [1, 2, 8] (Int.tmod x 3) = W at *
    rw [fits_is]
    by_cases hF : Ft n W
    · have hl := enc_len (n := n) hW
      rw [put_good hF (by omega), decide_eq_true hF]
      simp only [Option.bind_some, if_true, List.nil_append, List.length_nil, Nat.zero_add]
      rw [if_pos (by omega), if_pos (by omega), take_good hW ((enc_by _ _).append ht), takeS_enc hF, take_good hW ht]
      simp only [Option.bind_some]
      rw [if_pos trivial, if_pos hl.2, if_pos trivial]
      rcases hT : takeS t W with _ | ⟨m, r⟩
      · simp
      · obtain ⟨f1, f2, f3⟩ := takeS_is hW ht hT
        simp only [Option.bind_some]
        rw [if_pos trivial, put_good f1 (by omega)]
        simp only [Option.bind_some]
        have hl2 := enc_len (n := m) hW
        have hlen : (enc W.toNat m).length + r.length = t.length := by rw [f2, List.length_append]
        rw [if_pos (by rw [strOfNums_size, strOfNums_size]; omega), str_append, ← f2, if_pos rfl]
        simp
    · rw [put_bad hF, decide_eq_false hF]
      simp
end Go.Proofs.YtejponabffffkaaDoor.NumBackS
