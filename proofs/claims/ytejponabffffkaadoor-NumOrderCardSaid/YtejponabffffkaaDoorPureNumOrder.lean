/- NumOrder, the plain law. No condition. -/
import Derived.Test.YtejponabffffkaaDoorSayNumOrder
import Derived.Test.YtejponabffffkaaDoorPlain
namespace Go.Proofs.YtejponabffffkaaDoor.NumOrderS
set_option linter.unusedVariables false
set_option linter.unusedSimpArgs false
open Go.RowKit Go.Proofs.YtejponabffffkaaDoor.Print Go.Proofs.YtejponabffffkaaDoor.Opens Go.Proofs.YtejponabffffkaaDoor.Plain
open Go.Proofs.YtejponabffffkaaDoorW.PrintWords Go.Proofs.YtejponabffffkaaDoorW.PrintLast

theorem plain : Pure := by
  intro n m x gn gm gx
  have hx := wf_u8 gx
  refine ⟨400, ?_⟩
  obtain ⟨w0, w1, hW⟩ := wide hx.1
  simp only [precentorlaw02_NumOrder.f, shown_ge (show 20 ≤ 400 by omega), Option.bind_some]
  rw [if_pos w0, if_pos (by simpa using w1)]
  generalize rd [1, 2, 8] (Int.tmod x 3) = W at *
  rw [fits_is, fits_is]
  simp only [Option.bind_some]
  by_cases hn : Ft n W
  · rw [decide_eq_true hn, if_pos rfl]
    by_cases hm : Ft m W
    · rw [decide_eq_true hm]
      simp only [Bool.not_true, precentorlaw02_NumOrder.j0, Bool.false_eq_true, if_false]
      rw [put_good hn (by omega), put_good hm (by omega)]
      simp only [Option.bind_some, if_true]
      obtain ⟨o1, o2⟩ := put_order hn hm
      by_cases h1 : n < m
      · rw [if_pos (o1.2 h1), if_pos h1, if_neg (fun h => by have := o2.1 h; omega), if_neg (by omega)]
      · rw [if_neg (fun h => h1 (o1.1 h)), if_neg h1]
        by_cases h2 : n = m
        · rw [if_pos (o2.2 h2), if_pos h2]
        · rw [if_neg (fun h => h2 (o2.1 h)), if_neg h2]
    · rw [decide_eq_false hm]
      simp [precentorlaw02_NumOrder.j0]
  · rw [decide_eq_false hn]
    simp [precentorlaw02_NumOrder.j0]
end Go.Proofs.YtejponabffffkaaDoor.NumOrderS
