/- NumTells, the plain law. No condition. -/
import Derived.Test.YtejponabffffkaaDoorSayNumTells
import Derived.Test.YtejponabffffkaaDoorPlain
namespace Go.Proofs.YtejponabffffkaaDoor.NumTellsS
set_option linter.unusedVariables false
set_option linter.unusedSimpArgs false
open Go.RowKit Go.Proofs.YtejponabffffkaaDoor.Print Go.Proofs.YtejponabffffkaaDoor.Opens Go.Proofs.YtejponabffffkaaDoor.Plain
open Go.Proofs.YtejponabffffkaaDoorW.PrintWords Go.Proofs.YtejponabffffkaaDoorW.PrintLast

theorem plain : Pure := by
  rintro ⟨n, W, b, l⟩ ⟨gn, gW, ⟨_, gb⟩, ⟨_, gl⟩⟩
  dsimp only at *
  have hb := by_of gb
  have hn := wf_i64 gn
  refine ⟨400, ?_⟩
  simp only [precentorlaw02_NumTells.f, shown_ge (show 20 ≤ 400 by omega), Option.bind_some]
  by_cases h1 : (b.length : Int) > 300
  · rw [if_pos h1]; simp [precentorlaw02_NumTells.j0]
  · rw [if_neg h1]
    by_cases h2 : (l.length : Int) > 100
    · rw [decide_eq_true h2]; simp [precentorlaw02_NumTells.j0]
    · rw [decide_eq_false h2]
      simp only [precentorlaw02_NumTells.j0, Bool.false_eq_true, if_false]
      rw [rtake_is hb (by omega) W (by omega), rtakerow_is hb (by omega) hn.2 W (by omega)]
      obtain ⟨p, hp⟩ := take_some b W
      obtain ⟨q, hq, hql⟩ := takerow_some (W := W) (k := 399) hn.2 hb (by omega) (by omega)
      rw [hp, hq]
      simp only [Option.bind_some, if_true]
      rw [same_is (by omega) (by omega), decide_eq_true rfl]
      simp only [Option.bind_some, if_true, bne_self_eq_false, precentorlaw02_NumTells.j1, Bool.false_eq_true, if_false]
      rw [fits_is, rfits_is]
      simp only [Option.bind_some, beq_self_eq_true, if_true]
      rw [rput_is (by omega), rputrow_is (by omega) (by omega), putrow_is (by omega) (by omega)]
      have hput : ∃ p, num_Put.f 398 n W = some p := by
        by_cases h : Ft n W
        · exact ⟨_, put_good h (by omega)⟩
        · exact ⟨_, put_bad h _⟩
      obtain ⟨p, hp⟩ := hput
      rw [hp]
      simp
end Go.Proofs.YtejponabffffkaaDoor.NumTellsS
