/- ItemTells, the plain law. No condition. -/
import Derived.Test.YtocoikndkmdnkaaDoorSayItemTells
import Derived.Test.YtocoikndkmdnkaaDoorTakeRef
namespace Go.Proofs.YtocoikndkmdnkaaDoor.ItemTellsS
set_option linter.unusedVariables false
set_option linter.unusedSimpArgs false
open Go.RowKit Go.Proofs.YtocoikndkmdnkaaDoor.Print Go.Proofs.YtocoikndkmdnkaaDoor.Opens Go.Proofs.YtocoikndkmdnkaaDoor.NumPlain
open Go.Proofs.YtocoikndkmdnkaaDoorW.PrintWords Go.Proofs.YtocoikndkmdnkaaDoorW.PrintLast

theorem plain : Pure := by
  intro x y l g g' gl
  obtain ⟨k, s, e, i, t, c, L, bo⟩ := x
  obtain ⟨k', s', e', i', t', c', L', bo'⟩ := y
  obtain ⟨hk, _, _, _, _, _, _, hbo⟩ := g
  have hbo := by_of hbo.2
  have hl := by_of gl.2
  refine ⟨10, ?_⟩
  have j0 : ∀ n : Nat, precentorlaw03_ItemTells.j0 (n + 1) l true true k s e i t c L bo k' s' e' i' t' c' L' bo' = some true := fun n => by simp only [precentorlaw03_ItemTells.j0]; rw [if_pos trivial]
  simp only [precentorlaw03_ItemTells.f, precentorlaw03_shown.f]
  rw [Option.bind_some, few_is, Option.bind_some]
  split
  · rename_i hf
    rw [Bool.and_eq_true, decide_eq_true_eq, decide_eq_true_eq] at hf
    rw [few_is, Option.bind_some]
    split
    · rename_i hf'
      rw [Bool.and_eq_true, decide_eq_true_eq, decide_eq_true_eq] at hf'
      by_cases h12 : (l.length : Int) > 1200
      · rw [decide_eq_true h12]; exact j0 9
      · rw [decide_eq_false h12]
        have hT : item_Take.f l = some (tell9 (takeItem l)) := if_pos (okL_by hl (by omega))
        have hR : precentorref03_Take.f l = some (tell9 (takeItem l)) := by
          have ho : okR l = true := by
            unfold okR
            rw [Bool.and_eq_true, List.all_eq_true, decide_eq_true_eq]
            exact ⟨fun x hx => decide_eq_true (hl x hx), by omega⟩
          unfold precentorref03_Take.f
          rw [if_pos ho, ref_take_is hl (by omega)]
        have hS : precentorref03_Same.f (tell9 (takeItem l)).1 (tell9 (takeItem l)).2.1 (tell9 (takeItem l)).2.2.1 (tell9 (takeItem l)).2.2.2.1 (tell9 (takeItem l)).2.2.2.2.1 (tell9 (takeItem l)).2.2.2.2.2.1 (tell9 (takeItem l)).2.2.2.2.2.2.1 (tell9 (takeItem l)).2.2.2.2.2.2.2.1 (tell9 (takeItem l)).1 (tell9 (takeItem l)).2.1 (tell9 (takeItem l)).2.2.1 (tell9 (takeItem l)).2.2.2.1 (tell9 (takeItem l)).2.2.2.2.1 (tell9 (takeItem l)).2.2.2.2.2.1 (tell9 (takeItem l)).2.2.2.2.2.2.1 (tell9 (takeItem l)).2.2.2.2.2.2.2.1 = some true := by
          refine (if_pos ?_).trans (congrArg some (same_refl _ _ _ _ _ _ _ _))
          cases ht : takeItem l with
          | none => exact (by decide : (0 : Nat) < 10000)
          | some p =>
            obtain ⟨a1, a2, a3, a4, a5, a6, a7, a8⟩ := p
            have := (may_len (take_inv hl (by omega) ht).1).1
            show a7.length < 10000
            omega
        simp only [precentorlaw03_ItemTells.j0]
        rw [if_neg Bool.false_ne_true, hT, Option.bind_some, hR, Option.bind_some, if_pos trivial, show item_May.f k s e i t c L bo = some (mayB k s e i t c L bo.length) from if_pos hk, Option.bind_some,
          show precentorref03_May.f k s e i t c L bo = some (mayB k s e i t c L bo.length) from if_pos (by omega), Option.bind_some, if_pos (beq_self_eq_true _),
          show item_Same.f k s e i t c L bo k' s' e' i' t' c' L' bo' = some (sameB k s e i t c L bo k' s' e' i' t' c' L' bo') from if_pos (by omega), Option.bind_some,
          show precentorref03_Same.f k s e i t c L bo k' s' e' i' t' c' L' bo' = some (sameB k s e i t c L bo k' s' e' i' t' c' L' bo') from if_pos (by omega), Option.bind_some, if_pos (beq_self_eq_true _),
          show item_Bytes.f k s e i t c L bo = some (if mayB k s e i t c L bo.length = true then Print.bytesOf k s e i t c L bo else []) from if_pos ⟨hk, by omega, by omega⟩, Option.bind_some,
          show precentorref03_Bytes.f k s e i t c L bo = some (if mayB k s e i t c L bo.length = true then Print.bytesOf k s e i t c L bo else []) from if_pos ⟨by omega, by omega⟩, Option.bind_some, if_pos rfl, hS, Option.bind_some, if_pos rfl, beq_self_eq_true]
    · exact j0 9
  · exact j0 9
end Go.Proofs.YtocoikndkmdnkaaDoor.ItemTellsS
