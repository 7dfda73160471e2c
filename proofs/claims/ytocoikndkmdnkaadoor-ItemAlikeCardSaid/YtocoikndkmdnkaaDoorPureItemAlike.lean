/- ItemAlike, the plain law. No condition. -/
import Derived.Test.YtocoikndkmdnkaaDoorSayItemAlike
import Derived.Test.YtocoikndkmdnkaaDoorItemMore
namespace Go.Proofs.YtocoikndkmdnkaaDoor.ItemAlikeS
set_option linter.unusedVariables false
set_option linter.unusedSimpArgs false
open Go.RowKit Go.Proofs.YtocoikndkmdnkaaDoor.Print Go.Proofs.YtocoikndkmdnkaaDoor.Opens Go.Proofs.YtocoikndkmdnkaaDoor.NumPlain
open Go.Proofs.YtocoikndkmdnkaaDoorW.PrintWords Go.Proofs.YtocoikndkmdnkaaDoorW.PrintLast

theorem plain : Pure := by
  intro x y g g'
  obtain ⟨k, s, e, i, t, c, L, bo⟩ := x
  obtain ⟨k', s', e', i', t', c', L', bo'⟩ := y
  obtain ⟨hk, _, _, _, _, _, _, hbo⟩ := g
  obtain ⟨hk', _, _, _, _, _, _, hbo'⟩ := g'
  have hbo := by_of hbo.2
  have hbo' := by_of hbo'.2
  refine ⟨10, ?_⟩
  have j0 : ∀ n : Nat, precentorlaw03_ItemAlike.j0 (n + 1) true true k s e i t c L bo k' s' e' i' t' c' L' bo' = some true := fun n => by simp only [precentorlaw03_ItemAlike.j0]; rw [if_pos trivial]
  simp only [precentorlaw03_ItemAlike.f, precentorlaw03_shown.f]
  rw [Option.bind_some, few_is, Option.bind_some]
  split
  · rename_i hf
    rw [Bool.and_eq_true, decide_eq_true_eq, decide_eq_true_eq] at hf
    rw [few_is, Option.bind_some]
    split
    · rename_i hf'
      rw [Bool.and_eq_true, decide_eq_true_eq, decide_eq_true_eq] at hf'
      rw [show item_May.f k s e i t c L bo = some (mayB k s e i t c L bo.length) from if_pos hk, Option.bind_some]
      cases hm : mayB k s e i t c L bo.length
      · rw [if_neg Bool.false_ne_true]; exact j0 9
      · rw [if_pos rfl, show item_May.f k' s' e' i' t' c' L' bo' = some (mayB k' s' e' i' t' c' L' bo'.length) from if_pos hk', Option.bind_some]
        cases hm' : mayB k' s' e' i' t' c' L' bo'.length
        · exact j0 9
        · simp only [precentorlaw03_ItemAlike.j0, Bool.not_true]
          rw [if_neg Bool.false_ne_true, if_pos trivial, show item_Bytes.f k s e i t c L bo = some (Print.bytesOf k s e i t c L bo) from (if_pos ⟨hk, by omega, by omega⟩).trans (by rw [hm, if_pos rfl]), Option.bind_some,
            show item_Bytes.f k' s' e' i' t' c' L' bo' = some (Print.bytesOf k' s' e' i' t' c' L' bo') from (if_pos ⟨hk', by omega, by omega⟩).trans (by rw [hm', if_pos rfl]), Option.bind_some,
            show precentorref03_Same.f k s e i t c L bo k' s' e' i' t' c' L' bo' = some (sameB k s e i t c L bo k' s' e' i' t' c' L' bo') from if_pos (by omega), Option.bind_some]
          have hs := str_eq (by_bytes k s e i t c L hbo) (by_bytes k' s' e' i' t' c' L' hbo')
          split
          · rename_i h
            rw [(same_iff hbo hbo').2 (bytes_inj hm hm' (hs.1 h))]
          · rename_i h
            refine congrArg some ?_
            rw [Bool.not_eq_true', Bool.eq_false_iff]
            intro h2
            refine h (hs.2 ?_)
            have := (same_iff hbo hbo').1 h2
            simp only [Prod.mk.injEq] at this
            obtain ⟨rfl, rfl, rfl, rfl, rfl, rfl, rfl, rfl⟩ := this
            rfl
    · exact j0 9
  · exact j0 9
end Go.Proofs.YtocoikndkmdnkaaDoor.ItemAlikeS
