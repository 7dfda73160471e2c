/- ItemBounds, the plain law. No condition. -/
import Derived.Test.YtocoikndkmdnkaaDoorSayItemBounds
import Derived.Test.YtocoikndkmdnkaaDoorItemMore
namespace Go.Proofs.YtocoikndkmdnkaaDoor.ItemBoundsS
set_option linter.unusedVariables false
set_option linter.unusedSimpArgs false
open Go.RowKit Go.Proofs.YtocoikndkmdnkaaDoor.Print Go.Proofs.YtocoikndkmdnkaaDoor.Opens Go.Proofs.YtocoikndkmdnkaaDoor.NumPlain
open Go.Proofs.YtocoikndkmdnkaaDoorW.PrintWords Go.Proofs.YtocoikndkmdnkaaDoorW.PrintLast

theorem plain : Pure := by
  intro x g
  obtain ⟨k, s, e, i, t, c, L, bo⟩ := x
  obtain ⟨hk, _⟩ := g
  refine ⟨10, ?_⟩
  have j0 : ∀ n : Nat, precentorlaw03_ItemBounds.j0 (n + 1) true true k s e i t c L bo = some true := fun n => by simp only [precentorlaw03_ItemBounds.j0]; rw [if_pos trivial]
  simp only [precentorlaw03_ItemBounds.f, precentorlaw03_shown.f]
  rw [Option.bind_some, few_is, Option.bind_some]
  split
  · rename_i hf
    rw [Bool.and_eq_true, decide_eq_true_eq, decide_eq_true_eq] at hf
    rw [show precentorref03_May.f k s e i t c L bo = some (mayB k s e i t c L bo.length) from if_pos (by omega), Option.bind_some]
    cases hm : mayB k s e i t c L bo.length
    · exact j0 9
    · obtain ⟨hs, he, hK⟩ := may_is hm
      have no : ∀ {k s e i t c : Int} {L b : List Int}, (Lit.int .i64 k).wf = true → ¬ May k s e i t c L b.length → item_May.f k s e i t c L b = some false := fun {k s e i t c L b} hw h => (if_pos hw).trans (congrArg some (Bool.eq_false_iff.2 fun h2 => h (may_is h2)))
      have n1 : item_May.f k 0 e i t c L bo = some false := no hk fun h => by have := h.1; omega
      have n2 : item_May.f k s (-1) i t c L bo = some false := no hk fun h => by have := h.2.1; omega
      have n3 : item_May.f k s e 32 t c L bo = some false := no hk fun h => by have := h.2.2; omega
      have n4 : item_May.f (wrap64 (k + 6)) s e i t c L bo = some false := by
        have h1 : 1 ≤ k ∧ k ≤ 6 := by omega
        rw [wrap_id (by omega) (by omega)]
        refine no ?_ fun h => by have := h.2.2; omega
        have : k = 1 ∨ k = 2 ∨ k = 3 ∨ k = 4 ∨ k = 5 ∨ k = 6 := by omega
        rcases this with rfl | rfl | rfl | rfl | rfl | rfl <;> decide
      have n5 : item_May.f k s e i t (-1) L bo = some false := no hk fun h => by have := h.2.2; omega
      have n6 : ∀ z : List Int, z.length = bo.length + 1025 → item_May.f k s e i t c L z = some false := fun z hz => no hk fun h => by have := h.2.2; omega
      simp only [precentorlaw03_ItemBounds.j0, Bool.not_true]
      rw [if_neg Bool.false_ne_true, Option.bind_some, if_pos (by simp; omega), Option.bind_some, if_pos (by simp; omega), if_pos trivial, n1, Option.bind_some, if_neg Bool.false_ne_true, n2, Option.bind_some, if_neg Bool.false_ne_true, n3, Option.bind_some, if_neg Bool.false_ne_true, n4, Option.bind_some, if_neg Bool.false_ne_true, n5, Option.bind_some, if_neg Bool.false_ne_true,
        n6 _ (by rw [List.length_append, List.length_append, List.length_replicate]; simp), Option.bind_some]
      rfl
  · exact j0 9
end Go.Proofs.YtocoikndkmdnkaaDoor.ItemBoundsS
