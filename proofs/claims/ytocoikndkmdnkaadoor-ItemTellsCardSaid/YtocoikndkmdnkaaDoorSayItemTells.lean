/- What ItemTells says in plain Lean: a statement on Lean values alone (Pure), what is good of its arguments, and that arguments that read as data are good ones. -/
import Derived.Test.YtocoikndkmdnkaaDoorPrint4
import Derived.Test.YtocoikndkmdnkaaDoorOpen
namespace Go.Proofs.YtocoikndkmdnkaaDoor.ItemTellsS
open Go.RowKit Go.Proofs.YtocoikndkmdnkaaDoor.Print Go.Proofs.YtocoikndkmdnkaaDoor.Opens
open Go.Proofs.YtocoikndkmdnkaaDoorW.PrintWords Go.Proofs.YtocoikndkmdnkaaDoorW.PrintLast
set_option linter.unusedVariables false
def good25 (x : S25) : Prop := (Lit.int .i64 x.f0).wf = true ∧ (Lit.int .i64 x.f1).wf = true ∧ (Lit.int .i64 x.f2).wf = true ∧ (Lit.int .i64 x.f3).wf = true ∧ (Lit.int .i64 x.f4).wf = true ∧ (Lit.int .i64 x.f5).wf = true ∧ (x.f6.length ≤ maxLen ∧ ∀ y_ ∈ x.f6, (Lit.int .i64 y_).wf = true) ∧ (x.f7.length ≤ maxLen ∧ ∀ y_ ∈ x.f7, (Lit.int .u8 y_).wf = true)
theorem opens25 : Opens Tryd.prog 25 k25 good25 := by
  have h := Opens.struct (P := Tryd.prog) (f := (fun x : S25 => (x.f0, x.f1, x.f2, x.f3, x.f4, x.f5, x.f6, x.f7))) (fun p => ⟨p.1, p.2.1, p.2.2.1, p.2.2.2.1, p.2.2.2.2.1, p.2.2.2.2.2.1, p.2.2.2.2.2.2.1, p.2.2.2.2.2.2.2⟩) Tryd.underlying25 (by kernel_rfl) (fun _ => rfl) (by rfl) (Opens.more (by kernel_rfl) (Opens.int Tryd.underlying3) (Opens.more (by kernel_rfl) (Opens.int Tryd.underlying3) (Opens.more (by kernel_rfl) (Opens.int Tryd.underlying3) (Opens.more (by kernel_rfl) (Opens.int Tryd.underlying3) (Opens.more (by kernel_rfl) (Opens.int Tryd.underlying3) (Opens.more (by kernel_rfl) (Opens.int Tryd.underlying3) (Opens.more (by kernel_rfl) (Opens.slice Tryd.underlying22 (by kernel_rfl) (Opens.int Tryd.underlying3)) (Opens.last (by kernel_rfl) (Opens.slice Tryd.underlying23 (by kernel_rfl) (Opens.int Tryd.underlying5))))))))))
  exact h
/-- THE PLAIN STATEMENT. -/
def Pure : Prop := ∀ (x0 : S25) (x1 : S25) (x2 : List Int), good25 x0 → good25 x1 → (x2.length ≤ maxLen ∧ ∀ y_ ∈ x2, (Lit.int .u8 y_).wf = true) → ∃ k : Nat, precentorlaw03_ItemTells.f k x0.f0 x0.f1 x0.f2 x0.f3 x0.f4 x0.f5 x0.f6 x0.f7 x1.f0 x1.f1 x1.f2 x1.f3 x1.f4 x1.f5 x1.f6 x1.f7 x2 = some true
end Go.Proofs.YtocoikndkmdnkaaDoor.ItemTellsS
