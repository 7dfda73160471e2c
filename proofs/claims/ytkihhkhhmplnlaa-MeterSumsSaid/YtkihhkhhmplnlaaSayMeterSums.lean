/- What MeterSums says in plain Lean: a statement on Lean values alone (Pure), what is good of its arguments, and that arguments that read as data are good ones. -/
import Derived.Test.YtkihhkhhmplnlaaPrint5
import Derived.Test.YtkihhkhhmplnlaaOpen
namespace Go.Proofs.Ytkihhkhhmplnlaa.MeterSumsS
open Go.RowKit Go.Proofs.Ytkihhkhhmplnlaa.Print Go.Proofs.Ytkihhkhhmplnlaa.Opens
open Go.Proofs.YtkihhkhhmplnlaaW.PrintWords Go.Proofs.YtkihhkhhmplnlaaW.PrintLast
set_option linter.unusedVariables false
def good35 (x : S35) : Prop := (Lit.int .u32 x.f0).wf = true ∧ (Lit.int .u32 x.f1).wf = true
theorem opens35 : Opens Try.prog 35 k35 good35 := by
  have h := Opens.array (P := Try.prog) (f := (fun x : S35 => (x.f0, x.f1))) (fun p => ⟨p.1, p.2⟩) Try.underlying35 (by kernel_rfl) (fun _ => rfl) (by kernel_rfl) (Opens.more (by kernel_rfl) (Opens.int Try.underlying34) (Opens.last (by kernel_rfl) (Opens.int Try.underlying34)))
  exact h
/-- THE PLAIN STATEMENT. -/
def Pure : Prop := ∀ (x0 : List (S35)) (x1 : Int), (x0.length ≤ maxLen ∧ ∀ y_ ∈ x0, good35 y_) → (Lit.int .u8 x1).wf = true → ∃ k : Nat, precentorlaw13_MeterSums.f k x0 x1 = some true
end Go.Proofs.Ytkihhkhhmplnlaa.MeterSumsS
