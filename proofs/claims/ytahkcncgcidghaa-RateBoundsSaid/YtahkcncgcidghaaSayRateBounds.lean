/- What RateBounds says in plain Lean: a statement on Lean values alone (Pure), what is good of its arguments, and that arguments that read as data are good ones. -/
import Derived.Test.YtahkcncgcidghaaPrint5
import Derived.Test.YtahkcncgcidghaaOpen
namespace Go.Proofs.Ytahkcncgcidghaa.RateBoundsS
open Go.RowKit Go.Proofs.Ytahkcncgcidghaa.Print Go.Proofs.Ytahkcncgcidghaa.Opens
open Go.Proofs.YtahkcncgcidghaaW.PrintWords Go.Proofs.YtahkcncgcidghaaW.PrintLast
set_option linter.unusedVariables false
def good36 (x : S36) : Prop := (Lit.int .u8 x.f0).wf = true ∧ (Lit.int .u8 x.f1).wf = true ∧ (Lit.int .u8 x.f2).wf = true
theorem opens36 : Opens Try.prog 36 k36 good36 := by
  have h := Opens.array (P := Try.prog) (f := (fun x : S36 => (x.f0, x.f1, x.f2))) (fun p => ⟨p.1, p.2.1, p.2.2⟩) Try.underlying36 (by kernel_rfl) (fun _ => rfl) (by kernel_rfl) (Opens.more (by kernel_rfl) (Opens.int Try.underlying5) (Opens.more (by kernel_rfl) (Opens.int Try.underlying5) (Opens.last (by kernel_rfl) (Opens.int Try.underlying5))))
  exact h
/-- THE PLAIN STATEMENT. -/
def Pure : Prop := ∀ (x0 : S36) (x1 : List Int) (x2 : List Bool), good36 x0 → (x1.length ≤ maxLen ∧ ∀ y_ ∈ x1, (Lit.int .u8 y_).wf = true) → (x2.length ≤ maxLen ∧ ∀ y_ ∈ x2, True) → ∃ k : Nat, precentorlaw11_RateBounds.f k x0.f0 x0.f1 x0.f2 x1 x2 = some true
end Go.Proofs.Ytahkcncgcidghaa.RateBoundsS
