/- What RateGrows says in plain Lean: a statement on Lean values alone (Pure), what is good of its arguments, and that arguments that read as data are good ones. -/
import Derived.Test.YtahkcncgcidghaaPrint6
import Derived.Test.YtahkcncgcidghaaOpen
namespace Go.Proofs.Ytahkcncgcidghaa.RateGrowsS
open Go.RowKit Go.Proofs.Ytahkcncgcidghaa.Print Go.Proofs.Ytahkcncgcidghaa.Opens
open Go.Proofs.YtahkcncgcidghaaW.PrintWords Go.Proofs.YtahkcncgcidghaaW.PrintLast
set_option linter.unusedVariables false
def good41 (x : S41) : Prop := (Lit.int .u8 x.f0).wf = true ∧ (Lit.int .u8 x.f1).wf = true ∧ (Lit.int .u8 x.f2).wf = true ∧ True
theorem opens41 : Opens Try.prog 41 k41 good41 := by
  have h := Opens.struct (P := Try.prog) (f := (fun x : S41 => (x.f0, x.f1, x.f2, x.f3))) (fun p => ⟨p.1, p.2.1, p.2.2.1, p.2.2.2⟩) Try.underlying41 (by kernel_rfl) (fun _ => rfl) (by rfl) (Opens.more (by kernel_rfl) (Opens.int Try.underlying5) (Opens.more (by kernel_rfl) (Opens.int Try.underlying5) (Opens.more (by kernel_rfl) (Opens.int Try.underlying5) (Opens.last (by kernel_rfl) (Opens.bool Try.underlying4)))))
  exact h
/-- THE PLAIN STATEMENT. -/
def Pure : Prop := ∀ (x0 : S41), good41 x0 → ∃ k : Nat, precentorlaw11_RateGrows.f k x0.f0 x0.f1 x0.f2 x0.f3 = some true
end Go.Proofs.Ytahkcncgcidghaa.RateGrowsS
