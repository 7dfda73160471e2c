/- What NetDups says in plain Lean: a statement on Lean values alone (Pure), what is good of its arguments, and that arguments that read as data are good ones. -/
import Derived.Test.YthmgaeecfhmenaaPrint7
import Derived.Test.YthmgaeecfhmenaaOpen
namespace Go.Proofs.Ythmgaeecfhmenaa.NetDupsS
open Go.RowKit Go.Proofs.Ythmgaeecfhmenaa.Print Go.Proofs.Ythmgaeecfhmenaa.Opens
open Go.Proofs.YthmgaeecfhmenaaW.PrintWords Go.Proofs.YthmgaeecfhmenaaW.PrintLast
set_option linter.unusedVariables false
def good29 (x : S29) : Prop := (Lit.int .i64 x.f0).wf = true ∧ (x.f1.length ≤ maxLen ∧ ∀ y_ ∈ x.f1, (Lit.int .u8 y_).wf = true) ∧ True
theorem opens29 : Opens Try.prog 29 k29 good29 := by
  have h := Opens.struct (P := Try.prog) (f := (fun x : S29 => (x.f0, x.f1, x.f2))) (fun p => ⟨p.1, p.2.1, p.2.2⟩) Try.underlying29 (by kernel_rfl) (fun _ => rfl) (by rfl) (Opens.more (by kernel_rfl) (Opens.int Try.underlying3) (Opens.more (by kernel_rfl) (Opens.slice Try.underlying23 (by kernel_rfl) (Opens.int Try.underlying5)) (Opens.last (by kernel_rfl) (Opens.bool Try.underlying4))))
  exact h
/-- THE PLAIN STATEMENT. -/
def Pure : Prop := ∀ (x0 : List (S29)) (x1 : Int) (x2 : Int), (x0.length ≤ maxLen ∧ ∀ y_ ∈ x0, good29 y_) → (Lit.int .u8 x1).wf = true → (Lit.int .u8 x2).wf = true → ∃ k : Nat, precentorlaw05_NetDups.f k x0 x1 x2 = some true
end Go.Proofs.Ythmgaeecfhmenaa.NetDupsS
