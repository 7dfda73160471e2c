/- What NetSpoilt says in plain Lean: a statement on Lean values alone (Pure), what is good of its arguments, and that arguments that read as data are good ones. -/
import Derived.Test.YthmgaeecfhmenaaHandNS
import Derived.Test.YthmgaeecfhmenaaOpen
namespace Go.Proofs.Ythmgaeecfhmenaa.NetSpoiltS
open Go.RowKit Go.Proofs.Ythmgaeecfhmenaa.Print Go.Proofs.Ythmgaeecfhmenaa.Opens
open Go.Proofs.YthmgaeecfhmenaaW.PrintWords Go.Proofs.YthmgaeecfhmenaaW.PrintLast
set_option linter.unusedVariables false
def good29 (x : S29) : Prop := (Lit.int .i64 x.f0).wf = true ∧ (x.f1.length ≤ maxLen ∧ ∀ y_ ∈ x.f1, (Lit.int .u8 y_).wf = true) ∧ True
theorem opens29 : Opens Try.prog 29 k29 good29 := by
  have h := Opens.struct (P := Try.prog) (f := (fun x : S29 => (x.f0, x.f1, x.f2))) (fun p => ⟨p.1, p.2.1, p.2.2⟩) Try.underlying29 (by kernel_rfl) (fun _ => rfl) (by rfl) (Opens.more (by kernel_rfl) (Opens.int Try.underlying3) (Opens.more (by kernel_rfl) (Opens.slice Try.underlying23 (by kernel_rfl) (Opens.int Try.underlying5)) (Opens.last (by kernel_rfl) (Opens.bool Try.underlying4))))
  exact h
def good49 (x : S49) : Prop := (x.f0.length ≤ maxLen ∧ ∀ y_ ∈ x.f0, good29 y_) ∧ (Lit.int .i64 x.f1).wf = true ∧ (Lit.int .i64 x.f2).wf = true ∧ (x.f3.length ≤ maxLen ∧ ∀ y_ ∈ x.f3, (Lit.int .u8 y_).wf = true) ∧ (Lit.int .i64 x.f4).wf = true
theorem opens49 : Opens Try.prog 49 k49 good49 := by
  have h := Opens.struct (P := Try.prog) (f := (fun x : S49 => (x.f0, x.f1, x.f2, x.f3, x.f4))) (fun p => ⟨p.1, p.2.1, p.2.2.1, p.2.2.2.1, p.2.2.2.2⟩) Try.underlying49 (by kernel_rfl) (fun _ => rfl) (by rfl) (Opens.more (by kernel_rfl) (Opens.slice Try.underlying22 (by kernel_rfl) opens29) (Opens.more (by kernel_rfl) (Opens.int Try.underlying3) (Opens.more (by kernel_rfl) (Opens.int Try.underlying3) (Opens.more (by kernel_rfl) (Opens.slice Try.underlying23 (by kernel_rfl) (Opens.int Try.underlying5)) (Opens.last (by kernel_rfl) (Opens.int Try.underlying3))))))
  exact h
/-- THE PLAIN STATEMENT. -/
def Pure : Prop := ∀ (x0 : S49), good49 x0 → ∃ k : Nat, precentorlaw05_NetSpoilt.f x0.f0 x0.f1 x0.f2 x0.f3 x0.f4 = some true
end Go.Proofs.Ythmgaeecfhmenaa.NetSpoiltS
