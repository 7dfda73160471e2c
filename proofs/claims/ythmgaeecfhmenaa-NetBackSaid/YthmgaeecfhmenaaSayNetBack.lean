/- What NetBack says in plain Lean: a statement on Lean values alone (Pure), what is good of its arguments, and that arguments that read as data are good ones. -/
import Derived.Test.YthmgaeecfhmenaaPrint5
import Derived.Test.YthmgaeecfhmenaaOpen
namespace Go.Proofs.Ythmgaeecfhmenaa.NetBackS
open Go.RowKit Go.Proofs.Ythmgaeecfhmenaa.Print Go.Proofs.Ythmgaeecfhmenaa.Opens
open Go.Proofs.YthmgaeecfhmenaaW.PrintWords Go.Proofs.YthmgaeecfhmenaaW.PrintLast
set_option linter.unusedVariables false
def good29 (x : S29) : Prop := (Lit.int .i64 x.f0).wf = true ∧ (x.f1.length ≤ maxLen ∧ ∀ y_ ∈ x.f1, (Lit.int .u8 y_).wf = true) ∧ True
theorem opens29 : Opens Try.prog 29 k29 good29 := by
  have h := Opens.struct (P := Try.prog) (f := (fun x : S29 => (x.f0, x.f1, x.f2))) (fun p => ⟨p.1, p.2.1, p.2.2⟩) Try.underlying29 (by kernel_rfl) (fun _ => rfl) (by rfl) (Opens.more (by kernel_rfl) (Opens.int Try.underlying3) (Opens.more (by kernel_rfl) (Opens.slice Try.underlying23 (by kernel_rfl) (Opens.int Try.underlying5)) (Opens.last (by kernel_rfl) (Opens.bool Try.underlying4))))
  exact h
def good46 (x : S46) : Prop := (x.f0.length ≤ maxLen ∧ ∀ y_ ∈ x.f0, good29 y_) ∧ (Lit.int .i64 x.f1).wf = true ∧ (x.f2.length ≤ maxLen ∧ ∀ y_ ∈ x.f2, (Lit.int .u8 y_).wf = true) ∧ (Lit.int .u8 x.f3).wf = true
theorem opens46 : Opens Try.prog 46 k46 good46 := by
  have h := Opens.struct (P := Try.prog) (f := (fun x : S46 => (x.f0, x.f1, x.f2, x.f3))) (fun p => ⟨p.1, p.2.1, p.2.2.1, p.2.2.2⟩) Try.underlying46 (by kernel_rfl) (fun _ => rfl) (by rfl) (Opens.more (by kernel_rfl) (Opens.slice Try.underlying22 (by kernel_rfl) opens29) (Opens.more (by kernel_rfl) (Opens.int Try.underlying3) (Opens.more (by kernel_rfl) (Opens.slice Try.underlying23 (by kernel_rfl) (Opens.int Try.underlying5)) (Opens.last (by kernel_rfl) (Opens.int Try.underlying5)))))
  exact h
/-- THE PLAIN STATEMENT. -/
def Pure : Prop := ∀ (x0 : S46), good46 x0 → ∃ k : Nat, precentorlaw05_NetBack.f k x0.f0 x0.f1 x0.f2 x0.f3 = some true
end Go.Proofs.Ythmgaeecfhmenaa.NetBackS
