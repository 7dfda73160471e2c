/- What WantRuns says in plain Lean: a statement on Lean values alone (Pure), what is good of its arguments, and that arguments that read as data are good ones. -/
import Derived.Test.YtdjffpolfeibdaaPrint3
import Derived.Test.YtdjffpolfeibdaaOpen
namespace Go.Proofs.Ytdjffpolfeibdaa.WantRunsS
open Go.RowKit Go.Proofs.Ytdjffpolfeibdaa.Print Go.Proofs.Ytdjffpolfeibdaa.Opens
open Go.Proofs.YtdjffpolfeibdaaW.PrintWords Go.Proofs.YtdjffpolfeibdaaW.PrintLast
set_option linter.unusedVariables false
def good34 (x : S34) : Prop := (x.f0.length ≤ maxLen ∧ ∀ y_ ∈ x.f0, (Lit.int .u8 y_).wf = true) ∧ (Lit.int .u8 x.f1).wf = true ∧ (Lit.int .u8 x.f2).wf = true ∧ (Lit.int .u8 x.f3).wf = true ∧ (Lit.int .u8 x.f4).wf = true
theorem opens34 : Opens Try.prog 34 k34 good34 := by
  have h := Opens.struct (P := Try.prog) (f := (fun x : S34 => (x.f0, x.f1, x.f2, x.f3, x.f4))) (fun p => ⟨p.1, p.2.1, p.2.2.1, p.2.2.2.1, p.2.2.2.2⟩) Try.underlying34 (by kernel_rfl) (fun _ => rfl) (by rfl) (Opens.more (by kernel_rfl) (Opens.slice Try.underlying32 (by kernel_rfl) (Opens.int Try.underlying5)) (Opens.more (by kernel_rfl) (Opens.int Try.underlying5) (Opens.more (by kernel_rfl) (Opens.int Try.underlying5) (Opens.more (by kernel_rfl) (Opens.int Try.underlying5) (Opens.last (by kernel_rfl) (Opens.int Try.underlying5))))))
  exact h
/-- THE PLAIN STATEMENT. -/
def Pure : Prop := ∀ (x0 : S34), good34 x0 → ∃ k : Nat, precentorlaw14_WantRuns.f k x0.f0 x0.f1 x0.f2 x0.f3 x0.f4 = some true
end Go.Proofs.Ytdjffpolfeibdaa.WantRunsS
