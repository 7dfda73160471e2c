/- What WantSteady says in plain Lean: a statement on Lean values alone (Pure), what is good of its arguments, and that arguments that read as data are good ones. -/
import Derived.Test.YtdjffpolfeibdaaPrint4
import Derived.Test.YtdjffpolfeibdaaOpen
namespace Go.Proofs.Ytdjffpolfeibdaa.WantSteadyS
open Go.RowKit Go.Proofs.Ytdjffpolfeibdaa.Print Go.Proofs.Ytdjffpolfeibdaa.Opens
open Go.Proofs.YtdjffpolfeibdaaW.PrintWords Go.Proofs.YtdjffpolfeibdaaW.PrintLast
set_option linter.unusedVariables false
def good38 (x : S38) : Prop := (Lit.int .u8 x.f0).wf = true ∧ (Lit.int .i64 x.f1).wf = true ∧ (Lit.int .i64 x.f2).wf = true ∧ (Lit.int .i64 x.f3).wf = true ∧ (Lit.int .u8 x.f4).wf = true
theorem opens38 : Opens Try.prog 38 k38 good38 := by
  have h := Opens.struct (P := Try.prog) (f := (fun x : S38 => (x.f0, x.f1, x.f2, x.f3, x.f4))) (fun p => ⟨p.1, p.2.1, p.2.2.1, p.2.2.2.1, p.2.2.2.2⟩) Try.underlying38 (by kernel_rfl) (fun _ => rfl) (by rfl) (Opens.more (by kernel_rfl) (Opens.int Try.underlying5) (Opens.more (by kernel_rfl) (Opens.int Try.underlying3) (Opens.more (by kernel_rfl) (Opens.int Try.underlying3) (Opens.more (by kernel_rfl) (Opens.int Try.underlying3) (Opens.last (by kernel_rfl) (Opens.int Try.underlying5))))))
  exact h
/-- THE PLAIN STATEMENT. -/
def Pure : Prop := ∀ (x0 : S38), good38 x0 → ∃ k : Nat, precentorlaw14_WantSteady.f k x0.f0 x0.f1 x0.f2 x0.f3 x0.f4 = some true
end Go.Proofs.Ytdjffpolfeibdaa.WantSteadyS
