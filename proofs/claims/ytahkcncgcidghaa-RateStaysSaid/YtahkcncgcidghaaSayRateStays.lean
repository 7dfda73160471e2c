/- What RateStays says in plain Lean: a statement on Lean values alone (Pure), what is good of its arguments, and that arguments that read as data are good ones. -/
import Derived.Test.YtahkcncgcidghaaPrint4
import Derived.Test.YtahkcncgcidghaaOpen
namespace Go.Proofs.Ytahkcncgcidghaa.RateStaysS
open Go.RowKit Go.Proofs.Ytahkcncgcidghaa.Print Go.Proofs.Ytahkcncgcidghaa.Opens
open Go.Proofs.YtahkcncgcidghaaW.PrintWords Go.Proofs.YtahkcncgcidghaaW.PrintLast
set_option linter.unusedVariables false
def good23 (x : S23) : Prop := (Lit.int .i64 x.f0).wf = true ∧ (Lit.int .i64 x.f1).wf = true
theorem opens23 : Opens Try.prog 23 k23 good23 := by
  have h := Opens.struct (P := Try.prog) (f := (fun x : S23 => (x.f0, x.f1))) (fun p => ⟨p.1, p.2⟩) Try.underlying23 (by kernel_rfl) (fun _ => rfl) (by rfl) (Opens.more (by kernel_rfl) (Opens.int Try.underlying3) (Opens.last (by kernel_rfl) (Opens.int Try.underlying3)))
  exact h
def good34 (x : S34) : Prop := good23 x.f0 ∧ (Lit.int .i64 x.f1).wf = true ∧ (Lit.int .i64 x.f2).wf = true ∧ (Lit.int .i64 x.f3).wf = true ∧ (Lit.int .i64 x.f4).wf = true ∧ (Lit.int .i64 x.f5).wf = true
theorem opens34 : Opens Try.prog 34 k34 good34 := by
  have h := Opens.struct (P := Try.prog) (f := (fun x : S34 => (x.f0, x.f1, x.f2, x.f3, x.f4, x.f5))) (fun p => ⟨p.1, p.2.1, p.2.2.1, p.2.2.2.1, p.2.2.2.2.1, p.2.2.2.2.2⟩) Try.underlying34 (by kernel_rfl) (fun _ => rfl) (by rfl) (Opens.more (by kernel_rfl) opens23 (Opens.more (by kernel_rfl) (Opens.int Try.underlying3) (Opens.more (by kernel_rfl) (Opens.int Try.underlying3) (Opens.more (by kernel_rfl) (Opens.int Try.underlying3) (Opens.more (by kernel_rfl) (Opens.int Try.underlying3) (Opens.last (by kernel_rfl) (Opens.int Try.underlying3)))))))
  exact h
/-- THE PLAIN STATEMENT. -/
def Pure : Prop := ∀ (x0 : S34), good34 x0 → ∃ k : Nat, precentorlaw11_RateStays.f k x0.f0.f0 x0.f0.f1 x0.f1 x0.f2 x0.f3 x0.f4 x0.f5 = some true
end Go.Proofs.Ytahkcncgcidghaa.RateStaysS
