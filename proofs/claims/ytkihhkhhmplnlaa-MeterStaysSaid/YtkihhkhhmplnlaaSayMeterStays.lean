/- What MeterStays says in plain Lean: a statement on Lean values alone (Pure), what is good of its arguments, and that arguments that read as data are good ones. -/
import Derived.Test.YtkihhkhhmplnlaaPrint4
import Derived.Test.YtkihhkhhmplnlaaOpen
namespace Go.Proofs.Ytkihhkhhmplnlaa.MeterStaysS
open Go.RowKit Go.Proofs.Ytkihhkhhmplnlaa.Print Go.Proofs.Ytkihhkhhmplnlaa.Opens
open Go.Proofs.YtkihhkhhmplnlaaW.PrintWords Go.Proofs.YtkihhkhhmplnlaaW.PrintLast
set_option linter.unusedVariables false
def good23 (x : S23) : Prop := (Lit.int .i64 x.f0).wf = true ∧ (Lit.int .i64 x.f1).wf = true ∧ (Lit.int .i64 x.f2).wf = true
theorem opens23 : Opens Try.prog 23 k23 good23 := by
  have h := Opens.struct (P := Try.prog) (f := (fun x : S23 => (x.f0, x.f1, x.f2))) (fun p => ⟨p.1, p.2.1, p.2.2⟩) Try.underlying23 (by kernel_rfl) (fun _ => rfl) (by rfl) (Opens.more (by kernel_rfl) (Opens.int Try.underlying3) (Opens.more (by kernel_rfl) (Opens.int Try.underlying3) (Opens.last (by kernel_rfl) (Opens.int Try.underlying3))))
  exact h
def good38 (x : S38) : Prop := good23 x.f0 ∧ (Lit.int .i64 x.f1).wf = true ∧ (Lit.int .i64 x.f2).wf = true ∧ (Lit.int .i64 x.f3).wf = true ∧ (Lit.int .i64 x.f4).wf = true
theorem opens38 : Opens Try.prog 38 k38 good38 := by
  have h := Opens.struct (P := Try.prog) (f := (fun x : S38 => (x.f0, x.f1, x.f2, x.f3, x.f4))) (fun p => ⟨p.1, p.2.1, p.2.2.1, p.2.2.2.1, p.2.2.2.2⟩) Try.underlying38 (by kernel_rfl) (fun _ => rfl) (by rfl) (Opens.more (by kernel_rfl) opens23 (Opens.more (by kernel_rfl) (Opens.int Try.underlying3) (Opens.more (by kernel_rfl) (Opens.int Try.underlying3) (Opens.more (by kernel_rfl) (Opens.int Try.underlying3) (Opens.last (by kernel_rfl) (Opens.int Try.underlying3))))))
  exact h
/-- THE PLAIN STATEMENT. -/
def Pure : Prop := ∀ (x0 : S38), good38 x0 → ∃ k : Nat, precentorlaw13_MeterStays.f k x0.f0.f0 x0.f0.f1 x0.f0.f2 x0.f1 x0.f2 x0.f3 x0.f4 = some true
end Go.Proofs.Ytkihhkhhmplnlaa.MeterStaysS
