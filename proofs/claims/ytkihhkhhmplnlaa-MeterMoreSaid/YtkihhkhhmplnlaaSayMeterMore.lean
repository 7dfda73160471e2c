/- What MeterMore says in plain Lean: a statement on Lean values alone (Pure), what is good of its arguments, and that arguments that read as data are good ones. -/
import Derived.Test.YtkihhkhhmplnlaaPrint5
import Derived.Test.YtkihhkhhmplnlaaOpen
namespace Go.Proofs.Ytkihhkhhmplnlaa.MeterMoreS
open Go.RowKit Go.Proofs.Ytkihhkhhmplnlaa.Print Go.Proofs.Ytkihhkhhmplnlaa.Opens
open Go.Proofs.YtkihhkhhmplnlaaW.PrintWords Go.Proofs.YtkihhkhhmplnlaaW.PrintLast
set_option linter.unusedVariables false
def good23 (x : S23) : Prop := (Lit.int .i64 x.f0).wf = true ∧ (Lit.int .i64 x.f1).wf = true ∧ (Lit.int .i64 x.f2).wf = true
theorem opens23 : Opens Try.prog 23 k23 good23 := by
  have h := Opens.struct (P := Try.prog) (f := (fun x : S23 => (x.f0, x.f1, x.f2))) (fun p => ⟨p.1, p.2.1, p.2.2⟩) Try.underlying23 (by kernel_rfl) (fun _ => rfl) (by rfl) (Opens.more (by kernel_rfl) (Opens.int Try.underlying3) (Opens.more (by kernel_rfl) (Opens.int Try.underlying3) (Opens.last (by kernel_rfl) (Opens.int Try.underlying3))))
  exact h
def good41 (x : S41) : Prop := good23 x.f0 ∧ (Lit.int .i64 x.f1).wf = true ∧ (Lit.int .i64 x.f2).wf = true ∧ (Lit.int .u32 x.f3).wf = true
theorem opens41 : Opens Try.prog 41 k41 good41 := by
  have h := Opens.struct (P := Try.prog) (f := (fun x : S41 => (x.f0, x.f1, x.f2, x.f3))) (fun p => ⟨p.1, p.2.1, p.2.2.1, p.2.2.2⟩) Try.underlying41 (by kernel_rfl) (fun _ => rfl) (by rfl) (Opens.more (by kernel_rfl) opens23 (Opens.more (by kernel_rfl) (Opens.int Try.underlying3) (Opens.more (by kernel_rfl) (Opens.int Try.underlying3) (Opens.last (by kernel_rfl) (Opens.int Try.underlying34)))))
  exact h
/-- THE PLAIN STATEMENT. -/
def Pure : Prop := ∀ (x0 : S41), good41 x0 → ∃ k : Nat, precentorlaw13_MeterMore.f k x0.f0.f0 x0.f0.f1 x0.f0.f2 x0.f1 x0.f2 x0.f3 = some true
end Go.Proofs.Ytkihhkhhmplnlaa.MeterMoreS
