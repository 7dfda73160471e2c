/- What CrcBurst says in plain Lean: a statement on Lean values alone (Pure), what is good of its arguments, and that arguments that read as data are good ones. -/
import Derived.Test.YtpfoomdajgdbeaaBurst
import Derived.Test.YtpfoomdajgdbeaaOpen
namespace Go.Proofs.Ytpfoomdajgdbeaa.CrcBurstS
open Go.RowKit Go.Proofs.Ytpfoomdajgdbeaa.Print Go.Proofs.Ytpfoomdajgdbeaa.Opens
open Go.Proofs.YtpfoomdajgdbeaaW.PrintWords Go.Proofs.YtpfoomdajgdbeaaW.PrintLast
set_option linter.unusedVariables false
def good35 (x : S35) : Prop := (Lit.int .u8 x.f0).wf = true ∧ (Lit.int .u8 x.f1).wf = true ∧ (Lit.int .u8 x.f2).wf = true ∧ (Lit.int .u8 x.f3).wf = true
theorem opens35 : Opens Try.prog 35 k35 good35 := by
  have h := Opens.array (P := Try.prog) (f := (fun x : S35 => (x.f0, x.f1, x.f2, x.f3))) (fun p => ⟨p.1, p.2.1, p.2.2.1, p.2.2.2⟩) Try.underlying35 (by kernel_rfl) (fun _ => rfl) (by kernel_rfl) (Opens.more (by kernel_rfl) (Opens.int Try.underlying5) (Opens.more (by kernel_rfl) (Opens.int Try.underlying5) (Opens.more (by kernel_rfl) (Opens.int Try.underlying5) (Opens.last (by kernel_rfl) (Opens.int Try.underlying5)))))
  exact h
/-- THE PLAIN STATEMENT. -/
def Pure : Prop := ∀ (x0 : List Int) (x1 : Int) (x2 : S35), (x0.length ≤ maxLen ∧ ∀ y_ ∈ x0, (Lit.int .u8 y_).wf = true) → (Lit.int .i64 x1).wf = true → good35 x2 → ∃ k : Nat, precentorlaw01_CrcBurst.f x0 x1 x2.f0 x2.f1 x2.f2 x2.f3 = some true
end Go.Proofs.Ytpfoomdajgdbeaa.CrcBurstS
