/- What NumRows says in plain Lean: a statement on Lean values alone (Pure), what is good of its arguments, and that arguments that read as data are good ones. -/
import Derived.Test.YtejponabffffkaaDoorPrint5
import Derived.Test.YtejponabffffkaaDoorOpen
namespace Go.Proofs.YtejponabffffkaaDoor.NumRowsS
open Go.RowKit Go.Proofs.YtejponabffffkaaDoor.Print Go.Proofs.YtejponabffffkaaDoor.Opens
open Go.Proofs.YtejponabffffkaaDoorW.PrintWords Go.Proofs.YtejponabffffkaaDoorW.PrintLast
set_option linter.unusedVariables false
def good43 (x : S43) : Prop := (x.f0.length ≤ maxLen ∧ ∀ y_ ∈ x.f0, (Lit.int .i64 y_).wf = true) ∧ (x.f1.length ≤ maxLen ∧ ∀ y_ ∈ x.f1, (Lit.int .i64 y_).wf = true) ∧ (Lit.int .u8 x.f2).wf = true ∧ (x.f3.length ≤ maxLen ∧ ∀ y_ ∈ x.f3, (Lit.int .u8 y_).wf = true)
theorem opens43 : Opens Tryd.prog 43 k43 good43 := by
  have h := Opens.struct (P := Tryd.prog) (f := (fun x : S43 => (x.f0, x.f1, x.f2, x.f3))) (fun p => ⟨p.1, p.2.1, p.2.2.1, p.2.2.2⟩) Tryd.underlying43 (by kernel_rfl) (fun _ => rfl) (by rfl) (Opens.more (by kernel_rfl) (Opens.slice Tryd.underlying23 (by kernel_rfl) (Opens.int Tryd.underlying3)) (Opens.more (by kernel_rfl) (Opens.slice Tryd.underlying23 (by kernel_rfl) (Opens.int Tryd.underlying3)) (Opens.more (by kernel_rfl) (Opens.int Tryd.underlying5) (Opens.last (by kernel_rfl) (Opens.slice Tryd.underlying22 (by kernel_rfl) (Opens.int Tryd.underlying5))))))
  exact h
/-- THE PLAIN STATEMENT. -/
def Pure : Prop := ∀ (x0 : S43), good43 x0 → ∃ k : Nat, precentorlaw02_NumRows.f k x0.f0 x0.f1 x0.f2 x0.f3 = some true
end Go.Proofs.YtejponabffffkaaDoor.NumRowsS
