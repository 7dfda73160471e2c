/- What NumSplit says in plain Lean: a statement on Lean values alone (Pure), what is good of its arguments, and that arguments that read as data are good ones. -/
import Derived.Test.YtejponabffffkaaDoorPrint6
import Derived.Test.YtejponabffffkaaDoorOpen
namespace Go.Proofs.YtejponabffffkaaDoor.NumSplitS
open Go.RowKit Go.Proofs.YtejponabffffkaaDoor.Print Go.Proofs.YtejponabffffkaaDoor.Opens
open Go.Proofs.YtejponabffffkaaDoorW.PrintWords Go.Proofs.YtejponabffffkaaDoorW.PrintLast
set_option linter.unusedVariables false
def good47 (x : S47) : Prop := (x.f0.length ≤ maxLen ∧ ∀ y_ ∈ x.f0, (Lit.int .u8 y_).wf = true) ∧ (Lit.int .u8 x.f1).wf = true ∧ (Lit.int .u8 x.f2).wf = true ∧ (Lit.int .u8 x.f3).wf = true
theorem opens47 : Opens Tryd.prog 47 k47 good47 := by
  have h := Opens.struct (P := Tryd.prog) (f := (fun x : S47 => (x.f0, x.f1, x.f2, x.f3))) (fun p => ⟨p.1, p.2.1, p.2.2.1, p.2.2.2⟩) Tryd.underlying47 (by kernel_rfl) (fun _ => rfl) (by rfl) (Opens.more (by kernel_rfl) (Opens.slice Tryd.underlying22 (by kernel_rfl) (Opens.int Tryd.underlying5)) (Opens.more (by kernel_rfl) (Opens.int Tryd.underlying5) (Opens.more (by kernel_rfl) (Opens.int Tryd.underlying5) (Opens.last (by kernel_rfl) (Opens.int Tryd.underlying5)))))
  exact h
/-- THE PLAIN STATEMENT. -/
def Pure : Prop := ∀ (x0 : S47), good47 x0 → ∃ k : Nat, precentorlaw02_NumSplit.f k x0.f0 x0.f1 x0.f2 x0.f3 = some true
end Go.Proofs.YtejponabffffkaaDoor.NumSplitS
