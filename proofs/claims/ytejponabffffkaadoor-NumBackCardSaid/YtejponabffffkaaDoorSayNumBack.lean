/- What NumBack says in plain Lean: a statement on Lean values alone (Pure), what is good of its arguments, and that arguments that read as data are good ones. -/
import Derived.Test.YtejponabffffkaaDoorPrint4
import Derived.Test.YtejponabffffkaaDoorOpen
namespace Go.Proofs.YtejponabffffkaaDoor.NumBackS
open Go.RowKit Go.Proofs.YtejponabffffkaaDoor.Print Go.Proofs.YtejponabffffkaaDoor.Opens
open Go.Proofs.YtejponabffffkaaDoorW.PrintWords Go.Proofs.YtejponabffffkaaDoorW.PrintLast
set_option linter.unusedVariables false
/-- THE PLAIN STATEMENT. -/
def Pure : Prop := ∀ (x0 : Int) (x1 : Int) (x2 : List Int), (Lit.int .i64 x0).wf = true → (Lit.int .u8 x1).wf = true → (x2.length ≤ maxLen ∧ ∀ y_ ∈ x2, (Lit.int .u8 y_).wf = true) → ∃ k : Nat, precentorlaw02_NumBack.f k x0 x1 x2 = some true
end Go.Proofs.YtejponabffffkaaDoor.NumBackS
