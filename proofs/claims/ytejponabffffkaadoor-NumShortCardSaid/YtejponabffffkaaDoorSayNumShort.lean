/- What NumShort says in plain Lean: a statement on Lean values alone (Pure), what is good of its arguments, and that arguments that read as data are good ones. -/
import Derived.Test.YtejponabffffkaaDoorPrint7
import Derived.Test.YtejponabffffkaaDoorOpen
namespace Go.Proofs.YtejponabffffkaaDoor.NumShortS
open Go.RowKit Go.Proofs.YtejponabffffkaaDoor.Print Go.Proofs.YtejponabffffkaaDoor.Opens
open Go.Proofs.YtejponabffffkaaDoorW.PrintWords Go.Proofs.YtejponabffffkaaDoorW.PrintLast
set_option linter.unusedVariables false
/-- THE PLAIN STATEMENT. -/
def Pure : Prop := ∀ (x0 : List Int), (x0.length ≤ maxLen ∧ ∀ y_ ∈ x0, (Lit.int .u8 y_).wf = true) → ∃ k : Nat, precentorlaw02_NumShort.f k x0 = some true
end Go.Proofs.YtejponabffffkaaDoor.NumShortS
