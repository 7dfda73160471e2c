/- What NetGives says in plain Lean: a statement on Lean values alone (Pure), what is good of its arguments, and that arguments that read as data are good ones. -/
import Derived.Test.YthmgaeecfhmenaaPrint6
import Derived.Test.YthmgaeecfhmenaaOpen
namespace Go.Proofs.Ythmgaeecfhmenaa.NetGivesS
open Go.RowKit Go.Proofs.Ythmgaeecfhmenaa.Print Go.Proofs.Ythmgaeecfhmenaa.Opens
open Go.Proofs.YthmgaeecfhmenaaW.PrintWords Go.Proofs.YthmgaeecfhmenaaW.PrintLast
set_option linter.unusedVariables false
/-- THE PLAIN STATEMENT. -/
def Pure : Prop := ∀ (x0 : List (List Int)) (x1 : Bool), (x0.length ≤ maxLen ∧ ∀ y_ ∈ x0, (y_.length ≤ maxLen ∧ ∀ z_ ∈ y_, (Lit.int .u8 z_).wf = true)) → True → ∃ k : Nat, precentorlaw05_NetGives.f k x0 x1 = some true
end Go.Proofs.Ythmgaeecfhmenaa.NetGivesS
