/- What CrcOpens says in plain Lean: a statement on Lean values alone (Pure), what is good of its arguments, and that arguments that read as data are good ones. -/
import Derived.Test.YtpfoomdajgdbeaaPrint7
import Derived.Test.YtpfoomdajgdbeaaOpen
namespace Go.Proofs.Ytpfoomdajgdbeaa.CrcOpensS
open Go.RowKit Go.Proofs.Ytpfoomdajgdbeaa.Print Go.Proofs.Ytpfoomdajgdbeaa.Opens
open Go.Proofs.YtpfoomdajgdbeaaW.PrintWords Go.Proofs.YtpfoomdajgdbeaaW.PrintLast
set_option linter.unusedVariables false
/-- THE PLAIN STATEMENT. -/
def Pure : Prop := ∀ (x0 : List Int), (x0.length ≤ maxLen ∧ ∀ y_ ∈ x0, (Lit.int .u8 y_).wf = true) → ∃ k : Nat, precentorlaw01_CrcOpens.f x0 = some true
end Go.Proofs.Ytpfoomdajgdbeaa.CrcOpensS
