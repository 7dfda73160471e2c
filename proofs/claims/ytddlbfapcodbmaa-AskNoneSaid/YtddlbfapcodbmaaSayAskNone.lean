/- What AskNone says in plain Lean: a statement on Lean values alone (Pure), what is good of its arguments, and that arguments that read as data are good ones. -/
import Derived.Test.YtddlbfapcodbmaaPrint3
import Derived.Test.YtddlbfapcodbmaaOpen
namespace Go.Proofs.Ytddlbfapcodbmaa.AskNoneS
open Go.RowKit Go.Proofs.Ytddlbfapcodbmaa.Print Go.Proofs.Ytddlbfapcodbmaa.Opens
open Go.Proofs.YtddlbfapcodbmaaW.PrintWords Go.Proofs.YtddlbfapcodbmaaW.PrintLast
set_option linter.unusedVariables false
/-- THE PLAIN STATEMENT. -/
def Pure : Prop := ∀ (x0 : Int) (x1 : Int) (x2 : Int), (Lit.int .i64 x0).wf = true → (Lit.int .u32 x1).wf = true → (Lit.int .u16 x2).wf = true → ∃ k : Nat, precentorlaw10_AskNone.f x0 x1 x2 = some true
end Go.Proofs.Ytddlbfapcodbmaa.AskNoneS
