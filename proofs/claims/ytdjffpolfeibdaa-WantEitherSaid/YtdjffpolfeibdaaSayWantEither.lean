/- What WantEither says in plain Lean: a statement on Lean values alone (Pure), what is good of its arguments, and that arguments that read as data are good ones. -/
import Derived.Test.YtdjffpolfeibdaaPrint4
import Derived.Test.YtdjffpolfeibdaaOpen
namespace Go.Proofs.Ytdjffpolfeibdaa.WantEitherS
open Go.RowKit Go.Proofs.Ytdjffpolfeibdaa.Print Go.Proofs.Ytdjffpolfeibdaa.Opens
open Go.Proofs.YtdjffpolfeibdaaW.PrintWords Go.Proofs.YtdjffpolfeibdaaW.PrintLast
set_option linter.unusedVariables false
/-- THE PLAIN STATEMENT. -/
def Pure : Prop := ∀ (x0 : Int) (x1 : Int) (x2 : Int), (Lit.int .i64 x0).wf = true → (Lit.int .i64 x1).wf = true → (Lit.int .i64 x2).wf = true → ∃ k : Nat, precentorlaw14_WantEither.f k x0 x1 x2 = some true
end Go.Proofs.Ytdjffpolfeibdaa.WantEitherS
