-- PRINTED BY print.sh 35421559b90ae4d0a3588c463048766b98c2df88dd9212a6774a882060cdf62d: not written by this session
import Derived.Test.YtieolhhokepkjaaDoorWInv
import Derived.Test.YtieolhhokepkjaaDoorWFootNe
namespace Go.Proofs.YtieolhhokepkjaaDoorW.PrintWords
open Go.RowKit
end Go.Proofs.YtieolhhokepkjaaDoorW.PrintWords
namespace Go.Proofs.YtieolhhokepkjaaDoorW.PrintLast
section
variable {ops : Array Oper} {a : Act} {o og : Oper} {g : Nat} {t : Tmp} {u : Bool}
end
end Go.Proofs.YtieolhhokepkjaaDoorW.PrintLast
