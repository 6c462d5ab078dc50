-- Of the printed words those that this law's texts use, picked by this session's shake.py.
import Derived.Test.YtdjepocklmlnbaaDoorVInv
import Derived.Test.YtdjepocklmlnbaaDoorVFootNe
namespace Go.Proofs.YtdjepocklmlnbaaDoorW.PrintWords
open Go.RowKit
end Go.Proofs.YtdjepocklmlnbaaDoorW.PrintWords
namespace Go.Proofs.YtdjepocklmlnbaaDoorW.PrintLast
section
variable {ops : Array Oper} {a : Act} {o og : Oper} {g : Nat} {t : Tmp} {u : Bool}
end
end Go.Proofs.YtdjepocklmlnbaaDoorW.PrintLast
