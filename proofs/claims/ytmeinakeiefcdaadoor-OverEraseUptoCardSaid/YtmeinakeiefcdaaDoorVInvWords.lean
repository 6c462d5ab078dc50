-- Of the printed words those that this law's texts use, picked by this session's shake.py.
import Derived.Test.YtmeinakeiefcdaaDoorVInv
import Derived.Test.YtmeinakeiefcdaaDoorVFootNe
namespace Go.Proofs.YtmeinakeiefcdaaDoorW.PrintWords
open Go.RowKit
end Go.Proofs.YtmeinakeiefcdaaDoorW.PrintWords
namespace Go.Proofs.YtmeinakeiefcdaaDoorW.PrintLast
section
variable {ops : Array Oper} {a : Act} {o og : Oper} {g : Nat} {t : Tmp} {u : Bool}
end
end Go.Proofs.YtmeinakeiefcdaaDoorW.PrintLast
