-- Of the printed words those that this law's texts use, picked by this session's shake.py.
import Derived.Test.YtmfkokjbjmahkaaDoorVInv
import Derived.Test.YtmfkokjbjmahkaaDoorVFootNe
namespace Go.Proofs.YtmfkokjbjmahkaaDoorW.PrintWords
open Go.RowKit
end Go.Proofs.YtmfkokjbjmahkaaDoorW.PrintWords
namespace Go.Proofs.YtmfkokjbjmahkaaDoorW.PrintLast
section
variable {ops : Array Oper} {a : Act} {o og : Oper} {g : Nat} {t : Tmp} {u : Bool}
end
end Go.Proofs.YtmfkokjbjmahkaaDoorW.PrintLast
