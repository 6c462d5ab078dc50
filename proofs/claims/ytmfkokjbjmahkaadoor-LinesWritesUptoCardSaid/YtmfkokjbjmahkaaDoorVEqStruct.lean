-- Of the printed words those that this law's texts use, picked by this session's shake.py.
import Derived.Test.YtmfkokjbjmahkaaDoorVWords
import Derived.Laws.StructEq
/-! ### 53. '==' of structs as_ one Bool -/
namespace Go.Proofs.YtmfkokjbjmahkaaDoorW.PrintWords
open Go.RowKit
section
variable {P : Program} {d : Nat} {xs ys : Array Value} {f : Field} {fs : List Field} {a b : Value} {r s : Bool} {w : World}
end
end Go.Proofs.YtmfkokjbjmahkaaDoorW.PrintWords
