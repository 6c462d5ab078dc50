/- The pure statement of the law OverReads: over numbers and lists alone. -/
import Derived.Test.YtmeinakeiefcdaaDoorOpenA
import Derived.Test.YtmeinakeiefcdaaDoorX10
namespace Go.Proofs.YtmeinakeiefcdaaDoor.X
open Go.RowKit Go.Proofs.YtmeinakeiefcdaaDoorW.PrintWords Go.Proofs.YtmeinakeiefcdaaDoorW.PrintLast
def flonglaw18_OverReads.PureSaid : Prop := ∀ (l0 : List (Int)), l0.length * 1 ≤ 140737488351232 → (∀ x0 ∈ l0, (Lit.int .u8 x0).wf = true) → ∃ k, flonglaw18_OverReads.f k l0 = some true
end Go.Proofs.YtmeinakeiefcdaaDoor.X
