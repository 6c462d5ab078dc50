/- The pure statement of the law PlainKeeps: over numbers and lists alone. -/
import Derived.Test.YtadejblahbebdaaDoorOpenA
import Derived.Test.YtadejblahbebdaaDoorX17
namespace Go.Proofs.YtadejblahbebdaaDoor.X
open Go.RowKit Go.Proofs.YtadejblahbebdaaDoorW.PrintWords Go.Proofs.YtadejblahbebdaaDoorW.PrintLast
def flonglaw17_PlainKeeps.PureSaid : Prop := ∀ (l0 : List (Int)), l0.length * 1 ≤ 140737488351232 → (∀ x0 ∈ l0, (Lit.int .u8 x0).wf = true) → ∃ k, flonglaw17_PlainKeeps.f k l0 = some true
end Go.Proofs.YtadejblahbebdaaDoor.X
