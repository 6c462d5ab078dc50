/- The pure statement of the law PlainNormal: over numbers and lists alone. -/
import Derived.Test.YtadejblahbebdaaDoorOpenA
import Derived.Test.YtadejblahbebdaaDoorX17
namespace Go.Proofs.YtadejblahbebdaaDoor.X
open Go.RowKit Go.Proofs.YtadejblahbebdaaDoorW.PrintWords Go.Proofs.YtadejblahbebdaaDoorW.PrintLast Go.Proofs.YtadejblahbebdaaDoor.Open
def flonglaw17_PlainNormal.PureSaid : Prop := ∀ (l0 : List (S37)), l0.length * 8 ≤ 140737488351232 → (∀ x0 ∈ l0, fit37 x0) → ∃ k, flonglaw17_PlainNormal.f k l0 = some true
end Go.Proofs.YtadejblahbebdaaDoor.X
