/- The pure statement of the law LinesOrder: over numbers and lists alone. -/
import Derived.Test.YtmfkokjbjmahkaaDoorOpenA
import Derived.Test.YtmfkokjbjmahkaaDoorX5
namespace Go.Proofs.YtmfkokjbjmahkaaDoor.X
open Go.RowKit Go.Proofs.YtmfkokjbjmahkaaDoorW.PrintWords Go.Proofs.YtmfkokjbjmahkaaDoorW.PrintLast
def flonglaw05_LinesOrder.PureSaid : Prop := ∀ (a0 : ByteArray) (a1 : ByteArray), a0.size ≤ 140737488351232 → a1.size ≤ 140737488351232 → ∃ k, flonglaw05_LinesOrder.f k a0 a1 = some true
end Go.Proofs.YtmfkokjbjmahkaaDoor.X
