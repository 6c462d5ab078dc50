/- The pure statement of the law LinesQuoted: over numbers and lists alone. -/
import Derived.Test.YtmfkokjbjmahkaaDoorOpenA
import Derived.Test.YtmfkokjbjmahkaaDoorX5
namespace Go.Proofs.YtmfkokjbjmahkaaDoor.X
open Go.RowKit Go.Proofs.YtmfkokjbjmahkaaDoorW.PrintWords Go.Proofs.YtmfkokjbjmahkaaDoorW.PrintLast
def flonglaw05_LinesQuoted.PureSaid : Prop := ∀ (l0 : List (ByteArray)), l0.length * 16 ≤ 140737488351232 → (∀ x0 ∈ l0, x0.size ≤ 140737488351232) → ∃ k, flonglaw05_LinesQuoted.f k l0 = some true
end Go.Proofs.YtmfkokjbjmahkaaDoor.X
