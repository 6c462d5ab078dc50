/- The pure statement of the law LinesWrites: over numbers and lists alone. -/
import Derived.Test.YtmfkokjbjmahkaaDoorOpenA
import Derived.Test.YtmfkokjbjmahkaaDoorX7
namespace Go.Proofs.YtmfkokjbjmahkaaDoor.X
open Go.RowKit Go.Proofs.YtmfkokjbjmahkaaDoorW.PrintWords Go.Proofs.YtmfkokjbjmahkaaDoorW.PrintLast Go.Proofs.YtmfkokjbjmahkaaDoor.Open
def flonglaw05_LinesWrites.PureSaid : Prop := ∀ (l0 : List (S35)), l0.length * 64 ≤ 140737488351232 → (∀ x0 ∈ l0, fit35 x0) → (l0.map (fun x => rowBulk x)).sum ≤ 1048576 → ∃ k, flonglaw05_LinesWrites.f k l0 = some true
end Go.Proofs.YtmfkokjbjmahkaaDoor.X
