/- The pure statement of the law LinesMacros: over numbers and lists alone. -/
import Derived.Test.YtmfkokjbjmahkaaDoorOpenA
import Derived.Test.YtmfkokjbjmahkaaDoorX6
namespace Go.Proofs.YtmfkokjbjmahkaaDoor.X
open Go.RowKit Go.Proofs.YtmfkokjbjmahkaaDoorW.PrintWords Go.Proofs.YtmfkokjbjmahkaaDoorW.PrintLast
def flonglaw05_LinesMacros.PureSaid : Prop := ∀ (a0 : ByteArray) (l1 : List (ByteArray)) (a2 : Int), a0.size ≤ 140737488351232 → l1.length * 16 ≤ 140737488351232 → (∀ x0 ∈ l1, x0.size ≤ 140737488351232) → (Lit.int .u8 a2).wf = true → ∃ k, flonglaw05_LinesMacros.f k a0 l1 a2 = some true
end Go.Proofs.YtmfkokjbjmahkaaDoor.X
