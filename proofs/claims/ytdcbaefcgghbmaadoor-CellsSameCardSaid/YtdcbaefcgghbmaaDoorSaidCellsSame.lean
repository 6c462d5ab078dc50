/- The pure statement of the law CellsSame: over numbers and lists alone. -/
import Derived.Test.YtdcbaefcgghbmaaDoorOpenA
import Derived.Test.YtdcbaefcgghbmaaDoorX7
namespace Go.Proofs.YtdcbaefcgghbmaaDoor.X
open Go.RowKit Go.Proofs.YtdcbaefcgghbmaaDoorW.PrintWords Go.Proofs.YtdcbaefcgghbmaaDoorW.PrintLast Go.Proofs.YtdcbaefcgghbmaaDoor.Open
def flonglaw03_CellsSame.PureSaid : Prop := ∀ (l0 : List (S28)) (l1 : List (S28)), l0.length * 8 ≤ 140737488351232 → (∀ x0 ∈ l0, fit28 x0) → l1.length * 8 ≤ 140737488351232 → (∀ x0 ∈ l1, fit28 x0) → ∃ k, flonglaw03_CellsSame.f k l0 l1 = some true
end Go.Proofs.YtdcbaefcgghbmaaDoor.X
