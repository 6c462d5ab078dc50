/- The pure statement of the law CellsClean: over numbers and lists alone. -/
import Derived.Test.YtdcbaefcgghbmaaDoorOpenA
import Derived.Test.YtdcbaefcgghbmaaDoorX6
namespace Go.Proofs.YtdcbaefcgghbmaaDoor.X
open Go.RowKit Go.Proofs.YtdcbaefcgghbmaaDoorW.PrintWords Go.Proofs.YtdcbaefcgghbmaaDoorW.PrintLast Go.Proofs.YtdcbaefcgghbmaaDoor.Open
def flonglaw03_CellsClean.PureSaid : Prop := ∀ (l0 : List (S28)), l0.length * 8 ≤ 140737488351232 → (∀ x0 ∈ l0, fit28 x0) → ∃ k, flonglaw03_CellsClean.f k l0 = some true
end Go.Proofs.YtdcbaefcgghbmaaDoor.X
