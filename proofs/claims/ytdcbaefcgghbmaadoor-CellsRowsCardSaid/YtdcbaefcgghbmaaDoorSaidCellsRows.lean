/- The pure statement of the law CellsRows: over numbers and lists alone. -/
import Derived.Test.YtdcbaefcgghbmaaDoorOpenA
import Derived.Test.YtdcbaefcgghbmaaDoorX23
namespace Go.Proofs.YtdcbaefcgghbmaaDoor.X
open Go.RowKit Go.Proofs.YtdcbaefcgghbmaaDoorW.PrintWords Go.Proofs.YtdcbaefcgghbmaaDoorW.PrintLast Go.Proofs.YtdcbaefcgghbmaaDoor.Open
def flonglaw03_CellsRows.PureSaid : Prop := ∀ (l0 : List (S28)), l0.length * 8 ≤ 140737488351232 → (∀ x0 ∈ l0, fit28 x0) → ∃ k, flonglaw03_CellsRows.f k l0 = some true
end Go.Proofs.YtdcbaefcgghbmaaDoor.X
