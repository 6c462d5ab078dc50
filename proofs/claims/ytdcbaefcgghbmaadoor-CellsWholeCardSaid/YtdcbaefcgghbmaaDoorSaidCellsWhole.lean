/- The pure statement of the law CellsWhole: over numbers and lists alone. -/
import Derived.Test.YtdcbaefcgghbmaaDoorOpenA
import Derived.Test.YtdcbaefcgghbmaaDoorX11
namespace Go.Proofs.YtdcbaefcgghbmaaDoor.X
open Go.RowKit Go.Proofs.YtdcbaefcgghbmaaDoorW.PrintWords Go.Proofs.YtdcbaefcgghbmaaDoorW.PrintLast Go.Proofs.YtdcbaefcgghbmaaDoor.Open
def flonglaw03_CellsWhole.PureSaid : Prop := ∀ (l0 : List (S28)) (a1 : Int), l0.length * 8 ≤ 140737488351232 → (∀ x0 ∈ l0, fit28 x0) → (Lit.int .u16 a1).wf = true → ∃ k, flonglaw03_CellsWhole.f k l0 a1 = some true
end Go.Proofs.YtdcbaefcgghbmaaDoor.X
