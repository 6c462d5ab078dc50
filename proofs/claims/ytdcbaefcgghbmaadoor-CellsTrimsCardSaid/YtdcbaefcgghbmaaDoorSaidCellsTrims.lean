/- The pure statement of the law CellsTrims: over numbers and lists alone. -/
import Derived.Test.YtdcbaefcgghbmaaDoorOpenA
import Derived.Test.YtdcbaefcgghbmaaDoorX13
namespace Go.Proofs.YtdcbaefcgghbmaaDoor.X
open Go.RowKit Go.Proofs.YtdcbaefcgghbmaaDoorW.PrintWords Go.Proofs.YtdcbaefcgghbmaaDoorW.PrintLast Go.Proofs.YtdcbaefcgghbmaaDoor.Open
def flonglaw03_CellsTrims.PureSaid : Prop := ∀ (l0 : List (S28)) (a1 : Int) (a2 : Int), l0.length * 8 ≤ 140737488351232 → (∀ x0 ∈ l0, fit28 x0) → (Lit.int .u16 a1).wf = true → (Lit.int .u8 a2).wf = true → ∃ k, flonglaw03_CellsTrims.f k l0 a1 a2 = some true
end Go.Proofs.YtdcbaefcgghbmaaDoor.X
