/- The pure statement of the law CellsTexts: over numbers and lists alone. -/
import Derived.Test.YtdcbaefcgghbmaaDoorOpenA
import Derived.Test.YtdcbaefcgghbmaaDoorX18
namespace Go.Proofs.YtdcbaefcgghbmaaDoor.X
open Go.RowKit Go.Proofs.YtdcbaefcgghbmaaDoorW.PrintWords Go.Proofs.YtdcbaefcgghbmaaDoorW.PrintLast
def flonglaw03_CellsTexts.PureSaid : Prop := ∀ (a0 : ByteArray) (a1 : Int), a0.size ≤ 140737488351232 → (Lit.int .u8 a1).wf = true → ∃ k, flonglaw03_CellsTexts.f k a0 a1 = some true
end Go.Proofs.YtdcbaefcgghbmaaDoor.X
