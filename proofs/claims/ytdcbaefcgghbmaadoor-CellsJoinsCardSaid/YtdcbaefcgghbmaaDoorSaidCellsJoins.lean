/- The pure statement of the law CellsJoins: over numbers and lists alone. -/
import Derived.Test.YtdcbaefcgghbmaaDoorOpenA
import Derived.Test.YtdcbaefcgghbmaaDoorX19
namespace Go.Proofs.YtdcbaefcgghbmaaDoor.X
open Go.RowKit Go.Proofs.YtdcbaefcgghbmaaDoorW.PrintWords Go.Proofs.YtdcbaefcgghbmaaDoorW.PrintLast Go.Proofs.YtdcbaefcgghbmaaDoor.Open
def flonglaw03_CellsJoins.PureSaid : Prop := ∀ (a0 : ByteArray) (a1 : ByteArray) (a2 : Int) (l3 : List (S28)) (l4 : List (S28)), a0.size ≤ 140737488351232 → a1.size ≤ 140737488351232 → (Lit.int .u8 a2).wf = true → l3.length * 8 ≤ 140737488351232 → (∀ x0 ∈ l3, fit28 x0) → l4.length * 8 ≤ 140737488351232 → (∀ x0 ∈ l4, fit28 x0) → ∃ k, flonglaw03_CellsJoins.f k a0 a1 a2 l3 l4 = some true
end Go.Proofs.YtdcbaefcgghbmaaDoor.X
