/- The pure statement of the law AnsiReads: over numbers and lists alone. -/
import Derived.Test.YtdjepocklmlnbaaDoorOpenA
import Derived.Test.YtdjepocklmlnbaaDoorX12
namespace Go.Proofs.YtdjepocklmlnbaaDoor.X
open Go.RowKit Go.Proofs.YtdjepocklmlnbaaDoorW.PrintWords Go.Proofs.YtdjepocklmlnbaaDoorW.PrintLast
def flonglaw19_AnsiReads.PureSaid : Prop := ∀ (l0 : List (Int)), l0.length * 1 ≤ 140737488351232 → (∀ x0 ∈ l0, (Lit.int .u8 x0).wf = true) → ∃ k, flonglaw19_AnsiReads.f k l0 = some true
end Go.Proofs.YtdjepocklmlnbaaDoor.X
