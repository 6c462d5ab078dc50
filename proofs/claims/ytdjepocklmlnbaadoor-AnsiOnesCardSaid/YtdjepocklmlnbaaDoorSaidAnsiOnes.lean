/- The pure statement of the law AnsiOnes: over numbers and lists alone. -/
import Derived.Test.YtdjepocklmlnbaaDoorOpenA
import Derived.Test.YtdjepocklmlnbaaDoorX10
namespace Go.Proofs.YtdjepocklmlnbaaDoor.X
open Go.RowKit Go.Proofs.YtdjepocklmlnbaaDoorW.PrintWords Go.Proofs.YtdjepocklmlnbaaDoorW.PrintLast
def flonglaw19_AnsiOnes.PureSaid : Prop := ∀ (l0 : List (Int)), l0.length * 1 ≤ 140737488351232 → (∀ x0 ∈ l0, (Lit.int .u8 x0).wf = true) → ∃ k, flonglaw19_AnsiOnes.f k l0 = some true
end Go.Proofs.YtdjepocklmlnbaaDoor.X
