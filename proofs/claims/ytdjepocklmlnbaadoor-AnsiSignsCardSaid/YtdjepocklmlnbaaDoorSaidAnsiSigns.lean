/- The pure statement of the law AnsiSigns: over numbers and lists alone. -/
import Derived.Test.YtdjepocklmlnbaaDoorOpenA
import Derived.Test.YtdjepocklmlnbaaDoorHandL
namespace Go.Proofs.YtdjepocklmlnbaaDoor.X
open Go.RowKit Go.Proofs.YtdjepocklmlnbaaDoorW.PrintWords Go.Proofs.YtdjepocklmlnbaaDoorW.PrintLast
def flonglaw19_AnsiSigns.PureSaid : Prop := ∀ (a0 : Int) (l1 : List (Int)), (Lit.int .u8 a0).wf = true → l1.length * 1 ≤ 140737488351232 → (∀ x0 ∈ l1, (Lit.int .u8 x0).wf = true) → ∃ k, flonglaw19_AnsiSigns.f k a0 l1 = some true
end Go.Proofs.YtdjepocklmlnbaaDoor.X
