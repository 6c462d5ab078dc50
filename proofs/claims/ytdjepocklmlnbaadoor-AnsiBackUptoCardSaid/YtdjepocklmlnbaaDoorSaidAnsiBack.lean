/- The pure statement of the law AnsiBack: over numbers and lists alone. -/
import Derived.Test.YtdjepocklmlnbaaDoorOpenA
import Derived.Test.YtdjepocklmlnbaaDoorX13
namespace Go.Proofs.YtdjepocklmlnbaaDoor.X
open Go.RowKit Go.Proofs.YtdjepocklmlnbaaDoorW.PrintWords Go.Proofs.YtdjepocklmlnbaaDoorW.PrintLast Go.Proofs.YtdjepocklmlnbaaDoor.Open
def flonglaw19_AnsiBack.PureSaid : Prop := ∀ (l0 : List (S35)), l0.length * 40 ≤ 140737488351232 → (∀ x0 ∈ l0, fit35 x0) → (l0.map (fun x => x.f1.length + 1)).sum ≤ 1048576 → ∃ k, flonglaw19_AnsiBack.f k l0 = some true
end Go.Proofs.YtdjepocklmlnbaaDoor.X
