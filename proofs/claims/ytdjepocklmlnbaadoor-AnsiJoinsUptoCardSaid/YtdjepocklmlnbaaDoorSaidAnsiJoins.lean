/- The pure statement of the law AnsiJoins: over numbers and lists alone. -/
import Derived.Test.YtdjepocklmlnbaaDoorOpenA
import Derived.Test.YtdjepocklmlnbaaDoorX9
namespace Go.Proofs.YtdjepocklmlnbaaDoor.X
open Go.RowKit Go.Proofs.YtdjepocklmlnbaaDoorW.PrintWords Go.Proofs.YtdjepocklmlnbaaDoorW.PrintLast Go.Proofs.YtdjepocklmlnbaaDoor.Open
def flonglaw19_AnsiJoins.PureSaid : Prop := ∀ (l0 : List (S35)) (l1 : List (S35)) (l2 : List (S44)), l0.length * 40 ≤ 140737488351232 → (∀ x0 ∈ l0, fit35 x0) → l1.length * 40 ≤ 140737488351232 → (∀ x0 ∈ l1, fit35 x0) → l2.length * 8 ≤ 140737488351232 → (∀ x0 ∈ l2, fit44 x0) → (l0.map (fun x => x.f1.length + 1)).sum ≤ 1048576 → (l1.map (fun x => x.f1.length + 1)).sum ≤ 1048576 → ∃ k, flonglaw19_AnsiJoins.f k l0 l1 l2 = some true
end Go.Proofs.YtdjepocklmlnbaaDoor.X
