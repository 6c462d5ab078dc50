/- The pure statement of the law AnsiWrites: over numbers and lists alone. -/
import Derived.Test.YtdjepocklmlnbaaDoorOpenA
import Derived.Test.YtdjepocklmlnbaaDoorX11
namespace Go.Proofs.YtdjepocklmlnbaaDoor.X
open Go.RowKit Go.Proofs.YtdjepocklmlnbaaDoorW.PrintWords Go.Proofs.YtdjepocklmlnbaaDoorW.PrintLast Go.Proofs.YtdjepocklmlnbaaDoor.Open
def flonglaw19_AnsiWrites.PureSaid : Prop := ∀ (l0 : List (S35)) (a1 : Int), l0.length * 40 ≤ 140737488351232 → (∀ x0 ∈ l0, fit35 x0) → (Lit.int .u8 a1).wf = true → (l0.map (fun x => x.f1.length + 1)).sum ≤ 1048576 → ∃ k, flonglaw19_AnsiWrites.f k l0 a1 = some true
end Go.Proofs.YtdjepocklmlnbaaDoor.X
