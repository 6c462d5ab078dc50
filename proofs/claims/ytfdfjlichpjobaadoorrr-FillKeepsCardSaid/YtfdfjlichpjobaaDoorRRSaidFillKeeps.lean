/- The pure statement of the law FillKeeps: over numbers and lists alone. -/
import Derived.Test.YtfdfjlichpjobaaDoorRROpenA
import Derived.Test.YtfdfjlichpjobaaDoorRRX13
namespace Go.Proofs.YtfdfjlichpjobaaDoorRR.X
open Go.RowKit Go.Proofs.YtfdfjlichpjobaaDoorRRW.PrintWords Go.Proofs.YtfdfjlichpjobaaDoorRRW.PrintLast Go.Proofs.YtfdfjlichpjobaaDoorRR.Open
def flonglaw12_FillKeeps.PureSaid : Prop := ∀ (l0 : List (S39)) (a1 : Int), l0.length * 8 ≤ 140737488351232 → (∀ x0 ∈ l0, fit39 x0) → (Lit.int .u16 a1).wf = true → ∃ k, flonglaw12_FillKeeps.f k l0 a1 = some true
end Go.Proofs.YtfdfjlichpjobaaDoorRR.X
