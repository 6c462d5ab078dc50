/- The pure statement of the law FillWords: over numbers and lists alone. -/
import Derived.Test.YtfdfjlichpjobaaDoorRROpenA
import Derived.Test.YtfdfjlichpjobaaDoorRRX9
namespace Go.Proofs.YtfdfjlichpjobaaDoorRR.X
open Go.RowKit Go.Proofs.YtfdfjlichpjobaaDoorRRW.PrintWords Go.Proofs.YtfdfjlichpjobaaDoorRRW.PrintLast Go.Proofs.YtfdfjlichpjobaaDoorRR.Open
def flonglaw12_FillWords.PureSaid : Prop := ∀ (l0 : List (S39)) (l1 : List (S39)) (a2 : Int), l0.length * 8 ≤ 140737488351232 → (∀ x0 ∈ l0, fit39 x0) → l1.length * 8 ≤ 140737488351232 → (∀ x0 ∈ l1, fit39 x0) → (Lit.int .u8 a2).wf = true → ∃ k, flonglaw12_FillWords.f k l0 l1 a2 = some true
end Go.Proofs.YtfdfjlichpjobaaDoorRR.X
