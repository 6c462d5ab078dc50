/- The pure statement of the law FillLines: over numbers and lists alone. -/
import Derived.Test.YtfdfjlichpjobaaDoorRROpenA
import Derived.Test.YtfdfjlichpjobaaDoorRRX11
namespace Go.Proofs.YtfdfjlichpjobaaDoorRR.X
open Go.RowKit Go.Proofs.YtfdfjlichpjobaaDoorRRW.PrintWords Go.Proofs.YtfdfjlichpjobaaDoorRRW.PrintLast Go.Proofs.YtfdfjlichpjobaaDoorRR.Open
def flonglaw12_FillLines.PureSaid : Prop := ∀ (a0 : Int) (l1 : List (List (S39))), (Lit.int .i64 a0).wf = true → l1.length * 24 ≤ 140737488351232 → (∀ x0 ∈ l1, (∀ x1 ∈ x0, fit39 x1)) → (l1.map (fun x => x.length + 1)).sum ≤ 1048576 → ∃ k, flonglaw12_FillLines.f k a0 l1 = some true
end Go.Proofs.YtfdfjlichpjobaaDoorRR.X
