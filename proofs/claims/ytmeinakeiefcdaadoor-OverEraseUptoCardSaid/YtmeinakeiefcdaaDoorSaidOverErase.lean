/- The pure statement of the law OverErase: over numbers and lists alone. -/
import Derived.Test.YtmeinakeiefcdaaDoorOpenA
import Derived.Test.YtmeinakeiefcdaaDoorX8
namespace Go.Proofs.YtmeinakeiefcdaaDoor.X
open Go.RowKit Go.Proofs.YtmeinakeiefcdaaDoorW.PrintWords Go.Proofs.YtmeinakeiefcdaaDoorW.PrintLast Go.Proofs.YtmeinakeiefcdaaDoor.Open
def flonglaw18_OverErase.PureSaid : Prop := ∀ (l0 : List (S30)), l0.length * 40 ≤ 140737488351232 → (∀ x0 ∈ l0, fit30 x0) → (l0.map (fun x => x.f1.length + 1)).sum ≤ 1048576 → ∃ k, flonglaw18_OverErase.f k l0 = some true
end Go.Proofs.YtmeinakeiefcdaaDoor.X
