/- The pure statement of the law OverJoins: over numbers and lists alone. -/
import Derived.Test.YtmeinakeiefcdaaDoorOpenA
import Derived.Test.YtmeinakeiefcdaaDoorX5
namespace Go.Proofs.YtmeinakeiefcdaaDoor.X
open Go.RowKit Go.Proofs.YtmeinakeiefcdaaDoorW.PrintWords Go.Proofs.YtmeinakeiefcdaaDoorW.PrintLast Go.Proofs.YtmeinakeiefcdaaDoor.Open
def flonglaw18_OverJoins.PureSaid : Prop := ∀ (l0 : List (S30)) (l1 : List (S30)) (l2 : List (S35)), l0.length * 40 ≤ 140737488351232 → (∀ x0 ∈ l0, fit30 x0) → l1.length * 40 ≤ 140737488351232 → (∀ x0 ∈ l1, fit30 x0) → l2.length * 8 ≤ 140737488351232 → (∀ x0 ∈ l2, fit35 x0) → (l0.map (fun x => x.f1.length + 1)).sum ≤ 1048576 → (l1.map (fun x => x.f1.length + 1)).sum ≤ 1048576 → ∃ k, flonglaw18_OverJoins.f k l0 l1 l2 = some true
end Go.Proofs.YtmeinakeiefcdaaDoor.X
