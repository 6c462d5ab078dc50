/- The pure statement of the law PlainJoins: over numbers and lists alone. -/
import Derived.Test.YtadejblahbebdaaDoorOpenA
import Derived.Test.YtadejblahbebdaaDoorOpenLine
import Derived.Test.YtadejblahbebdaaDoorX14
namespace Go.Proofs.YtadejblahbebdaaDoor.X
open Go.RowKit Go.Proofs.YtadejblahbebdaaDoorW.PrintWords Go.Proofs.YtadejblahbebdaaDoorW.PrintLast Go.Proofs.YtadejblahbebdaaDoor.Open
def flonglaw17_PlainJoins.PureSaid : Prop := ∀ (l0 : List (S49)) (l1 : List (S49)), l0.length * 40 ≤ 140737488351232 → (∀ x0 ∈ l0, fit49 x0) → l1.length * 40 ≤ 140737488351232 → (∀ x0 ∈ l1, fit49 x0) → (l0.map (fun x => x.f1.length + 1)).sum ≤ 1048576 → (l1.map (fun x => x.f1.length + 1)).sum ≤ 1048576 → ∃ k, flonglaw17_PlainJoins.f k l0 l1 = some true
end Go.Proofs.YtadejblahbebdaaDoor.X
