/- The pure statement of the law PlainBack: over numbers and lists alone. -/
import Derived.Test.YtadejblahbebdaaDoorOpenA
import Derived.Test.YtadejblahbebdaaDoorOpenLine
import Derived.Test.YtadejblahbebdaaDoorX16
namespace Go.Proofs.YtadejblahbebdaaDoor.X
open Go.RowKit Go.Proofs.YtadejblahbebdaaDoorW.PrintWords Go.Proofs.YtadejblahbebdaaDoorW.PrintLast Go.Proofs.YtadejblahbebdaaDoor.Open
def flonglaw17_PlainBack.PureSaid : Prop := ∀ (l0 : List (S49)), l0.length * 40 ≤ 140737488351232 → (∀ x0 ∈ l0, fit49 x0) → (l0.map (fun x => x.f1.length + 1)).sum ≤ 1048576 → ∃ k, flonglaw17_PlainBack.f k l0 = some true
end Go.Proofs.YtadejblahbebdaaDoor.X
