/- The pure statement of the law PlainReads: over numbers and lists alone. -/
import Derived.Test.YtadejblahbebdaaDoorOpenA
import Derived.Test.YtadejblahbebdaaDoorX19
namespace Go.Proofs.YtadejblahbebdaaDoor.X
open Go.RowKit Go.Proofs.YtadejblahbebdaaDoorW.PrintWords Go.Proofs.YtadejblahbebdaaDoorW.PrintLast Go.Proofs.YtadejblahbebdaaDoor.Open
def flonglaw17_PlainReads.PureSaid : Prop := ∀ (l0 : List (Int)) (l1 : List (S37)), l0.length * 1 ≤ 140737488351232 → (∀ x0 ∈ l0, (Lit.int .u8 x0).wf = true) → l1.length * 8 ≤ 140737488351232 → (∀ x0 ∈ l1, fit37 x0) → ∃ k, flonglaw17_PlainReads.f k l0 l1 = some true
end Go.Proofs.YtadejblahbebdaaDoor.X
