/- The pure statement of the law RunesBack: over numbers and lists alone. -/
import Derived.Test.YtaoiogpgncjolaaDoorOpenKd
import Derived.Test.YtaoiogpgncjolaaDoorLaidB02
import Derived.Test.YtaoiogpgncjolaaDoorX12
namespace Go.Proofs.YtaoiogpgncjolaaDoor.X
open Go.RowKit Go.Proofs.YtaoiogpgncjolaaDoorW.PrintWords Go.Proofs.YtaoiogpgncjolaaDoorW.PrintLast
def flonglaw02_RunesBack.PureSaid : Prop := ∀ (l0 : List (Int)) (l1 : List (Int)) (l2 : List (Int)), l0.length * 4 ≤ 140737488351232 → (∀ x0 ∈ l0, (Lit.int .i32 x0).wf = true) → l1.length * 1 ≤ 140737488351232 → (∀ x0 ∈ l1, (Lit.int .u8 x0).wf = true) → l2.length * 1 ≤ 140737488351232 → (∀ x0 ∈ l2, (Lit.int .u8 x0).wf = true) → ∃ k, flonglaw02_RunesBack.f k l0 l1 l2 = some true
end Go.Proofs.YtaoiogpgncjolaaDoor.X
