/- The pure statement of the law RunesReads: over numbers and lists alone. -/
import Derived.Test.YtaoiogpgncjolaaDoorOpenKd
import Derived.Test.YtaoiogpgncjolaaDoorLaidB02
import Derived.Test.YtaoiogpgncjolaaDoorX11
namespace Go.Proofs.YtaoiogpgncjolaaDoor.X
open Go.RowKit Go.Proofs.YtaoiogpgncjolaaDoorW.PrintWords Go.Proofs.YtaoiogpgncjolaaDoorW.PrintLast
def flonglaw02_RunesReads.PureSaid : Prop := ∀ (l0 : List (Int)), l0.length * 1 ≤ 140737488351232 → (∀ x0 ∈ l0, (Lit.int .u8 x0).wf = true) → ∃ k, flonglaw02_RunesReads.f k l0 = some true
end Go.Proofs.YtaoiogpgncjolaaDoor.X
