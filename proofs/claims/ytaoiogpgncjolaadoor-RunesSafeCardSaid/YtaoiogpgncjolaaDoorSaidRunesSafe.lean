/- The pure statement of the law RunesSafe: over numbers and lists alone. -/
import Derived.Test.YtaoiogpgncjolaaDoorOpenKd
import Derived.Test.YtaoiogpgncjolaaDoorLaidB02
import Derived.Test.YtaoiogpgncjolaaDoorX4
namespace Go.Proofs.YtaoiogpgncjolaaDoor.X
open Go.RowKit Go.Proofs.YtaoiogpgncjolaaDoorW.PrintWords Go.Proofs.YtaoiogpgncjolaaDoorW.PrintLast
def flonglaw02_RunesSafe.PureSaid : Prop := ∀ (a0 : Int), (Lit.int .i32 a0).wf = true → ∃ k, flonglaw02_RunesSafe.f k a0 = some true
end Go.Proofs.YtaoiogpgncjolaaDoor.X
