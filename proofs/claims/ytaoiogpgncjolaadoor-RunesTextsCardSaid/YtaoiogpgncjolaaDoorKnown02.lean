/- What the chapter's examples fix: computed. -/
import Derived.Test.YtaoiogpgncjolaaDoorSpecA
import Derived.Test.YtaoiogpgncjolaaDoorX4
namespace Go.Proofs.YtaoiogpgncjolaaDoor.Pure
open Go.RowKit Go.Proofs.YtaoiogpgncjolaaDoorW.PrintWords Go.Proofs.YtaoiogpgncjolaaDoorW.PrintLast Go.Proofs.YtaoiogpgncjolaaDoor.X
theorem known_ev : Ev (fun k => flonglaw02_known.f k) true := Ev.of (k := 20) flonglaw02_known.mono (by kernel_rfl)
end Go.Proofs.YtaoiogpgncjolaaDoor.Pure
