/- What the chapter's example fixes: computed. -/
import Derived.Test.YtadejblahbebdaaDoorSpecA
import Derived.Test.YtadejblahbebdaaDoorX9
namespace Go.Proofs.YtadejblahbebdaaDoor.Pure
open Go.RowKit Go.Proofs.YtadejblahbebdaaDoorW.PrintWords Go.Proofs.YtadejblahbebdaaDoorW.PrintLast Go.Proofs.YtadejblahbebdaaDoor.X
theorem known_ev : Ev (fun k => flonglaw17_known.f k) true := Ev.of (k := 30) flonglaw17_known.mono (by kernel_rfl)
end Go.Proofs.YtadejblahbebdaaDoor.Pure
