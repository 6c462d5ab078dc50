/- The pure statement of the law RunesTexts: over numbers and lists alone. -/
import Derived.Test.YtaoiogpgncjolaaDoorOpenA
import Derived.Test.YtaoiogpgncjolaaDoorX15
namespace Go.Proofs.YtaoiogpgncjolaaDoor.X
open Go.RowKit Go.Proofs.YtaoiogpgncjolaaDoorW.PrintWords Go.Proofs.YtaoiogpgncjolaaDoorW.PrintLast
def flonglaw02_RunesTexts.PureSaid : Prop := ∀ (a0 : ByteArray), a0.size ≤ 140737488351232 → ∃ k, flonglaw02_RunesTexts.f k a0 = some true
end Go.Proofs.YtaoiogpgncjolaaDoor.X
