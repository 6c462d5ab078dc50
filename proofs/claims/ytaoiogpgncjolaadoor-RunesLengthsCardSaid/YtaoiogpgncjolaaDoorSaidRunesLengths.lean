/- The pure statement of the law RunesLengths: over numbers and lists alone. -/
import Derived.Test.YtaoiogpgncjolaaDoorOpenKd
import Derived.Test.YtaoiogpgncjolaaDoorLaidB02
import Derived.Test.YtaoiogpgncjolaaDoorX7
namespace Go.Proofs.YtaoiogpgncjolaaDoor.X
open Go.RowKit Go.Proofs.YtaoiogpgncjolaaDoorW.PrintWords Go.Proofs.YtaoiogpgncjolaaDoorW.PrintLast
def flonglaw02_RunesLengths.PureSaid : Prop := ∀ (l0 : List (Int)) (a1 : Int) (a2 : Int) (a3 : Int), l0.length * 1 ≤ 140737488351232 → (∀ x0 ∈ l0, (Lit.int .u8 x0).wf = true) → (Lit.int .i32 a1).wf = true → (Lit.int .i32 a2).wf = true → (Lit.int .u8 a3).wf = true → ∃ k, flonglaw02_RunesLengths.f k l0 a1 a2 a3 = some true
end Go.Proofs.YtaoiogpgncjolaaDoor.X
