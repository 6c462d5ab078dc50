/- The pure statement of the law RunesSums: over numbers and lists alone. -/
import Derived.Test.YtaoiogpgncjolaaDoorOpenKd
import Derived.Test.YtaoiogpgncjolaaDoorLaidB02
import Derived.Test.YtaoiogpgncjolaaDoorX5
namespace Go.Proofs.YtaoiogpgncjolaaDoor.X
open Go.RowKit Go.Proofs.YtaoiogpgncjolaaDoorW.PrintWords Go.Proofs.YtaoiogpgncjolaaDoorW.PrintLast
def flonglaw02_RunesSums.PureSaid : Prop := ∀ (l0 : List (Int)) (l1 : List (Int)), l0.length * 4 ≤ 140737488351232 → (∀ x0 ∈ l0, (Lit.int .i32 x0).wf = true) → l1.length * 4 ≤ 140737488351232 → (∀ x0 ∈ l1, (Lit.int .i32 x0).wf = true) → ∃ k, flonglaw02_RunesSums.f k l0 l1 = some true
end Go.Proofs.YtaoiogpgncjolaaDoor.X
