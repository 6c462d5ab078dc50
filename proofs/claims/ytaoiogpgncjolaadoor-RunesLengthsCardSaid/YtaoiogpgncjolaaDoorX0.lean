-- Written by this session's xprint.py (a variant of the kit's printer). Not trusted: Lean checks it.
import Derived.Test.YtaoiogpgncjolaaDoorProg
import Derived.Below
import Derived.Deep.Draws
import Derived.Deep.AppendLies
import Derived.Maps.AppendAt
import Derived.OwnWalk
import Derived.Laws.BytesArg
import Derived.Laws.MakeOwn
import Derived.Laws.OwnMore
import Derived.Deep.OwnRows
import Derived.Tactics
import Derived.Lib.ConvBytes
import Derived.Laws.Slices
import Derived.WalkKit
import Derived.KernelRfl
import Derived.RowKit3
import Derived.Deep.LoopGhost
import Derived.Deep.QuietTactic
import Derived.BigQuiet
import Derived.WideLaws
import Derived.Deep.DeepCutAuto
import Derived.Deep.CutBlock
import Derived.Deep.RegionHeld3
import Derived.Laws.Rows
import Derived.Lib.AppendStr
import Derived.ArgAppend
import Derived.Laws.IdiomCopy
import Derived.OrdersHeld
import Derived.Laws.BitsLemmas
import Derived.RowKit
import Derived.Test.YtaoiogpgncjolaaDoorWWords
import Derived.Test.YtaoiogpgncjolaaDoorWLast
import Derived.Test.YtaoiogpgncjolaaDoorWTab
import Derived.Test.YtaoiogpgncjolaaDoorWFour
import Derived.Test.YtaoiogpgncjolaaDoorWQPut
import Derived.Test.YtaoiogpgncjolaaDoorWApart
import Derived.Test.YtaoiogpgncjolaaDoorWArr
import Derived.Test.YtaoiogpgncjolaaDoorWZeros
import Derived.Test.YtaoiogpgncjolaaDoorWFoot
import Derived.Test.YtaoiogpgncjolaaDoorWKept
import Derived.Test.YtaoiogpgncjolaaDoorWShare
import Derived.Test.YtaoiogpgncjolaaDoorWN
import Derived.Test.YtaoiogpgncjolaaDoorWFootNe
import Derived.Test.YtaoiogpgncjolaaDoorWAt
import Derived.Test.YtaoiogpgncjolaaDoorWEqStruct
import Derived.Test.YtaoiogpgncjolaaDoorWRepsOne
import Derived.Test.YtaoiogpgncjolaaDoorWInv
import Derived.Test.YtaoiogpgncjolaaDoorWInvWords
import Derived.Test.YtaoiogpgncjolaaDoorWGuard
import Derived.Test.YtaoiogpgncjolaaDoorWNEv
import Derived.Test.YtaoiogpgncjolaaDoorWMore
import Derived.Test.YtaoiogpgncjolaaDoorHand02b
namespace Go.Proofs.YtaoiogpgncjolaaDoor.X
open Go.RowKit Go.Proofs.YtaoiogpgncjolaaDoorW.PrintWords Go.Proofs.YtaoiogpgncjolaaDoorW.PrintLast Go.Proofs.YtaoiogpgncjolaaDoorW.PrintMore
open Go.Proofs.YtaoiogpgncjolaaDoor.Hand
attribute [local go_sem] max2_int min2_int max_two min_two max_three min_three max_four min_four   -- for this text's walks alone
set_option linter.unusedVariables false
set_option linter.unusedSimpArgs false



def errW : Option Int → Value
  | none => .nilIface
  | some c => .iface 0 (.int .i64 c)
theorem errW_none : errW none = .nilIface := rfl
theorem errW_some (c : Int) : errW (some c) = .iface 0 (.int .i64 c) := rfl

theorem info5 : (Tryd.prog.info? 5).map (fun i => (i.zero, i.size, i.bytes)) = some (some (.int .u8 0), 1, 1) := by kernel_rfl
theorem info21 : (Tryd.prog.info? 21).map (fun i => (i.zero, i.size, i.bytes)) = some (some (.int .i32 0), 1, 4) := by kernel_rfl
-- the values' own types

end Go.Proofs.YtaoiogpgncjolaaDoor.X
