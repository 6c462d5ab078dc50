/-
  NARROWER THAN 'FOR EVERY INPUT', by the rows' own cells (each row's printed sentence says how): CellsClean: laid · CellsSame: laid · CellsWhole: laid · CellsTrims: laid · CellsTexts: laid · CellsJoins: laid · CellsRows: laid.
  DERIVED. THE GIVEN ROWS OF THIS SEAT. 7 by the template 'for every input the law returns true; each argument reads behind the call as it read before'; 0 by the template 'total and deterministic' (their statements: YtdcbaefcgghbmaaDoorTotals.lean).
  GIVEN WITH THE SEED: the statements are not yours to turn. If you find one false, say at which input.
  Laid BY PROGRAM, IN A SANDBOX (cutbox-rows.mjs): the forced cells as the released guide's own fill.sh prints them over the translation 9cc6e5443caa79a6… (all of the seat's roots in one cut). By AI agents, Wed Nov 11 2026. No macro, syntax, notation, axiom, sorry.
-/
import Derived.Test.YtdcbaefcgghbmaaDoorChecked
import GoSem.Claim
import GoSem.ClaimJoined
import GoSem.ClaimMapViews
import Derived.JoinedTies
import Derived.KernelRfl
namespace Go.Proofs.YtdcbaefcgghbmaaDoor
/- THE CELL 'sum', in the pinned program and in every row, IS THE sha256 OF THE DUMP (.gsa) THAT YtdcbaefcgghbmaaDoorProg.lean LOADS. Nothing in Lean hashes anything: it is a label: what it is worth is what the hold of that sum in a sandbox is worth. -/
noncomputable def Tryd.pinned : Pinned := { name := "ytdcbaefcgghbmaadoor", sum := "9cc6e5443caa79a6b7d2fdf40eb659618d336927405ca8b14c4ba26a55f48f5b", checked := Tryd.checked }
namespace Rows
def none {H : Type} : Left H := { results := [], args := [] }

/- WHAT THE LISTED PACKAGE-LEVEL VARIABLES READ AS WHEN THE CALL BEGINS. Each datum BY PROGRAM (the guide's laid-datum.mjs) off the statement by which the dump's own 'gosem.cut.vars' lays the variable. In a bare row this is a premise. The card (YtdcbaefcgghbmaaDoorCards.lean) ties it to the program's text. -/
def laid_flong_runes_none {H : Type} : DataW H := .agg [.agg [.lit (.int .i32 768), .lit (.int .i32 879)], .agg [.lit (.int .i32 1155), .lit (.int .i32 1161)], .agg [.lit (.int .i32 1425), .lit (.int .i32 1469)], .agg [.lit (.int .i32 1552), .lit (.int .i32 1562)], .agg [.lit (.int .i32 1611), .lit (.int .i32 1631)], .agg [.lit (.int .i32 6832), .lit (.int .i32 6911)], .agg [.lit (.int .i32 7616), .lit (.int .i32 7679)], .agg [.lit (.int .i32 8203), .lit (.int .i32 8207)], .agg [.lit (.int .i32 8400), .lit (.int .i32 8447)], .agg [.lit (.int .i32 65024), .lit (.int .i32 65039)], .agg [.lit (.int .i32 65056), .lit (.int .i32 65071)], .agg [.lit (.int .i32 917760), .lit (.int .i32 917999)]]
def laid_flong_runes_wide {H : Type} : DataW H := .agg [.agg [.lit (.int .i32 4352), .lit (.int .i32 4447)], .agg [.lit (.int .i32 9001), .lit (.int .i32 9002)], .agg [.lit (.int .i32 11904), .lit (.int .i32 12350)], .agg [.lit (.int .i32 12353), .lit (.int .i32 13311)], .agg [.lit (.int .i32 13312), .lit (.int .i32 19903)], .agg [.lit (.int .i32 19968), .lit (.int .i32 42191)], .agg [.lit (.int .i32 43360), .lit (.int .i32 43391)], .agg [.lit (.int .i32 44032), .lit (.int .i32 55203)], .agg [.lit (.int .i32 63744), .lit (.int .i32 64255)], .agg [.lit (.int .i32 65072), .lit (.int .i32 65135)], .agg [.lit (.int .i32 65280), .lit (.int .i32 65376)], .agg [.lit (.int .i32 65504), .lit (.int .i32 65510)], .agg [.lit (.int .i32 127744), .lit (.int .i32 128591)], .agg [.lit (.int .i32 129280), .lit (.int .i32 129535)], .agg [.lit (.int .i32 131072), .lit (.int .i32 196605)], .agg [.lit (.int .i32 196608), .lit (.int .i32 262141)]]
def laid_flong_cells_blank {H : Type} : DataW H := .agg [.lit (.int .i32 32), .lit (.int .u8 0)]

/-- 'flonglaw03.CellsClean': WHATEVER THE INPUT: true; the input reads as it did. -/
def cellsCleanSpec : ChangeSpec := { name := "cellsClean", fn := fun _ => fun
  | [d] => { results := [.lit (.bool true)], args := [d] }
  | _ => none }
def cellsCleanRow : OpenClaim := { program := "ytdcbaefcgghbmaadoor", sum := "9cc6e5443caa79a6b7d2fdf40eb659618d336927405ca8b14c4ba26a55f48f5b", func := "flong/flonglaw03.CellsClean", spec := "cellsClean", named := ["flong/runes.none", "flong/runes.wide"], apart := false, laid := [("flong/runes.none", laid_flong_runes_none), ("flong/runes.wide", laid_flong_runes_wide)] }
def CellsCleanSaid : Prop := cellsCleanRow.holds Tryd.pinned (OpenSpec.ofChange cellsCleanSpec)

/-- ITS FALSE NEIGHBOUR: 'it returns false'. Refute it at one input. -/
def cellsCleanWrong : ChangeSpec := { name := "cellsClean", fn := fun _ => fun
  | [d] => { results := [.lit (.bool false)], args := [d] }
  | _ => none }
def CellsCleanWrongFalsely : Prop := cellsCleanRow.holds Tryd.pinned (OpenSpec.ofChange cellsCleanWrong)

/-- 'flonglaw03.CellsSame': WHATEVER THE INPUT: true; the input reads as it did. -/
def cellsSameSpec : ChangeSpec := { name := "cellsSame", fn := fun _ => fun
  | [d1, d2] => { results := [.lit (.bool true)], args := [d1, d2] }
  | _ => none }
def cellsSameRow : OpenClaim := { program := "ytdcbaefcgghbmaadoor", sum := "9cc6e5443caa79a6b7d2fdf40eb659618d336927405ca8b14c4ba26a55f48f5b", func := "flong/flonglaw03.CellsSame", spec := "cellsSame", unfollowed := true, recurses := true, named := ["flong/runes.none", "flong/runes.wide"], apart := false, laid := [("flong/runes.none", laid_flong_runes_none), ("flong/runes.wide", laid_flong_runes_wide)] }
def CellsSameSaid : Prop := cellsSameRow.holds Tryd.pinned (OpenSpec.ofChange cellsSameSpec)

/-- ITS FALSE NEIGHBOUR: 'it returns false'. Refute it at one input. -/
def cellsSameWrong : ChangeSpec := { name := "cellsSame", fn := fun _ => fun
  | [d1, d2] => { results := [.lit (.bool false)], args := [d1, d2] }
  | _ => none }
def CellsSameWrongFalsely : Prop := cellsSameRow.holds Tryd.pinned (OpenSpec.ofChange cellsSameWrong)

/-- 'flonglaw03.CellsWhole': WHATEVER THE INPUT: true; the input reads as it did. -/
def cellsWholeSpec : ChangeSpec := { name := "cellsWhole", fn := fun _ => fun
  | [d1, d2] => { results := [.lit (.bool true)], args := [d1, d2] }
  | _ => none }
def cellsWholeRow : OpenClaim := { program := "ytdcbaefcgghbmaadoor", sum := "9cc6e5443caa79a6b7d2fdf40eb659618d336927405ca8b14c4ba26a55f48f5b", func := "flong/flonglaw03.CellsWhole", spec := "cellsWhole", named := ["flong/runes.none", "flong/runes.wide", "flong/cells.blank"], apart := false, laid := [("flong/runes.none", laid_flong_runes_none), ("flong/runes.wide", laid_flong_runes_wide), ("flong/cells.blank", laid_flong_cells_blank)] }
def CellsWholeSaid : Prop := cellsWholeRow.holds Tryd.pinned (OpenSpec.ofChange cellsWholeSpec)

/-- ITS FALSE NEIGHBOUR: 'it returns false'. Refute it at one input. -/
def cellsWholeWrong : ChangeSpec := { name := "cellsWhole", fn := fun _ => fun
  | [d1, d2] => { results := [.lit (.bool false)], args := [d1, d2] }
  | _ => none }
def CellsWholeWrongFalsely : Prop := cellsWholeRow.holds Tryd.pinned (OpenSpec.ofChange cellsWholeWrong)

/-- 'flonglaw03.CellsTrims': WHATEVER THE INPUT: true; the input reads as it did. -/
def cellsTrimsSpec : ChangeSpec := { name := "cellsTrims", fn := fun _ => fun
  | [d1, d2, d3] => { results := [.lit (.bool true)], args := [d1, d2, d3] }
  | _ => none }
def cellsTrimsRow : OpenClaim := { program := "ytdcbaefcgghbmaadoor", sum := "9cc6e5443caa79a6b7d2fdf40eb659618d336927405ca8b14c4ba26a55f48f5b", func := "flong/flonglaw03.CellsTrims", spec := "cellsTrims", named := ["flong/runes.none", "flong/runes.wide", "flong/cells.blank"], apart := false, laid := [("flong/runes.none", laid_flong_runes_none), ("flong/runes.wide", laid_flong_runes_wide), ("flong/cells.blank", laid_flong_cells_blank)] }
def CellsTrimsSaid : Prop := cellsTrimsRow.holds Tryd.pinned (OpenSpec.ofChange cellsTrimsSpec)

/-- ITS FALSE NEIGHBOUR: 'it returns false'. Refute it at one input. -/
def cellsTrimsWrong : ChangeSpec := { name := "cellsTrims", fn := fun _ => fun
  | [d1, d2, d3] => { results := [.lit (.bool false)], args := [d1, d2, d3] }
  | _ => none }
def CellsTrimsWrongFalsely : Prop := cellsTrimsRow.holds Tryd.pinned (OpenSpec.ofChange cellsTrimsWrong)

/-- 'flonglaw03.CellsTexts': WHATEVER THE INPUT: true; the input reads as it did. -/
def cellsTextsSpec : ChangeSpec := { name := "cellsTexts", fn := fun _ => fun
  | [d1, d2] => { results := [.lit (.bool true)], args := [d1, d2] }
  | _ => none }
def cellsTextsRow : OpenClaim := { program := "ytdcbaefcgghbmaadoor", sum := "9cc6e5443caa79a6b7d2fdf40eb659618d336927405ca8b14c4ba26a55f48f5b", func := "flong/flonglaw03.CellsTexts", spec := "cellsTexts", named := ["flong/runes.none", "flong/runes.wide"], apart := false, laid := [("flong/runes.none", laid_flong_runes_none), ("flong/runes.wide", laid_flong_runes_wide)] }
def CellsTextsSaid : Prop := cellsTextsRow.holds Tryd.pinned (OpenSpec.ofChange cellsTextsSpec)

/-- ITS FALSE NEIGHBOUR: 'it returns false'. Refute it at one input. -/
def cellsTextsWrong : ChangeSpec := { name := "cellsTexts", fn := fun _ => fun
  | [d1, d2] => { results := [.lit (.bool false)], args := [d1, d2] }
  | _ => none }
def CellsTextsWrongFalsely : Prop := cellsTextsRow.holds Tryd.pinned (OpenSpec.ofChange cellsTextsWrong)

/-- 'flonglaw03.CellsJoins': WHATEVER THE INPUT: true; the input reads as it did. -/
def cellsJoinsSpec : ChangeSpec := { name := "cellsJoins", fn := fun _ => fun
  | [d1, d2, d3, d4, d5] => { results := [.lit (.bool true)], args := [d1, d2, d3, d4, d5] }
  | _ => none }
def cellsJoinsRow : OpenClaim := { program := "ytdcbaefcgghbmaadoor", sum := "9cc6e5443caa79a6b7d2fdf40eb659618d336927405ca8b14c4ba26a55f48f5b", func := "flong/flonglaw03.CellsJoins", spec := "cellsJoins", named := ["flong/runes.none", "flong/runes.wide"], apart := false, laid := [("flong/runes.none", laid_flong_runes_none), ("flong/runes.wide", laid_flong_runes_wide)] }
def CellsJoinsSaid : Prop := cellsJoinsRow.holds Tryd.pinned (OpenSpec.ofChange cellsJoinsSpec)

/-- ITS FALSE NEIGHBOUR: 'it returns false'. Refute it at one input. -/
def cellsJoinsWrong : ChangeSpec := { name := "cellsJoins", fn := fun _ => fun
  | [d1, d2, d3, d4, d5] => { results := [.lit (.bool false)], args := [d1, d2, d3, d4, d5] }
  | _ => none }
def CellsJoinsWrongFalsely : Prop := cellsJoinsRow.holds Tryd.pinned (OpenSpec.ofChange cellsJoinsWrong)

/-- 'flonglaw03.CellsRows': WHATEVER THE INPUT: true; the input reads as it did. -/
def cellsRowsSpec : ChangeSpec := { name := "cellsRows", fn := fun _ => fun
  | [d] => { results := [.lit (.bool true)], args := [d] }
  | _ => none }
def cellsRowsRow : OpenClaim := { program := "ytdcbaefcgghbmaadoor", sum := "9cc6e5443caa79a6b7d2fdf40eb659618d336927405ca8b14c4ba26a55f48f5b", func := "flong/flonglaw03.CellsRows", spec := "cellsRows", unfollowed := true, recurses := true, named := ["flong/runes.none", "flong/runes.wide", "flong/cells.blank"], apart := false, laid := [("flong/runes.none", laid_flong_runes_none), ("flong/runes.wide", laid_flong_runes_wide), ("flong/cells.blank", laid_flong_cells_blank)] }
def CellsRowsSaid : Prop := cellsRowsRow.holds Tryd.pinned (OpenSpec.ofChange cellsRowsSpec)

/-- ITS FALSE NEIGHBOUR: 'it returns false'. Refute it at one input. -/
def cellsRowsWrong : ChangeSpec := { name := "cellsRows", fn := fun _ => fun
  | [d] => { results := [.lit (.bool false)], args := [d] }
  | _ => none }
def CellsRowsWrongFalsely : Prop := cellsRowsRow.holds Tryd.pinned (OpenSpec.ofChange cellsRowsWrong)

/- THE SECOND FORM. 'bulk': how many values and letters a reading holds, each counted each time it is reached (what is shared counts as often as it is met; a slice's spare places count too). A statement '..UptoSaid' is the law's where the arguments, and the package variables that the reading takes, are together of bulk at most 1048576: NARROWER than '..Said'. Prove '..Said' where nothing that the law and all that it calls make is longer than what came in: it says more and counts as full. Else prove '..UptoSaid'. A law counts once. -/
mutual
def uptoBulk {H : Type} : DataW H → Nat
  | .lit (.string bytes) => bytes.length + 1
  | .lit _ => 1
  | .nil => 1
  | .ptr d => uptoBulk d + 1
  | .slice elems spare => uptoBulkAll elems + uptoBulkAll spare + 1
  | .agg parts => uptoBulkAll parts + 1
  | .iface _ d => uptoBulk d + 1
  | .map entries => uptoBulkEntries entries + 1
  | .held _ => 1
def uptoBulkAll {H : Type} : List (DataW H) → Nat
  | [] => 0
  | d :: r => uptoBulk d + uptoBulkAll r
def uptoBulkEntries {H : Type} : List (Lit × DataW H) → Nat
  | [] => 0
  | x :: r => uptoBulkEntry x + uptoBulkEntries r
def uptoBulkEntry {H : Type} : Lit × DataW H → Nat
  | (.string bytes, d) => bytes.length + uptoBulk d + 1
  | (_, d) => uptoBulk d + 1
 end
def uptoSmall : (H : Type) → List (DataW H) → Bool := fun _ ds => decide (uptoBulkAll ds ≤ 1048576)
def OpenSpec.upto (s : _root_.Go.ChangeSpec) : _root_.Go.OpenSpec := { _root_.Go.OpenSpec.ofChange s with cond := some uptoSmall }

/-- 'flonglaw03.CellsClean', WHERE WHAT IT READS IS OF BULK AT MOST 1048576: true; the input reads as it did. -/
def cellsCleanUptoRow : OpenClaim := { program := "ytdcbaefcgghbmaadoor", sum := "9cc6e5443caa79a6b7d2fdf40eb659618d336927405ca8b14c4ba26a55f48f5b", func := "flong/flonglaw03.CellsClean", spec := "cellsClean", named := ["flong/runes.none", "flong/runes.wide"], apart := false, laid := [("flong/runes.none", laid_flong_runes_none), ("flong/runes.wide", laid_flong_runes_wide)], narrowed := true }
def CellsCleanUptoSaid : Prop := cellsCleanUptoRow.holds Tryd.pinned (OpenSpec.upto cellsCleanSpec)

/-- 'flonglaw03.CellsSame', WHERE WHAT IT READS IS OF BULK AT MOST 1048576: true; the input reads as it did. -/
def cellsSameUptoRow : OpenClaim := { program := "ytdcbaefcgghbmaadoor", sum := "9cc6e5443caa79a6b7d2fdf40eb659618d336927405ca8b14c4ba26a55f48f5b", func := "flong/flonglaw03.CellsSame", spec := "cellsSame", unfollowed := true, recurses := true, named := ["flong/runes.none", "flong/runes.wide"], apart := false, laid := [("flong/runes.none", laid_flong_runes_none), ("flong/runes.wide", laid_flong_runes_wide)], narrowed := true }
def CellsSameUptoSaid : Prop := cellsSameUptoRow.holds Tryd.pinned (OpenSpec.upto cellsSameSpec)

/-- 'flonglaw03.CellsWhole', WHERE WHAT IT READS IS OF BULK AT MOST 1048576: true; the input reads as it did. -/
def cellsWholeUptoRow : OpenClaim := { program := "ytdcbaefcgghbmaadoor", sum := "9cc6e5443caa79a6b7d2fdf40eb659618d336927405ca8b14c4ba26a55f48f5b", func := "flong/flonglaw03.CellsWhole", spec := "cellsWhole", named := ["flong/runes.none", "flong/runes.wide", "flong/cells.blank"], apart := false, laid := [("flong/runes.none", laid_flong_runes_none), ("flong/runes.wide", laid_flong_runes_wide), ("flong/cells.blank", laid_flong_cells_blank)], narrowed := true }
def CellsWholeUptoSaid : Prop := cellsWholeUptoRow.holds Tryd.pinned (OpenSpec.upto cellsWholeSpec)

/-- 'flonglaw03.CellsTrims', WHERE WHAT IT READS IS OF BULK AT MOST 1048576: true; the input reads as it did. -/
def cellsTrimsUptoRow : OpenClaim := { program := "ytdcbaefcgghbmaadoor", sum := "9cc6e5443caa79a6b7d2fdf40eb659618d336927405ca8b14c4ba26a55f48f5b", func := "flong/flonglaw03.CellsTrims", spec := "cellsTrims", named := ["flong/runes.none", "flong/runes.wide", "flong/cells.blank"], apart := false, laid := [("flong/runes.none", laid_flong_runes_none), ("flong/runes.wide", laid_flong_runes_wide), ("flong/cells.blank", laid_flong_cells_blank)], narrowed := true }
def CellsTrimsUptoSaid : Prop := cellsTrimsUptoRow.holds Tryd.pinned (OpenSpec.upto cellsTrimsSpec)

/-- 'flonglaw03.CellsTexts', WHERE WHAT IT READS IS OF BULK AT MOST 1048576: true; the input reads as it did. -/
def cellsTextsUptoRow : OpenClaim := { program := "ytdcbaefcgghbmaadoor", sum := "9cc6e5443caa79a6b7d2fdf40eb659618d336927405ca8b14c4ba26a55f48f5b", func := "flong/flonglaw03.CellsTexts", spec := "cellsTexts", named := ["flong/runes.none", "flong/runes.wide"], apart := false, laid := [("flong/runes.none", laid_flong_runes_none), ("flong/runes.wide", laid_flong_runes_wide)], narrowed := true }
def CellsTextsUptoSaid : Prop := cellsTextsUptoRow.holds Tryd.pinned (OpenSpec.upto cellsTextsSpec)

/-- 'flonglaw03.CellsJoins', WHERE WHAT IT READS IS OF BULK AT MOST 1048576: true; the input reads as it did. -/
def cellsJoinsUptoRow : OpenClaim := { program := "ytdcbaefcgghbmaadoor", sum := "9cc6e5443caa79a6b7d2fdf40eb659618d336927405ca8b14c4ba26a55f48f5b", func := "flong/flonglaw03.CellsJoins", spec := "cellsJoins", named := ["flong/runes.none", "flong/runes.wide"], apart := false, laid := [("flong/runes.none", laid_flong_runes_none), ("flong/runes.wide", laid_flong_runes_wide)], narrowed := true }
def CellsJoinsUptoSaid : Prop := cellsJoinsUptoRow.holds Tryd.pinned (OpenSpec.upto cellsJoinsSpec)

/-- 'flonglaw03.CellsRows', WHERE WHAT IT READS IS OF BULK AT MOST 1048576: true; the input reads as it did. -/
def cellsRowsUptoRow : OpenClaim := { program := "ytdcbaefcgghbmaadoor", sum := "9cc6e5443caa79a6b7d2fdf40eb659618d336927405ca8b14c4ba26a55f48f5b", func := "flong/flonglaw03.CellsRows", spec := "cellsRows", unfollowed := true, recurses := true, named := ["flong/runes.none", "flong/runes.wide", "flong/cells.blank"], apart := false, laid := [("flong/runes.none", laid_flong_runes_none), ("flong/runes.wide", laid_flong_runes_wide), ("flong/cells.blank", laid_flong_cells_blank)], narrowed := true }
def CellsRowsUptoSaid : Prop := cellsRowsUptoRow.holds Tryd.pinned (OpenSpec.upto cellsRowsSpec)

end Rows
end Go.Proofs.YtdcbaefcgghbmaaDoor
