/-
  NARROWER THAN 'FOR EVERY INPUT', by the rows' own cells (each row's printed sentence says how): AnsiSigns: laid · AnsiWrites: laid · AnsiSafe: laid · AnsiJoins: laid · AnsiOnes: laid · AnsiReads: laid · AnsiBack: laid.
  DERIVED. THE GIVEN ROWS OF THIS SEAT. 7 by the template 'for every input the law returns true; each argument reads behind the call as it read before'; 0 by the template 'total and deterministic' (their statements: YtdjepocklmlnbaaDoorTotals.lean).
  GIVEN WITH THE SEED: the statements are not yours to turn. If you find one false, say at which input.
  Laid BY PROGRAM, IN A SANDBOX (cutbox-rows.mjs): the forced cells as the released guide's own fill.sh prints them over the translation 00f1f0261467a3b0… (all of the seat's roots in one cut). By AI agents, Wed Nov 11 2026. No macro, syntax, notation, axiom, sorry.
-/
import Derived.Test.YtdjepocklmlnbaaDoorChecked
import GoSem.PinnedTables
import GoSem.Claim
import GoSem.ClaimJoined
import GoSem.ClaimMapViews
import Derived.JoinedTies
import Derived.KernelRfl
namespace Go.Proofs.YtdjepocklmlnbaaDoor
/- THE CELL 'sum', in the pinned program and in every row, IS THE sha256 OF THE DUMP (.gsa) THAT YtdjepocklmlnbaaDoorProg.lean LOADS. Nothing in Lean hashes anything: it is a label: what it is worth is what the hold of that sum in a sandbox is worth. -/
noncomputable def Tryd.pinned : Pinned := { name := "ytdjepocklmlnbaadoor", sum := "00f1f0261467a3b0e5a1b69d27b45af40f8a26ec76be33db435bad9cb511b948", checked := Tryd.checked }
namespace Rows
def none {H : Type} : Left H := { results := [], args := [] }

/- WHAT THE LISTED PACKAGE-LEVEL VARIABLES READ AS WHEN THE CALL BEGINS. Each datum BY PROGRAM (the guide's laid-datum.mjs) off the statement by which the dump's own 'gosem.cut.vars' lays the variable. In a bare row this is a premise. The card (YtdjepocklmlnbaaDoorCards.lean) ties it to the program's text. -/
def laid_flong_runes_none {H : Type} : DataW H := .agg [.agg [.lit (.int .i32 768), .lit (.int .i32 879)], .agg [.lit (.int .i32 1155), .lit (.int .i32 1161)], .agg [.lit (.int .i32 1425), .lit (.int .i32 1469)], .agg [.lit (.int .i32 1552), .lit (.int .i32 1562)], .agg [.lit (.int .i32 1611), .lit (.int .i32 1631)], .agg [.lit (.int .i32 6832), .lit (.int .i32 6911)], .agg [.lit (.int .i32 7616), .lit (.int .i32 7679)], .agg [.lit (.int .i32 8203), .lit (.int .i32 8207)], .agg [.lit (.int .i32 8400), .lit (.int .i32 8447)], .agg [.lit (.int .i32 65024), .lit (.int .i32 65039)], .agg [.lit (.int .i32 65056), .lit (.int .i32 65071)], .agg [.lit (.int .i32 917760), .lit (.int .i32 917999)]]
def laid_flong_runes_wide {H : Type} : DataW H := .agg [.agg [.lit (.int .i32 4352), .lit (.int .i32 4447)], .agg [.lit (.int .i32 9001), .lit (.int .i32 9002)], .agg [.lit (.int .i32 11904), .lit (.int .i32 12350)], .agg [.lit (.int .i32 12353), .lit (.int .i32 13311)], .agg [.lit (.int .i32 13312), .lit (.int .i32 19903)], .agg [.lit (.int .i32 19968), .lit (.int .i32 42191)], .agg [.lit (.int .i32 43360), .lit (.int .i32 43391)], .agg [.lit (.int .i32 44032), .lit (.int .i32 55203)], .agg [.lit (.int .i32 63744), .lit (.int .i32 64255)], .agg [.lit (.int .i32 65072), .lit (.int .i32 65135)], .agg [.lit (.int .i32 65280), .lit (.int .i32 65376)], .agg [.lit (.int .i32 65504), .lit (.int .i32 65510)], .agg [.lit (.int .i32 127744), .lit (.int .i32 128591)], .agg [.lit (.int .i32 129280), .lit (.int .i32 129535)], .agg [.lit (.int .i32 131072), .lit (.int .i32 196605)], .agg [.lit (.int .i32 196608), .lit (.int .i32 262141)]]
def laid_flong_cells_blank {H : Type} : DataW H := .agg [.lit (.int .i32 32), .lit (.int .u8 0)]
def laid_flong_ansi_signs {H : Type} : DataW H := .agg [.lit (.string [27, 91, 48, 109]), .lit (.string [27, 91, 49, 109]), .lit (.string [27, 91, 52, 109]), .lit (.string [27, 91, 49, 59, 52, 109])]
def laid_unicode_utf8_acceptRanges {H : Type} : DataW H := .agg [.agg [.lit (.int .u8 128), .lit (.int .u8 191)], .agg [.lit (.int .u8 160), .lit (.int .u8 191)], .agg [.lit (.int .u8 128), .lit (.int .u8 159)], .agg [.lit (.int .u8 144), .lit (.int .u8 191)], .agg [.lit (.int .u8 128), .lit (.int .u8 143)], .agg [.lit (.int .u8 0), .lit (.int .u8 0)], .agg [.lit (.int .u8 0), .lit (.int .u8 0)], .agg [.lit (.int .u8 0), .lit (.int .u8 0)], .agg [.lit (.int .u8 0), .lit (.int .u8 0)], .agg [.lit (.int .u8 0), .lit (.int .u8 0)], .agg [.lit (.int .u8 0), .lit (.int .u8 0)], .agg [.lit (.int .u8 0), .lit (.int .u8 0)], .agg [.lit (.int .u8 0), .lit (.int .u8 0)], .agg [.lit (.int .u8 0), .lit (.int .u8 0)], .agg [.lit (.int .u8 0), .lit (.int .u8 0)], .agg [.lit (.int .u8 0), .lit (.int .u8 0)]]
/-- One of Go's own tables, pinned by name: the form's constant. -/
def laid_unicode_utf8_first : DataW Unit := Go.Pinned.utf8First

/-- 'flonglaw19.AnsiSigns': WHATEVER THE INPUT: true; the input reads as it did. -/
def ansiSignsSpec : ChangeSpec := { name := "ansiSigns", fn := fun _ => fun
  | [d1, d2] => { results := [.lit (.bool true)], args := [d1, d2] }
  | _ => none }
def ansiSignsRow : OpenClaim := { program := "ytdjepocklmlnbaadoor", sum := "00f1f0261467a3b0e5a1b69d27b45af40f8a26ec76be33db435bad9cb511b948", func := "flong/flonglaw19.AnsiSigns", spec := "ansiSigns", unfollowed := true, recurses := true, named := ["flong/runes.none", "flong/runes.wide", "flong/cells.blank", "flong/ansi.signs"], apart := false, laid := [("flong/runes.none", laid_flong_runes_none), ("flong/runes.wide", laid_flong_runes_wide), ("flong/cells.blank", laid_flong_cells_blank), ("flong/ansi.signs", laid_flong_ansi_signs)] }
def AnsiSignsSaid : Prop := ansiSignsRow.holds Tryd.pinned (OpenSpec.ofChange ansiSignsSpec)

/-- ITS FALSE NEIGHBOUR: 'it returns false'. Refute it at one input. -/
def ansiSignsWrong : ChangeSpec := { name := "ansiSigns", fn := fun _ => fun
  | [d1, d2] => { results := [.lit (.bool false)], args := [d1, d2] }
  | _ => none }
def AnsiSignsWrongFalsely : Prop := ansiSignsRow.holds Tryd.pinned (OpenSpec.ofChange ansiSignsWrong)

/-- 'flonglaw19.AnsiWrites': WHATEVER THE INPUT: true; the input reads as it did. -/
def ansiWritesSpec : ChangeSpec := { name := "ansiWrites", fn := fun _ => fun
  | [d1, d2] => { results := [.lit (.bool true)], args := [d1, d2] }
  | _ => none }
def ansiWritesRow : OpenClaim := { program := "ytdjepocklmlnbaadoor", sum := "00f1f0261467a3b0e5a1b69d27b45af40f8a26ec76be33db435bad9cb511b948", func := "flong/flonglaw19.AnsiWrites", spec := "ansiWrites", unfollowed := true, recurses := true, named := ["flong/runes.none", "flong/runes.wide", "flong/cells.blank", "flong/ansi.signs"], apart := false, laid := [("flong/runes.none", laid_flong_runes_none), ("flong/runes.wide", laid_flong_runes_wide), ("flong/cells.blank", laid_flong_cells_blank), ("flong/ansi.signs", laid_flong_ansi_signs)] }
def AnsiWritesSaid : Prop := ansiWritesRow.holds Tryd.pinned (OpenSpec.ofChange ansiWritesSpec)

/-- ITS FALSE NEIGHBOUR: 'it returns false'. Refute it at one input. -/
def ansiWritesWrong : ChangeSpec := { name := "ansiWrites", fn := fun _ => fun
  | [d1, d2] => { results := [.lit (.bool false)], args := [d1, d2] }
  | _ => none }
def AnsiWritesWrongFalsely : Prop := ansiWritesRow.holds Tryd.pinned (OpenSpec.ofChange ansiWritesWrong)

/-- 'flonglaw19.AnsiSafe': WHATEVER THE INPUT: true; the input reads as it did. -/
def ansiSafeSpec : ChangeSpec := { name := "ansiSafe", fn := fun _ => fun
  | [d] => { results := [.lit (.bool true)], args := [d] }
  | _ => none }
def ansiSafeRow : OpenClaim := { program := "ytdjepocklmlnbaadoor", sum := "00f1f0261467a3b0e5a1b69d27b45af40f8a26ec76be33db435bad9cb511b948", func := "flong/flonglaw19.AnsiSafe", spec := "ansiSafe", unfollowed := true, recurses := true, named := ["flong/runes.none", "flong/runes.wide", "flong/cells.blank", "flong/ansi.signs"], apart := false, laid := [("flong/runes.none", laid_flong_runes_none), ("flong/runes.wide", laid_flong_runes_wide), ("flong/cells.blank", laid_flong_cells_blank), ("flong/ansi.signs", laid_flong_ansi_signs)] }
def AnsiSafeSaid : Prop := ansiSafeRow.holds Tryd.pinned (OpenSpec.ofChange ansiSafeSpec)

/-- ITS FALSE NEIGHBOUR: 'it returns false'. Refute it at one input. -/
def ansiSafeWrong : ChangeSpec := { name := "ansiSafe", fn := fun _ => fun
  | [d] => { results := [.lit (.bool false)], args := [d] }
  | _ => none }
def AnsiSafeWrongFalsely : Prop := ansiSafeRow.holds Tryd.pinned (OpenSpec.ofChange ansiSafeWrong)

/-- 'flonglaw19.AnsiJoins': WHATEVER THE INPUT: true; the input reads as it did. -/
def ansiJoinsSpec : ChangeSpec := { name := "ansiJoins", fn := fun _ => fun
  | [d1, d2, d3] => { results := [.lit (.bool true)], args := [d1, d2, d3] }
  | _ => none }
def ansiJoinsRow : OpenClaim := { program := "ytdjepocklmlnbaadoor", sum := "00f1f0261467a3b0e5a1b69d27b45af40f8a26ec76be33db435bad9cb511b948", func := "flong/flonglaw19.AnsiJoins", spec := "ansiJoins", unfollowed := true, recurses := true, named := ["flong/runes.none", "flong/runes.wide", "flong/cells.blank", "flong/ansi.signs"], apart := false, laid := [("flong/runes.none", laid_flong_runes_none), ("flong/runes.wide", laid_flong_runes_wide), ("flong/cells.blank", laid_flong_cells_blank), ("flong/ansi.signs", laid_flong_ansi_signs)] }
def AnsiJoinsSaid : Prop := ansiJoinsRow.holds Tryd.pinned (OpenSpec.ofChange ansiJoinsSpec)

/-- ITS FALSE NEIGHBOUR: 'it returns false'. Refute it at one input. -/
def ansiJoinsWrong : ChangeSpec := { name := "ansiJoins", fn := fun _ => fun
  | [d1, d2, d3] => { results := [.lit (.bool false)], args := [d1, d2, d3] }
  | _ => none }
def AnsiJoinsWrongFalsely : Prop := ansiJoinsRow.holds Tryd.pinned (OpenSpec.ofChange ansiJoinsWrong)

/-- 'flonglaw19.AnsiOnes': WHATEVER THE INPUT: true; the input reads as it did. -/
def ansiOnesSpec : ChangeSpec := { name := "ansiOnes", fn := fun _ => fun
  | [d] => { results := [.lit (.bool true)], args := [d] }
  | _ => none }
def ansiOnesRow : OpenClaim := { program := "ytdjepocklmlnbaadoor", sum := "00f1f0261467a3b0e5a1b69d27b45af40f8a26ec76be33db435bad9cb511b948", func := "flong/flonglaw19.AnsiOnes", spec := "ansiOnes", inPlace := ["internal/bytealg.CountString", "internal/bytealg.IndexByteString", "internal/bytealg.IndexString"], unfollowed := true, recurses := true, named := ["flong/runes.none", "flong/runes.wide", "flong/cells.blank", "flong/ansi.signs", "unicode/utf8.first", "unicode/utf8.acceptRanges", "internal/bytealg.MaxLen"], apart := false, laid := [("flong/runes.none", laid_flong_runes_none), ("flong/runes.wide", laid_flong_runes_wide), ("unicode/utf8.acceptRanges", laid_unicode_utf8_acceptRanges), ("flong/cells.blank", laid_flong_cells_blank), ("flong/ansi.signs", laid_flong_ansi_signs), ("unicode/utf8.first", laid_unicode_utf8_first)] }
def AnsiOnesSaid : Prop := ansiOnesRow.holds Tryd.pinned (OpenSpec.ofChange ansiOnesSpec)

/-- ITS FALSE NEIGHBOUR: 'it returns false'. Refute it at one input. -/
def ansiOnesWrong : ChangeSpec := { name := "ansiOnes", fn := fun _ => fun
  | [d] => { results := [.lit (.bool false)], args := [d] }
  | _ => none }
def AnsiOnesWrongFalsely : Prop := ansiOnesRow.holds Tryd.pinned (OpenSpec.ofChange ansiOnesWrong)

/-- 'flonglaw19.AnsiReads': WHATEVER THE INPUT: true; the input reads as it did. -/
def ansiReadsSpec : ChangeSpec := { name := "ansiReads", fn := fun _ => fun
  | [d] => { results := [.lit (.bool true)], args := [d] }
  | _ => none }
def ansiReadsRow : OpenClaim := { program := "ytdjepocklmlnbaadoor", sum := "00f1f0261467a3b0e5a1b69d27b45af40f8a26ec76be33db435bad9cb511b948", func := "flong/flonglaw19.AnsiReads", spec := "ansiReads", inPlace := ["internal/bytealg.CountString", "internal/bytealg.IndexByteString", "internal/bytealg.IndexString"], unfollowed := true, recurses := true, named := ["flong/runes.none", "flong/runes.wide", "flong/cells.blank", "flong/ansi.signs", "unicode/utf8.first", "unicode/utf8.acceptRanges", "internal/bytealg.MaxLen"], apart := false, laid := [("flong/runes.none", laid_flong_runes_none), ("flong/runes.wide", laid_flong_runes_wide), ("unicode/utf8.acceptRanges", laid_unicode_utf8_acceptRanges), ("flong/cells.blank", laid_flong_cells_blank), ("flong/ansi.signs", laid_flong_ansi_signs), ("unicode/utf8.first", laid_unicode_utf8_first)] }
def AnsiReadsSaid : Prop := ansiReadsRow.holds Tryd.pinned (OpenSpec.ofChange ansiReadsSpec)

/-- ITS FALSE NEIGHBOUR: 'it returns false'. Refute it at one input. -/
def ansiReadsWrong : ChangeSpec := { name := "ansiReads", fn := fun _ => fun
  | [d] => { results := [.lit (.bool false)], args := [d] }
  | _ => none }
def AnsiReadsWrongFalsely : Prop := ansiReadsRow.holds Tryd.pinned (OpenSpec.ofChange ansiReadsWrong)

/-- 'flonglaw19.AnsiBack': WHATEVER THE INPUT: true; the input reads as it did. -/
def ansiBackSpec : ChangeSpec := { name := "ansiBack", fn := fun _ => fun
  | [d] => { results := [.lit (.bool true)], args := [d] }
  | _ => none }
def ansiBackRow : OpenClaim := { program := "ytdjepocklmlnbaadoor", sum := "00f1f0261467a3b0e5a1b69d27b45af40f8a26ec76be33db435bad9cb511b948", func := "flong/flonglaw19.AnsiBack", spec := "ansiBack", inPlace := ["internal/bytealg.CountString", "internal/bytealg.IndexByteString", "internal/bytealg.IndexString"], unfollowed := true, recurses := true, named := ["flong/runes.none", "flong/runes.wide", "flong/cells.blank", "flong/ansi.signs", "unicode/utf8.first", "unicode/utf8.acceptRanges", "internal/bytealg.MaxLen"], apart := false, laid := [("flong/runes.none", laid_flong_runes_none), ("flong/runes.wide", laid_flong_runes_wide), ("unicode/utf8.acceptRanges", laid_unicode_utf8_acceptRanges), ("flong/cells.blank", laid_flong_cells_blank), ("flong/ansi.signs", laid_flong_ansi_signs), ("unicode/utf8.first", laid_unicode_utf8_first)] }
def AnsiBackSaid : Prop := ansiBackRow.holds Tryd.pinned (OpenSpec.ofChange ansiBackSpec)

/-- ITS FALSE NEIGHBOUR: 'it returns false'. Refute it at one input. -/
def ansiBackWrong : ChangeSpec := { name := "ansiBack", fn := fun _ => fun
  | [d] => { results := [.lit (.bool false)], args := [d] }
  | _ => none }
def AnsiBackWrongFalsely : Prop := ansiBackRow.holds Tryd.pinned (OpenSpec.ofChange ansiBackWrong)

/- THE SECOND FORM. 'bulk': how many values and letters a reading holds, each counted each time it is reached (what is shared counts as often as it is met; a slice's spare places count too). A statement '..UptoSaid' is the law's where the arguments, and the package variables that the reading takes, are together of bulk at most 1048576: NARROWER than '..Said'. Prove '..Said' where nothing that the law and all that it calls make is longer than what came in: it says more and counts as full. Else prove '..UptoSaid'. A law counts once. -/
mutual
def uptoBulk {H : Type} : DataW H → Nat
  | .lit (.string bytes) => bytes.length + 1
  | .lit _ => 1
  | .nil => 1
  | .ptr d => uptoBulk d + 1
  | .slice elems spare => uptoBulkAll elems + uptoBulkAll spare + 1
  | .agg parts => uptoBulkAll parts + 1
  | .iface _ d => uptoBulk d + 1
  | .map entries => uptoBulkEntries entries + 1
  | .held _ => 1
def uptoBulkAll {H : Type} : List (DataW H) → Nat
  | [] => 0
  | d :: r => uptoBulk d + uptoBulkAll r
def uptoBulkEntries {H : Type} : List (Lit × DataW H) → Nat
  | [] => 0
  | x :: r => uptoBulkEntry x + uptoBulkEntries r
def uptoBulkEntry {H : Type} : Lit × DataW H → Nat
  | (.string bytes, d) => bytes.length + uptoBulk d + 1
  | (_, d) => uptoBulk d + 1
 end
def uptoSmall : (H : Type) → List (DataW H) → Bool := fun _ ds => decide (uptoBulkAll ds ≤ 1048576)
def OpenSpec.upto (s : _root_.Go.ChangeSpec) : _root_.Go.OpenSpec := { _root_.Go.OpenSpec.ofChange s with cond := some uptoSmall }

/-- 'flonglaw19.AnsiSigns', WHERE WHAT IT READS IS OF BULK AT MOST 1048576: true; the input reads as it did. -/
def ansiSignsUptoRow : OpenClaim := { program := "ytdjepocklmlnbaadoor", sum := "00f1f0261467a3b0e5a1b69d27b45af40f8a26ec76be33db435bad9cb511b948", func := "flong/flonglaw19.AnsiSigns", spec := "ansiSigns", unfollowed := true, recurses := true, named := ["flong/runes.none", "flong/runes.wide", "flong/cells.blank", "flong/ansi.signs"], apart := false, laid := [("flong/runes.none", laid_flong_runes_none), ("flong/runes.wide", laid_flong_runes_wide), ("flong/cells.blank", laid_flong_cells_blank), ("flong/ansi.signs", laid_flong_ansi_signs)], narrowed := true }
def AnsiSignsUptoSaid : Prop := ansiSignsUptoRow.holds Tryd.pinned (OpenSpec.upto ansiSignsSpec)

/-- 'flonglaw19.AnsiWrites', WHERE WHAT IT READS IS OF BULK AT MOST 1048576: true; the input reads as it did. -/
def ansiWritesUptoRow : OpenClaim := { program := "ytdjepocklmlnbaadoor", sum := "00f1f0261467a3b0e5a1b69d27b45af40f8a26ec76be33db435bad9cb511b948", func := "flong/flonglaw19.AnsiWrites", spec := "ansiWrites", unfollowed := true, recurses := true, named := ["flong/runes.none", "flong/runes.wide", "flong/cells.blank", "flong/ansi.signs"], apart := false, laid := [("flong/runes.none", laid_flong_runes_none), ("flong/runes.wide", laid_flong_runes_wide), ("flong/cells.blank", laid_flong_cells_blank), ("flong/ansi.signs", laid_flong_ansi_signs)], narrowed := true }
def AnsiWritesUptoSaid : Prop := ansiWritesUptoRow.holds Tryd.pinned (OpenSpec.upto ansiWritesSpec)

/-- 'flonglaw19.AnsiSafe', WHERE WHAT IT READS IS OF BULK AT MOST 1048576: true; the input reads as it did. -/
def ansiSafeUptoRow : OpenClaim := { program := "ytdjepocklmlnbaadoor", sum := "00f1f0261467a3b0e5a1b69d27b45af40f8a26ec76be33db435bad9cb511b948", func := "flong/flonglaw19.AnsiSafe", spec := "ansiSafe", unfollowed := true, recurses := true, named := ["flong/runes.none", "flong/runes.wide", "flong/cells.blank", "flong/ansi.signs"], apart := false, laid := [("flong/runes.none", laid_flong_runes_none), ("flong/runes.wide", laid_flong_runes_wide), ("flong/cells.blank", laid_flong_cells_blank), ("flong/ansi.signs", laid_flong_ansi_signs)], narrowed := true }
def AnsiSafeUptoSaid : Prop := ansiSafeUptoRow.holds Tryd.pinned (OpenSpec.upto ansiSafeSpec)

/-- 'flonglaw19.AnsiJoins', WHERE WHAT IT READS IS OF BULK AT MOST 1048576: true; the input reads as it did. -/
def ansiJoinsUptoRow : OpenClaim := { program := "ytdjepocklmlnbaadoor", sum := "00f1f0261467a3b0e5a1b69d27b45af40f8a26ec76be33db435bad9cb511b948", func := "flong/flonglaw19.AnsiJoins", spec := "ansiJoins", unfollowed := true, recurses := true, named := ["flong/runes.none", "flong/runes.wide", "flong/cells.blank", "flong/ansi.signs"], apart := false, laid := [("flong/runes.none", laid_flong_runes_none), ("flong/runes.wide", laid_flong_runes_wide), ("flong/cells.blank", laid_flong_cells_blank), ("flong/ansi.signs", laid_flong_ansi_signs)], narrowed := true }
def AnsiJoinsUptoSaid : Prop := ansiJoinsUptoRow.holds Tryd.pinned (OpenSpec.upto ansiJoinsSpec)

/-- 'flonglaw19.AnsiOnes', WHERE WHAT IT READS IS OF BULK AT MOST 1048576: true; the input reads as it did. -/
def ansiOnesUptoRow : OpenClaim := { program := "ytdjepocklmlnbaadoor", sum := "00f1f0261467a3b0e5a1b69d27b45af40f8a26ec76be33db435bad9cb511b948", func := "flong/flonglaw19.AnsiOnes", spec := "ansiOnes", inPlace := ["internal/bytealg.CountString", "internal/bytealg.IndexByteString", "internal/bytealg.IndexString"], unfollowed := true, recurses := true, named := ["flong/runes.none", "flong/runes.wide", "flong/cells.blank", "flong/ansi.signs", "unicode/utf8.first", "unicode/utf8.acceptRanges", "internal/bytealg.MaxLen"], apart := false, laid := [("flong/runes.none", laid_flong_runes_none), ("flong/runes.wide", laid_flong_runes_wide), ("unicode/utf8.acceptRanges", laid_unicode_utf8_acceptRanges), ("flong/cells.blank", laid_flong_cells_blank), ("flong/ansi.signs", laid_flong_ansi_signs), ("unicode/utf8.first", laid_unicode_utf8_first)], narrowed := true }
def AnsiOnesUptoSaid : Prop := ansiOnesUptoRow.holds Tryd.pinned (OpenSpec.upto ansiOnesSpec)

/-- 'flonglaw19.AnsiReads', WHERE WHAT IT READS IS OF BULK AT MOST 1048576: true; the input reads as it did. -/
def ansiReadsUptoRow : OpenClaim := { program := "ytdjepocklmlnbaadoor", sum := "00f1f0261467a3b0e5a1b69d27b45af40f8a26ec76be33db435bad9cb511b948", func := "flong/flonglaw19.AnsiReads", spec := "ansiReads", inPlace := ["internal/bytealg.CountString", "internal/bytealg.IndexByteString", "internal/bytealg.IndexString"], unfollowed := true, recurses := true, named := ["flong/runes.none", "flong/runes.wide", "flong/cells.blank", "flong/ansi.signs", "unicode/utf8.first", "unicode/utf8.acceptRanges", "internal/bytealg.MaxLen"], apart := false, laid := [("flong/runes.none", laid_flong_runes_none), ("flong/runes.wide", laid_flong_runes_wide), ("unicode/utf8.acceptRanges", laid_unicode_utf8_acceptRanges), ("flong/cells.blank", laid_flong_cells_blank), ("flong/ansi.signs", laid_flong_ansi_signs), ("unicode/utf8.first", laid_unicode_utf8_first)], narrowed := true }
def AnsiReadsUptoSaid : Prop := ansiReadsUptoRow.holds Tryd.pinned (OpenSpec.upto ansiReadsSpec)

/-- 'flonglaw19.AnsiBack', WHERE WHAT IT READS IS OF BULK AT MOST 1048576: true; the input reads as it did. -/
def ansiBackUptoRow : OpenClaim := { program := "ytdjepocklmlnbaadoor", sum := "00f1f0261467a3b0e5a1b69d27b45af40f8a26ec76be33db435bad9cb511b948", func := "flong/flonglaw19.AnsiBack", spec := "ansiBack", inPlace := ["internal/bytealg.CountString", "internal/bytealg.IndexByteString", "internal/bytealg.IndexString"], unfollowed := true, recurses := true, named := ["flong/runes.none", "flong/runes.wide", "flong/cells.blank", "flong/ansi.signs", "unicode/utf8.first", "unicode/utf8.acceptRanges", "internal/bytealg.MaxLen"], apart := false, laid := [("flong/runes.none", laid_flong_runes_none), ("flong/runes.wide", laid_flong_runes_wide), ("unicode/utf8.acceptRanges", laid_unicode_utf8_acceptRanges), ("flong/cells.blank", laid_flong_cells_blank), ("flong/ansi.signs", laid_flong_ansi_signs), ("unicode/utf8.first", laid_unicode_utf8_first)], narrowed := true }
def AnsiBackUptoSaid : Prop := ansiBackUptoRow.holds Tryd.pinned (OpenSpec.upto ansiBackSpec)

end Rows
end Go.Proofs.YtdjepocklmlnbaaDoor
