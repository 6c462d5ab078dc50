/-
  NARROWER THAN 'FOR EVERY INPUT', by the rows' own cells (each row's printed sentence says how): PlainWrites: laid · PlainNormal: laid · PlainWidths: laid · PlainJoins: laid · PlainBack: laid · PlainKeeps: laid · PlainReads: laid.
  DERIVED. THE GIVEN ROWS OF THIS SEAT. 7 by the template 'for every input the law returns true; each argument reads behind the call as it read before'; 0 by the template 'total and deterministic' (their statements: YtadejblahbebdaaDoorTotals.lean).
  GIVEN WITH THE SEED: the statements are not yours to turn. If you find one false, say at which input.
  Laid BY PROGRAM, IN A SANDBOX (cutbox-rows.mjs): the forced cells as the released guide's own fill.sh prints them over the translation 51d557dd501d959d… (all of the seat's roots in one cut). By AI agents, Wed Nov 11 2026. No macro, syntax, notation, axiom, sorry.
-/
import Derived.Test.YtadejblahbebdaaDoorChecked
import GoSem.PinnedTables
import GoSem.Claim
import GoSem.ClaimJoined
import GoSem.ClaimMapViews
import Derived.JoinedTies
import Derived.KernelRfl
namespace Go.Proofs.YtadejblahbebdaaDoor
/- THE CELL 'sum', in the pinned program and in every row, IS THE sha256 OF THE DUMP (.gsa) THAT YtadejblahbebdaaDoorProg.lean LOADS. Nothing in Lean hashes anything: it is a label: what it is worth is what the hold of that sum in a sandbox is worth. -/
noncomputable def Tryd.pinned : Pinned := { name := "ytadejblahbebdaadoor", sum := "51d557dd501d959d17cc788f6b86f1066d6d56ffad9c50b0b9d27f7bbfa8fc72", checked := Tryd.checked }
namespace Rows
def none {H : Type} : Left H := { results := [], args := [] }

/- WHAT THE LISTED PACKAGE-LEVEL VARIABLES READ AS WHEN THE CALL BEGINS. Each datum BY PROGRAM (the guide's laid-datum.mjs) off the statement by which the dump's own 'gosem.cut.vars' lays the variable. In a bare row this is a premise. The card (YtadejblahbebdaaDoorCards.lean) ties it to the program's text. -/
def laid_flong_runes_none {H : Type} : DataW H := .agg [.agg [.lit (.int .i32 768), .lit (.int .i32 879)], .agg [.lit (.int .i32 1155), .lit (.int .i32 1161)], .agg [.lit (.int .i32 1425), .lit (.int .i32 1469)], .agg [.lit (.int .i32 1552), .lit (.int .i32 1562)], .agg [.lit (.int .i32 1611), .lit (.int .i32 1631)], .agg [.lit (.int .i32 6832), .lit (.int .i32 6911)], .agg [.lit (.int .i32 7616), .lit (.int .i32 7679)], .agg [.lit (.int .i32 8203), .lit (.int .i32 8207)], .agg [.lit (.int .i32 8400), .lit (.int .i32 8447)], .agg [.lit (.int .i32 65024), .lit (.int .i32 65039)], .agg [.lit (.int .i32 65056), .lit (.int .i32 65071)], .agg [.lit (.int .i32 917760), .lit (.int .i32 917999)]]
def laid_flong_runes_wide {H : Type} : DataW H := .agg [.agg [.lit (.int .i32 4352), .lit (.int .i32 4447)], .agg [.lit (.int .i32 9001), .lit (.int .i32 9002)], .agg [.lit (.int .i32 11904), .lit (.int .i32 12350)], .agg [.lit (.int .i32 12353), .lit (.int .i32 13311)], .agg [.lit (.int .i32 13312), .lit (.int .i32 19903)], .agg [.lit (.int .i32 19968), .lit (.int .i32 42191)], .agg [.lit (.int .i32 43360), .lit (.int .i32 43391)], .agg [.lit (.int .i32 44032), .lit (.int .i32 55203)], .agg [.lit (.int .i32 63744), .lit (.int .i32 64255)], .agg [.lit (.int .i32 65072), .lit (.int .i32 65135)], .agg [.lit (.int .i32 65280), .lit (.int .i32 65376)], .agg [.lit (.int .i32 65504), .lit (.int .i32 65510)], .agg [.lit (.int .i32 127744), .lit (.int .i32 128591)], .agg [.lit (.int .i32 129280), .lit (.int .i32 129535)], .agg [.lit (.int .i32 131072), .lit (.int .i32 196605)], .agg [.lit (.int .i32 196608), .lit (.int .i32 262141)]]
def laid_flong_cells_blank {H : Type} : DataW H := .agg [.lit (.int .i32 32), .lit (.int .u8 0)]
def laid_unicode_utf8_acceptRanges {H : Type} : DataW H := .agg [.agg [.lit (.int .u8 128), .lit (.int .u8 191)], .agg [.lit (.int .u8 160), .lit (.int .u8 191)], .agg [.lit (.int .u8 128), .lit (.int .u8 159)], .agg [.lit (.int .u8 144), .lit (.int .u8 191)], .agg [.lit (.int .u8 128), .lit (.int .u8 143)], .agg [.lit (.int .u8 0), .lit (.int .u8 0)], .agg [.lit (.int .u8 0), .lit (.int .u8 0)], .agg [.lit (.int .u8 0), .lit (.int .u8 0)], .agg [.lit (.int .u8 0), .lit (.int .u8 0)], .agg [.lit (.int .u8 0), .lit (.int .u8 0)], .agg [.lit (.int .u8 0), .lit (.int .u8 0)], .agg [.lit (.int .u8 0), .lit (.int .u8 0)], .agg [.lit (.int .u8 0), .lit (.int .u8 0)], .agg [.lit (.int .u8 0), .lit (.int .u8 0)], .agg [.lit (.int .u8 0), .lit (.int .u8 0)], .agg [.lit (.int .u8 0), .lit (.int .u8 0)]]
/-- One of Go's own tables, pinned by name: the form's constant. -/
def laid_unicode_utf8_first : DataW Unit := Go.Pinned.utf8First

/-- 'flonglaw17.PlainWrites': WHATEVER THE INPUT: true; the input reads as it did. -/
def plainWritesSpec : ChangeSpec := { name := "plainWrites", fn := fun _ => fun
  | [d] => { results := [.lit (.bool true)], args := [d] }
  | _ => none }
def plainWritesRow : OpenClaim := { program := "ytadejblahbebdaadoor", sum := "51d557dd501d959d17cc788f6b86f1066d6d56ffad9c50b0b9d27f7bbfa8fc72", func := "flong/flonglaw17.PlainWrites", spec := "plainWrites", named := ["flong/cells.blank", "flong/runes.none", "flong/runes.wide"], apart := false, laid := [("flong/runes.none", laid_flong_runes_none), ("flong/runes.wide", laid_flong_runes_wide), ("flong/cells.blank", laid_flong_cells_blank)] }
def PlainWritesSaid : Prop := plainWritesRow.holds Tryd.pinned (OpenSpec.ofChange plainWritesSpec)

/-- ITS FALSE NEIGHBOUR: 'it returns false'. Refute it at one input. -/
def plainWritesWrong : ChangeSpec := { name := "plainWrites", fn := fun _ => fun
  | [d] => { results := [.lit (.bool false)], args := [d] }
  | _ => none }
def PlainWritesWrongFalsely : Prop := plainWritesRow.holds Tryd.pinned (OpenSpec.ofChange plainWritesWrong)

/-- 'flonglaw17.PlainNormal': WHATEVER THE INPUT: true; the input reads as it did. -/
def plainNormalSpec : ChangeSpec := { name := "plainNormal", fn := fun _ => fun
  | [d] => { results := [.lit (.bool true)], args := [d] }
  | _ => none }
def plainNormalRow : OpenClaim := { program := "ytadejblahbebdaadoor", sum := "51d557dd501d959d17cc788f6b86f1066d6d56ffad9c50b0b9d27f7bbfa8fc72", func := "flong/flonglaw17.PlainNormal", spec := "plainNormal", named := ["flong/cells.blank", "flong/runes.none", "flong/runes.wide"], apart := false, laid := [("flong/runes.none", laid_flong_runes_none), ("flong/runes.wide", laid_flong_runes_wide), ("flong/cells.blank", laid_flong_cells_blank)] }
def PlainNormalSaid : Prop := plainNormalRow.holds Tryd.pinned (OpenSpec.ofChange plainNormalSpec)

/-- ITS FALSE NEIGHBOUR: 'it returns false'. Refute it at one input. -/
def plainNormalWrong : ChangeSpec := { name := "plainNormal", fn := fun _ => fun
  | [d] => { results := [.lit (.bool false)], args := [d] }
  | _ => none }
def PlainNormalWrongFalsely : Prop := plainNormalRow.holds Tryd.pinned (OpenSpec.ofChange plainNormalWrong)

/-- 'flonglaw17.PlainWidths': WHATEVER THE INPUT: true; the input reads as it did. -/
def plainWidthsSpec : ChangeSpec := { name := "plainWidths", fn := fun _ => fun
  | [d] => { results := [.lit (.bool true)], args := [d] }
  | _ => none }
def plainWidthsRow : OpenClaim := { program := "ytadejblahbebdaadoor", sum := "51d557dd501d959d17cc788f6b86f1066d6d56ffad9c50b0b9d27f7bbfa8fc72", func := "flong/flonglaw17.PlainWidths", spec := "plainWidths", named := ["flong/cells.blank", "flong/runes.none", "flong/runes.wide"], apart := false, laid := [("flong/runes.none", laid_flong_runes_none), ("flong/runes.wide", laid_flong_runes_wide), ("flong/cells.blank", laid_flong_cells_blank)] }
def PlainWidthsSaid : Prop := plainWidthsRow.holds Tryd.pinned (OpenSpec.ofChange plainWidthsSpec)

/-- ITS FALSE NEIGHBOUR: 'it returns false'. Refute it at one input. -/
def plainWidthsWrong : ChangeSpec := { name := "plainWidths", fn := fun _ => fun
  | [d] => { results := [.lit (.bool false)], args := [d] }
  | _ => none }
def PlainWidthsWrongFalsely : Prop := plainWidthsRow.holds Tryd.pinned (OpenSpec.ofChange plainWidthsWrong)

/-- 'flonglaw17.PlainJoins': WHATEVER THE INPUT: true; the input reads as it did. -/
def plainJoinsSpec : ChangeSpec := { name := "plainJoins", fn := fun _ => fun
  | [d1, d2] => { results := [.lit (.bool true)], args := [d1, d2] }
  | _ => none }
def plainJoinsRow : OpenClaim := { program := "ytadejblahbebdaadoor", sum := "51d557dd501d959d17cc788f6b86f1066d6d56ffad9c50b0b9d27f7bbfa8fc72", func := "flong/flonglaw17.PlainJoins", spec := "plainJoins", unfollowed := true, recurses := true, named := ["flong/cells.blank", "flong/runes.none", "flong/runes.wide"], apart := false, laid := [("flong/runes.none", laid_flong_runes_none), ("flong/runes.wide", laid_flong_runes_wide), ("flong/cells.blank", laid_flong_cells_blank)] }
def PlainJoinsSaid : Prop := plainJoinsRow.holds Tryd.pinned (OpenSpec.ofChange plainJoinsSpec)

/-- ITS FALSE NEIGHBOUR: 'it returns false'. Refute it at one input. -/
def plainJoinsWrong : ChangeSpec := { name := "plainJoins", fn := fun _ => fun
  | [d1, d2] => { results := [.lit (.bool false)], args := [d1, d2] }
  | _ => none }
def PlainJoinsWrongFalsely : Prop := plainJoinsRow.holds Tryd.pinned (OpenSpec.ofChange plainJoinsWrong)

/-- 'flonglaw17.PlainBack': WHATEVER THE INPUT: true; the input reads as it did. -/
def plainBackSpec : ChangeSpec := { name := "plainBack", fn := fun _ => fun
  | [d] => { results := [.lit (.bool true)], args := [d] }
  | _ => none }
def plainBackRow : OpenClaim := { program := "ytadejblahbebdaadoor", sum := "51d557dd501d959d17cc788f6b86f1066d6d56ffad9c50b0b9d27f7bbfa8fc72", func := "flong/flonglaw17.PlainBack", spec := "plainBack", inPlace := ["internal/bytealg.IndexByteString", "internal/bytealg.IndexString"], unfollowed := true, recurses := true, named := ["flong/cells.blank", "flong/runes.none", "flong/runes.wide", "unicode/utf8.first", "unicode/utf8.acceptRanges", "internal/bytealg.MaxLen"], apart := false, laid := [("flong/runes.none", laid_flong_runes_none), ("flong/runes.wide", laid_flong_runes_wide), ("unicode/utf8.acceptRanges", laid_unicode_utf8_acceptRanges), ("flong/cells.blank", laid_flong_cells_blank), ("unicode/utf8.first", laid_unicode_utf8_first)] }
def PlainBackSaid : Prop := plainBackRow.holds Tryd.pinned (OpenSpec.ofChange plainBackSpec)

/-- ITS FALSE NEIGHBOUR: 'it returns false'. Refute it at one input. -/
def plainBackWrong : ChangeSpec := { name := "plainBack", fn := fun _ => fun
  | [d] => { results := [.lit (.bool false)], args := [d] }
  | _ => none }
def PlainBackWrongFalsely : Prop := plainBackRow.holds Tryd.pinned (OpenSpec.ofChange plainBackWrong)

/-- 'flonglaw17.PlainKeeps': WHATEVER THE INPUT: true; the input reads as it did. -/
def plainKeepsSpec : ChangeSpec := { name := "plainKeeps", fn := fun _ => fun
  | [d] => { results := [.lit (.bool true)], args := [d] }
  | _ => none }
def plainKeepsRow : OpenClaim := { program := "ytadejblahbebdaadoor", sum := "51d557dd501d959d17cc788f6b86f1066d6d56ffad9c50b0b9d27f7bbfa8fc72", func := "flong/flonglaw17.PlainKeeps", spec := "plainKeeps", inPlace := ["internal/bytealg.IndexByteString", "internal/bytealg.IndexString"], unfollowed := true, recurses := true, named := ["flong/cells.blank", "flong/runes.none", "flong/runes.wide", "unicode/utf8.first", "unicode/utf8.acceptRanges", "internal/bytealg.MaxLen"], apart := false, laid := [("flong/runes.none", laid_flong_runes_none), ("flong/runes.wide", laid_flong_runes_wide), ("unicode/utf8.acceptRanges", laid_unicode_utf8_acceptRanges), ("flong/cells.blank", laid_flong_cells_blank), ("unicode/utf8.first", laid_unicode_utf8_first)] }
def PlainKeepsSaid : Prop := plainKeepsRow.holds Tryd.pinned (OpenSpec.ofChange plainKeepsSpec)

/-- ITS FALSE NEIGHBOUR: 'it returns false'. Refute it at one input. -/
def plainKeepsWrong : ChangeSpec := { name := "plainKeeps", fn := fun _ => fun
  | [d] => { results := [.lit (.bool false)], args := [d] }
  | _ => none }
def PlainKeepsWrongFalsely : Prop := plainKeepsRow.holds Tryd.pinned (OpenSpec.ofChange plainKeepsWrong)

/-- 'flonglaw17.PlainReads': WHATEVER THE INPUT: true; the input reads as it did. -/
def plainReadsSpec : ChangeSpec := { name := "plainReads", fn := fun _ => fun
  | [d1, d2] => { results := [.lit (.bool true)], args := [d1, d2] }
  | _ => none }
def plainReadsRow : OpenClaim := { program := "ytadejblahbebdaadoor", sum := "51d557dd501d959d17cc788f6b86f1066d6d56ffad9c50b0b9d27f7bbfa8fc72", func := "flong/flonglaw17.PlainReads", spec := "plainReads", inPlace := ["internal/bytealg.IndexByteString", "internal/bytealg.IndexString"], unfollowed := true, recurses := true, named := ["flong/cells.blank", "flong/runes.none", "flong/runes.wide", "unicode/utf8.first", "unicode/utf8.acceptRanges", "internal/bytealg.MaxLen"], apart := false, laid := [("flong/runes.none", laid_flong_runes_none), ("flong/runes.wide", laid_flong_runes_wide), ("unicode/utf8.acceptRanges", laid_unicode_utf8_acceptRanges), ("flong/cells.blank", laid_flong_cells_blank), ("unicode/utf8.first", laid_unicode_utf8_first)] }
def PlainReadsSaid : Prop := plainReadsRow.holds Tryd.pinned (OpenSpec.ofChange plainReadsSpec)

/-- ITS FALSE NEIGHBOUR: 'it returns false'. Refute it at one input. -/
def plainReadsWrong : ChangeSpec := { name := "plainReads", fn := fun _ => fun
  | [d1, d2] => { results := [.lit (.bool false)], args := [d1, d2] }
  | _ => none }
def PlainReadsWrongFalsely : Prop := plainReadsRow.holds Tryd.pinned (OpenSpec.ofChange plainReadsWrong)

/- THE SECOND FORM. 'bulk': how many values and letters a reading holds, each counted each time it is reached (what is shared counts as often as it is met; a slice's spare places count too). A statement '..UptoSaid' is the law's where the arguments, and the package variables that the reading takes, are together of bulk at most 1048576: NARROWER than '..Said'. Prove '..Said' where nothing that the law and all that it calls make is longer than what came in: it says more and counts as full. Else prove '..UptoSaid'. A law counts once. -/
mutual
def uptoBulk {H : Type} : DataW H → Nat
  | .lit (.string bytes) => bytes.length + 1
  | .lit _ => 1
  | .nil => 1
  | .ptr d => uptoBulk d + 1
  | .slice elems spare => uptoBulkAll elems + uptoBulkAll spare + 1
  | .agg parts => uptoBulkAll parts + 1
  | .iface _ d => uptoBulk d + 1
  | .map entries => uptoBulkEntries entries + 1
  | .held _ => 1
def uptoBulkAll {H : Type} : List (DataW H) → Nat
  | [] => 0
  | d :: r => uptoBulk d + uptoBulkAll r
def uptoBulkEntries {H : Type} : List (Lit × DataW H) → Nat
  | [] => 0
  | x :: r => uptoBulkEntry x + uptoBulkEntries r
def uptoBulkEntry {H : Type} : Lit × DataW H → Nat
  | (.string bytes, d) => bytes.length + uptoBulk d + 1
  | (_, d) => uptoBulk d + 1
 end
def uptoSmall : (H : Type) → List (DataW H) → Bool := fun _ ds => decide (uptoBulkAll ds ≤ 1048576)
def OpenSpec.upto (s : _root_.Go.ChangeSpec) : _root_.Go.OpenSpec := { _root_.Go.OpenSpec.ofChange s with cond := some uptoSmall }

/-- 'flonglaw17.PlainWrites', WHERE WHAT IT READS IS OF BULK AT MOST 1048576: true; the input reads as it did. -/
def plainWritesUptoRow : OpenClaim := { program := "ytadejblahbebdaadoor", sum := "51d557dd501d959d17cc788f6b86f1066d6d56ffad9c50b0b9d27f7bbfa8fc72", func := "flong/flonglaw17.PlainWrites", spec := "plainWrites", named := ["flong/cells.blank", "flong/runes.none", "flong/runes.wide"], apart := false, laid := [("flong/runes.none", laid_flong_runes_none), ("flong/runes.wide", laid_flong_runes_wide), ("flong/cells.blank", laid_flong_cells_blank)], narrowed := true }
def PlainWritesUptoSaid : Prop := plainWritesUptoRow.holds Tryd.pinned (OpenSpec.upto plainWritesSpec)

/-- 'flonglaw17.PlainNormal', WHERE WHAT IT READS IS OF BULK AT MOST 1048576: true; the input reads as it did. -/
def plainNormalUptoRow : OpenClaim := { program := "ytadejblahbebdaadoor", sum := "51d557dd501d959d17cc788f6b86f1066d6d56ffad9c50b0b9d27f7bbfa8fc72", func := "flong/flonglaw17.PlainNormal", spec := "plainNormal", named := ["flong/cells.blank", "flong/runes.none", "flong/runes.wide"], apart := false, laid := [("flong/runes.none", laid_flong_runes_none), ("flong/runes.wide", laid_flong_runes_wide), ("flong/cells.blank", laid_flong_cells_blank)], narrowed := true }
def PlainNormalUptoSaid : Prop := plainNormalUptoRow.holds Tryd.pinned (OpenSpec.upto plainNormalSpec)

/-- 'flonglaw17.PlainWidths', WHERE WHAT IT READS IS OF BULK AT MOST 1048576: true; the input reads as it did. -/
def plainWidthsUptoRow : OpenClaim := { program := "ytadejblahbebdaadoor", sum := "51d557dd501d959d17cc788f6b86f1066d6d56ffad9c50b0b9d27f7bbfa8fc72", func := "flong/flonglaw17.PlainWidths", spec := "plainWidths", named := ["flong/cells.blank", "flong/runes.none", "flong/runes.wide"], apart := false, laid := [("flong/runes.none", laid_flong_runes_none), ("flong/runes.wide", laid_flong_runes_wide), ("flong/cells.blank", laid_flong_cells_blank)], narrowed := true }
def PlainWidthsUptoSaid : Prop := plainWidthsUptoRow.holds Tryd.pinned (OpenSpec.upto plainWidthsSpec)

/-- 'flonglaw17.PlainJoins', WHERE WHAT IT READS IS OF BULK AT MOST 1048576: true; the input reads as it did. -/
def plainJoinsUptoRow : OpenClaim := { program := "ytadejblahbebdaadoor", sum := "51d557dd501d959d17cc788f6b86f1066d6d56ffad9c50b0b9d27f7bbfa8fc72", func := "flong/flonglaw17.PlainJoins", spec := "plainJoins", unfollowed := true, recurses := true, named := ["flong/cells.blank", "flong/runes.none", "flong/runes.wide"], apart := false, laid := [("flong/runes.none", laid_flong_runes_none), ("flong/runes.wide", laid_flong_runes_wide), ("flong/cells.blank", laid_flong_cells_blank)], narrowed := true }
def PlainJoinsUptoSaid : Prop := plainJoinsUptoRow.holds Tryd.pinned (OpenSpec.upto plainJoinsSpec)

/-- 'flonglaw17.PlainBack', WHERE WHAT IT READS IS OF BULK AT MOST 1048576: true; the input reads as it did. -/
def plainBackUptoRow : OpenClaim := { program := "ytadejblahbebdaadoor", sum := "51d557dd501d959d17cc788f6b86f1066d6d56ffad9c50b0b9d27f7bbfa8fc72", func := "flong/flonglaw17.PlainBack", spec := "plainBack", inPlace := ["internal/bytealg.IndexByteString", "internal/bytealg.IndexString"], unfollowed := true, recurses := true, named := ["flong/cells.blank", "flong/runes.none", "flong/runes.wide", "unicode/utf8.first", "unicode/utf8.acceptRanges", "internal/bytealg.MaxLen"], apart := false, laid := [("flong/runes.none", laid_flong_runes_none), ("flong/runes.wide", laid_flong_runes_wide), ("unicode/utf8.acceptRanges", laid_unicode_utf8_acceptRanges), ("flong/cells.blank", laid_flong_cells_blank), ("unicode/utf8.first", laid_unicode_utf8_first)], narrowed := true }
def PlainBackUptoSaid : Prop := plainBackUptoRow.holds Tryd.pinned (OpenSpec.upto plainBackSpec)

/-- 'flonglaw17.PlainKeeps', WHERE WHAT IT READS IS OF BULK AT MOST 1048576: true; the input reads as it did. -/
def plainKeepsUptoRow : OpenClaim := { program := "ytadejblahbebdaadoor", sum := "51d557dd501d959d17cc788f6b86f1066d6d56ffad9c50b0b9d27f7bbfa8fc72", func := "flong/flonglaw17.PlainKeeps", spec := "plainKeeps", inPlace := ["internal/bytealg.IndexByteString", "internal/bytealg.IndexString"], unfollowed := true, recurses := true, named := ["flong/cells.blank", "flong/runes.none", "flong/runes.wide", "unicode/utf8.first", "unicode/utf8.acceptRanges", "internal/bytealg.MaxLen"], apart := false, laid := [("flong/runes.none", laid_flong_runes_none), ("flong/runes.wide", laid_flong_runes_wide), ("unicode/utf8.acceptRanges", laid_unicode_utf8_acceptRanges), ("flong/cells.blank", laid_flong_cells_blank), ("unicode/utf8.first", laid_unicode_utf8_first)], narrowed := true }
def PlainKeepsUptoSaid : Prop := plainKeepsUptoRow.holds Tryd.pinned (OpenSpec.upto plainKeepsSpec)

/-- 'flonglaw17.PlainReads', WHERE WHAT IT READS IS OF BULK AT MOST 1048576: true; the input reads as it did. -/
def plainReadsUptoRow : OpenClaim := { program := "ytadejblahbebdaadoor", sum := "51d557dd501d959d17cc788f6b86f1066d6d56ffad9c50b0b9d27f7bbfa8fc72", func := "flong/flonglaw17.PlainReads", spec := "plainReads", inPlace := ["internal/bytealg.IndexByteString", "internal/bytealg.IndexString"], unfollowed := true, recurses := true, named := ["flong/cells.blank", "flong/runes.none", "flong/runes.wide", "unicode/utf8.first", "unicode/utf8.acceptRanges", "internal/bytealg.MaxLen"], apart := false, laid := [("flong/runes.none", laid_flong_runes_none), ("flong/runes.wide", laid_flong_runes_wide), ("unicode/utf8.acceptRanges", laid_unicode_utf8_acceptRanges), ("flong/cells.blank", laid_flong_cells_blank), ("unicode/utf8.first", laid_unicode_utf8_first)], narrowed := true }
def PlainReadsUptoSaid : Prop := plainReadsUptoRow.holds Tryd.pinned (OpenSpec.upto plainReadsSpec)

end Rows
end Go.Proofs.YtadejblahbebdaaDoor
