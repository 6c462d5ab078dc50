/-
  NARROWER THAN 'FOR EVERY INPUT', by the rows' own cells (each row's printed sentence says how): OverPlain: laid · OverJoins: laid · OverReads: laid · OverBack: laid · OverErase: laid.
  DERIVED. THE GIVEN ROWS OF THIS SEAT. 5 by the template 'for every input the law returns true; each argument reads behind the call as it read before'; 0 by the template 'total and deterministic' (their statements: YtmeinakeiefcdaaDoorTotals.lean).
  GIVEN WITH THE SEED: the statements are not yours to turn. If you find one false, say at which input.
  Laid BY PROGRAM, IN A SANDBOX (cutbox-rows.mjs): the forced cells as the released guide's own fill.sh prints them over the translation bce58520d2fd0114… (all of the seat's roots in one cut). By AI agents, Wed Nov 11 2026. No macro, syntax, notation, axiom, sorry.
-/
import Derived.Test.YtmeinakeiefcdaaDoorChecked
import GoSem.PinnedTables
import GoSem.Claim
import GoSem.ClaimJoined
import GoSem.ClaimMapViews
import Derived.JoinedTies
import Derived.KernelRfl
namespace Go.Proofs.YtmeinakeiefcdaaDoor
/- THE CELL 'sum', in the pinned program and in every row, IS THE sha256 OF THE DUMP (.gsa) THAT YtmeinakeiefcdaaDoorProg.lean LOADS. Nothing in Lean hashes anything: it is a label: what it is worth is what the hold of that sum in a sandbox is worth. -/
noncomputable def Tryd.pinned : Pinned := { name := "ytmeinakeiefcdaadoor", sum := "bce58520d2fd01143e74c02a73aa6d4e755605e0cdfcc64d558bb600cb8f1656", checked := Tryd.checked }
namespace Rows
def none {H : Type} : Left H := { results := [], args := [] }

/- WHAT THE LISTED PACKAGE-LEVEL VARIABLES READ AS WHEN THE CALL BEGINS. Each datum BY PROGRAM (the guide's laid-datum.mjs) off the statement by which the dump's own 'gosem.cut.vars' lays the variable. In a bare row this is a premise. The card (YtmeinakeiefcdaaDoorCards.lean) ties it to the program's text. -/
def laid_flong_runes_none {H : Type} : DataW H := .agg [.agg [.lit (.int .i32 768), .lit (.int .i32 879)], .agg [.lit (.int .i32 1155), .lit (.int .i32 1161)], .agg [.lit (.int .i32 1425), .lit (.int .i32 1469)], .agg [.lit (.int .i32 1552), .lit (.int .i32 1562)], .agg [.lit (.int .i32 1611), .lit (.int .i32 1631)], .agg [.lit (.int .i32 6832), .lit (.int .i32 6911)], .agg [.lit (.int .i32 7616), .lit (.int .i32 7679)], .agg [.lit (.int .i32 8203), .lit (.int .i32 8207)], .agg [.lit (.int .i32 8400), .lit (.int .i32 8447)], .agg [.lit (.int .i32 65024), .lit (.int .i32 65039)], .agg [.lit (.int .i32 65056), .lit (.int .i32 65071)], .agg [.lit (.int .i32 917760), .lit (.int .i32 917999)]]
def laid_flong_runes_wide {H : Type} : DataW H := .agg [.agg [.lit (.int .i32 4352), .lit (.int .i32 4447)], .agg [.lit (.int .i32 9001), .lit (.int .i32 9002)], .agg [.lit (.int .i32 11904), .lit (.int .i32 12350)], .agg [.lit (.int .i32 12353), .lit (.int .i32 13311)], .agg [.lit (.int .i32 13312), .lit (.int .i32 19903)], .agg [.lit (.int .i32 19968), .lit (.int .i32 42191)], .agg [.lit (.int .i32 43360), .lit (.int .i32 43391)], .agg [.lit (.int .i32 44032), .lit (.int .i32 55203)], .agg [.lit (.int .i32 63744), .lit (.int .i32 64255)], .agg [.lit (.int .i32 65072), .lit (.int .i32 65135)], .agg [.lit (.int .i32 65280), .lit (.int .i32 65376)], .agg [.lit (.int .i32 65504), .lit (.int .i32 65510)], .agg [.lit (.int .i32 127744), .lit (.int .i32 128591)], .agg [.lit (.int .i32 129280), .lit (.int .i32 129535)], .agg [.lit (.int .i32 131072), .lit (.int .i32 196605)], .agg [.lit (.int .i32 196608), .lit (.int .i32 262141)]]
def laid_flong_cells_blank {H : Type} : DataW H := .agg [.lit (.int .i32 32), .lit (.int .u8 0)]
def laid_unicode_utf8_acceptRanges {H : Type} : DataW H := .agg [.agg [.lit (.int .u8 128), .lit (.int .u8 191)], .agg [.lit (.int .u8 160), .lit (.int .u8 191)], .agg [.lit (.int .u8 128), .lit (.int .u8 159)], .agg [.lit (.int .u8 144), .lit (.int .u8 191)], .agg [.lit (.int .u8 128), .lit (.int .u8 143)], .agg [.lit (.int .u8 0), .lit (.int .u8 0)], .agg [.lit (.int .u8 0), .lit (.int .u8 0)], .agg [.lit (.int .u8 0), .lit (.int .u8 0)], .agg [.lit (.int .u8 0), .lit (.int .u8 0)], .agg [.lit (.int .u8 0), .lit (.int .u8 0)], .agg [.lit (.int .u8 0), .lit (.int .u8 0)], .agg [.lit (.int .u8 0), .lit (.int .u8 0)], .agg [.lit (.int .u8 0), .lit (.int .u8 0)], .agg [.lit (.int .u8 0), .lit (.int .u8 0)], .agg [.lit (.int .u8 0), .lit (.int .u8 0)], .agg [.lit (.int .u8 0), .lit (.int .u8 0)]]
def laid_flong_over_ways {H : Type} : DataW H := .agg [.lit (.int .u8 3), .lit (.int .u8 2), .lit (.int .u8 1), .lit (.int .u8 0)]
/-- One of Go's own tables, pinned by name: the form's constant. -/
def laid_unicode_utf8_first : DataW Unit := Go.Pinned.utf8First

/-- 'flonglaw18.OverPlain': WHATEVER THE INPUT: true; the input reads as it did. -/
def overPlainSpec : ChangeSpec := { name := "overPlain", fn := fun _ => fun
  | [d] => { results := [.lit (.bool true)], args := [d] }
  | _ => none }
def overPlainRow : OpenClaim := { program := "ytmeinakeiefcdaadoor", sum := "bce58520d2fd01143e74c02a73aa6d4e755605e0cdfcc64d558bb600cb8f1656", func := "flong/flonglaw18.OverPlain", spec := "overPlain", inPlace := ["internal/abi.NoEscape", "internal/bytealg.MakeNoZero"], named := ["flong/runes.none", "flong/runes.wide", "flong/cells.blank"], apart := false, laid := [("flong/runes.none", laid_flong_runes_none), ("flong/runes.wide", laid_flong_runes_wide), ("flong/cells.blank", laid_flong_cells_blank)] }
def OverPlainSaid : Prop := overPlainRow.holds Tryd.pinned (OpenSpec.ofChange overPlainSpec)

/-- ITS FALSE NEIGHBOUR: 'it returns false'. Refute it at one input. -/
def overPlainWrong : ChangeSpec := { name := "overPlain", fn := fun _ => fun
  | [d] => { results := [.lit (.bool false)], args := [d] }
  | _ => none }
def OverPlainWrongFalsely : Prop := overPlainRow.holds Tryd.pinned (OpenSpec.ofChange overPlainWrong)

/-- 'flonglaw18.OverJoins': WHATEVER THE INPUT: true; the input reads as it did. -/
def overJoinsSpec : ChangeSpec := { name := "overJoins", fn := fun _ => fun
  | [d1, d2, d3] => { results := [.lit (.bool true)], args := [d1, d2, d3] }
  | _ => none }
def overJoinsRow : OpenClaim := { program := "ytmeinakeiefcdaadoor", sum := "bce58520d2fd01143e74c02a73aa6d4e755605e0cdfcc64d558bb600cb8f1656", func := "flong/flonglaw18.OverJoins", spec := "overJoins", inPlace := ["internal/abi.NoEscape", "internal/bytealg.MakeNoZero"], named := ["flong/runes.none", "flong/runes.wide", "flong/cells.blank"], apart := false, laid := [("flong/runes.none", laid_flong_runes_none), ("flong/runes.wide", laid_flong_runes_wide), ("flong/cells.blank", laid_flong_cells_blank)] }
def OverJoinsSaid : Prop := overJoinsRow.holds Tryd.pinned (OpenSpec.ofChange overJoinsSpec)

/-- ITS FALSE NEIGHBOUR: 'it returns false'. Refute it at one input. -/
def overJoinsWrong : ChangeSpec := { name := "overJoins", fn := fun _ => fun
  | [d1, d2, d3] => { results := [.lit (.bool false)], args := [d1, d2, d3] }
  | _ => none }
def OverJoinsWrongFalsely : Prop := overJoinsRow.holds Tryd.pinned (OpenSpec.ofChange overJoinsWrong)

/-- 'flonglaw18.OverReads': WHATEVER THE INPUT: true; the input reads as it did. -/
def overReadsSpec : ChangeSpec := { name := "overReads", fn := fun _ => fun
  | [d] => { results := [.lit (.bool true)], args := [d] }
  | _ => none }
def overReadsRow : OpenClaim := { program := "ytmeinakeiefcdaadoor", sum := "bce58520d2fd01143e74c02a73aa6d4e755605e0cdfcc64d558bb600cb8f1656", func := "flong/flonglaw18.OverReads", spec := "overReads", inPlace := ["internal/abi.NoEscape", "internal/bytealg.MakeNoZero", "internal/bytealg.CountString", "internal/bytealg.IndexByteString", "internal/bytealg.IndexString"], named := ["flong/runes.none", "flong/runes.wide", "unicode/utf8.first", "unicode/utf8.acceptRanges", "internal/bytealg.MaxLen", "flong/over.ways", "flong/cells.blank"], apart := false, laid := [("flong/runes.none", laid_flong_runes_none), ("flong/runes.wide", laid_flong_runes_wide), ("unicode/utf8.acceptRanges", laid_unicode_utf8_acceptRanges), ("flong/cells.blank", laid_flong_cells_blank), ("flong/over.ways", laid_flong_over_ways), ("unicode/utf8.first", laid_unicode_utf8_first)] }
def OverReadsSaid : Prop := overReadsRow.holds Tryd.pinned (OpenSpec.ofChange overReadsSpec)

/-- ITS FALSE NEIGHBOUR: 'it returns false'. Refute it at one input. -/
def overReadsWrong : ChangeSpec := { name := "overReads", fn := fun _ => fun
  | [d] => { results := [.lit (.bool false)], args := [d] }
  | _ => none }
def OverReadsWrongFalsely : Prop := overReadsRow.holds Tryd.pinned (OpenSpec.ofChange overReadsWrong)

/-- 'flonglaw18.OverBack': WHATEVER THE INPUT: true; the input reads as it did. -/
def overBackSpec : ChangeSpec := { name := "overBack", fn := fun _ => fun
  | [d] => { results := [.lit (.bool true)], args := [d] }
  | _ => none }
def overBackRow : OpenClaim := { program := "ytmeinakeiefcdaadoor", sum := "bce58520d2fd01143e74c02a73aa6d4e755605e0cdfcc64d558bb600cb8f1656", func := "flong/flonglaw18.OverBack", spec := "overBack", inPlace := ["internal/abi.NoEscape", "internal/bytealg.MakeNoZero", "internal/bytealg.CountString", "internal/bytealg.IndexByteString", "internal/bytealg.IndexString"], named := ["flong/runes.none", "flong/runes.wide", "flong/cells.blank", "unicode/utf8.first", "unicode/utf8.acceptRanges", "internal/bytealg.MaxLen", "flong/over.ways"], apart := false, laid := [("flong/runes.none", laid_flong_runes_none), ("flong/runes.wide", laid_flong_runes_wide), ("unicode/utf8.acceptRanges", laid_unicode_utf8_acceptRanges), ("flong/cells.blank", laid_flong_cells_blank), ("flong/over.ways", laid_flong_over_ways), ("unicode/utf8.first", laid_unicode_utf8_first)] }
def OverBackSaid : Prop := overBackRow.holds Tryd.pinned (OpenSpec.ofChange overBackSpec)

/-- ITS FALSE NEIGHBOUR: 'it returns false'. Refute it at one input. -/
def overBackWrong : ChangeSpec := { name := "overBack", fn := fun _ => fun
  | [d] => { results := [.lit (.bool false)], args := [d] }
  | _ => none }
def OverBackWrongFalsely : Prop := overBackRow.holds Tryd.pinned (OpenSpec.ofChange overBackWrong)

/-- 'flonglaw18.OverErase': WHATEVER THE INPUT: true; the input reads as it did. -/
def overEraseSpec : ChangeSpec := { name := "overErase", fn := fun _ => fun
  | [d] => { results := [.lit (.bool true)], args := [d] }
  | _ => none }
def overEraseRow : OpenClaim := { program := "ytmeinakeiefcdaadoor", sum := "bce58520d2fd01143e74c02a73aa6d4e755605e0cdfcc64d558bb600cb8f1656", func := "flong/flonglaw18.OverErase", spec := "overErase", inPlace := ["internal/abi.NoEscape", "internal/bytealg.MakeNoZero", "internal/bytealg.CountString", "internal/bytealg.IndexByteString", "internal/bytealg.IndexString"], named := ["flong/runes.none", "flong/runes.wide", "flong/cells.blank", "unicode/utf8.first", "unicode/utf8.acceptRanges", "internal/bytealg.MaxLen", "flong/over.ways"], apart := false, laid := [("flong/runes.none", laid_flong_runes_none), ("flong/runes.wide", laid_flong_runes_wide), ("unicode/utf8.acceptRanges", laid_unicode_utf8_acceptRanges), ("flong/cells.blank", laid_flong_cells_blank), ("flong/over.ways", laid_flong_over_ways), ("unicode/utf8.first", laid_unicode_utf8_first)] }
def OverEraseSaid : Prop := overEraseRow.holds Tryd.pinned (OpenSpec.ofChange overEraseSpec)

/-- ITS FALSE NEIGHBOUR: 'it returns false'. Refute it at one input. -/
def overEraseWrong : ChangeSpec := { name := "overErase", fn := fun _ => fun
  | [d] => { results := [.lit (.bool false)], args := [d] }
  | _ => none }
def OverEraseWrongFalsely : Prop := overEraseRow.holds Tryd.pinned (OpenSpec.ofChange overEraseWrong)

/- THE SECOND FORM. 'bulk': how many values and letters a reading holds, each counted each time it is reached (what is shared counts as often as it is met; a slice's spare places count too). A statement '..UptoSaid' is the law's where the arguments, and the package variables that the reading takes, are together of bulk at most 1048576: NARROWER than '..Said'. Prove '..Said' where nothing that the law and all that it calls make is longer than what came in: it says more and counts as full. Else prove '..UptoSaid'. A law counts once. -/
mutual
def uptoBulk {H : Type} : DataW H → Nat
  | .lit (.string bytes) => bytes.length + 1
  | .lit _ => 1
  | .nil => 1
  | .ptr d => uptoBulk d + 1
  | .slice elems spare => uptoBulkAll elems + uptoBulkAll spare + 1
  | .agg parts => uptoBulkAll parts + 1
  | .iface _ d => uptoBulk d + 1
  | .map entries => uptoBulkEntries entries + 1
  | .held _ => 1
def uptoBulkAll {H : Type} : List (DataW H) → Nat
  | [] => 0
  | d :: r => uptoBulk d + uptoBulkAll r
def uptoBulkEntries {H : Type} : List (Lit × DataW H) → Nat
  | [] => 0
  | x :: r => uptoBulkEntry x + uptoBulkEntries r
def uptoBulkEntry {H : Type} : Lit × DataW H → Nat
  | (.string bytes, d) => bytes.length + uptoBulk d + 1
  | (_, d) => uptoBulk d + 1
 end
def uptoSmall : (H : Type) → List (DataW H) → Bool := fun _ ds => decide (uptoBulkAll ds ≤ 1048576)
def OpenSpec.upto (s : _root_.Go.ChangeSpec) : _root_.Go.OpenSpec := { _root_.Go.OpenSpec.ofChange s with cond := some uptoSmall }

/-- 'flonglaw18.OverPlain', WHERE WHAT IT READS IS OF BULK AT MOST 1048576: true; the input reads as it did. -/
def overPlainUptoRow : OpenClaim := { program := "ytmeinakeiefcdaadoor", sum := "bce58520d2fd01143e74c02a73aa6d4e755605e0cdfcc64d558bb600cb8f1656", func := "flong/flonglaw18.OverPlain", spec := "overPlain", inPlace := ["internal/abi.NoEscape", "internal/bytealg.MakeNoZero"], named := ["flong/runes.none", "flong/runes.wide", "flong/cells.blank"], apart := false, laid := [("flong/runes.none", laid_flong_runes_none), ("flong/runes.wide", laid_flong_runes_wide), ("flong/cells.blank", laid_flong_cells_blank)], narrowed := true }
def OverPlainUptoSaid : Prop := overPlainUptoRow.holds Tryd.pinned (OpenSpec.upto overPlainSpec)

/-- 'flonglaw18.OverJoins', WHERE WHAT IT READS IS OF BULK AT MOST 1048576: true; the input reads as it did. -/
def overJoinsUptoRow : OpenClaim := { program := "ytmeinakeiefcdaadoor", sum := "bce58520d2fd01143e74c02a73aa6d4e755605e0cdfcc64d558bb600cb8f1656", func := "flong/flonglaw18.OverJoins", spec := "overJoins", inPlace := ["internal/abi.NoEscape", "internal/bytealg.MakeNoZero"], named := ["flong/runes.none", "flong/runes.wide", "flong/cells.blank"], apart := false, laid := [("flong/runes.none", laid_flong_runes_none), ("flong/runes.wide", laid_flong_runes_wide), ("flong/cells.blank", laid_flong_cells_blank)], narrowed := true }
def OverJoinsUptoSaid : Prop := overJoinsUptoRow.holds Tryd.pinned (OpenSpec.upto overJoinsSpec)

/-- 'flonglaw18.OverReads', WHERE WHAT IT READS IS OF BULK AT MOST 1048576: true; the input reads as it did. -/
def overReadsUptoRow : OpenClaim := { program := "ytmeinakeiefcdaadoor", sum := "bce58520d2fd01143e74c02a73aa6d4e755605e0cdfcc64d558bb600cb8f1656", func := "flong/flonglaw18.OverReads", spec := "overReads", inPlace := ["internal/abi.NoEscape", "internal/bytealg.MakeNoZero", "internal/bytealg.CountString", "internal/bytealg.IndexByteString", "internal/bytealg.IndexString"], named := ["flong/runes.none", "flong/runes.wide", "unicode/utf8.first", "unicode/utf8.acceptRanges", "internal/bytealg.MaxLen", "flong/over.ways", "flong/cells.blank"], apart := false, laid := [("flong/runes.none", laid_flong_runes_none), ("flong/runes.wide", laid_flong_runes_wide), ("unicode/utf8.acceptRanges", laid_unicode_utf8_acceptRanges), ("flong/cells.blank", laid_flong_cells_blank), ("flong/over.ways", laid_flong_over_ways), ("unicode/utf8.first", laid_unicode_utf8_first)], narrowed := true }
def OverReadsUptoSaid : Prop := overReadsUptoRow.holds Tryd.pinned (OpenSpec.upto overReadsSpec)

/-- 'flonglaw18.OverBack', WHERE WHAT IT READS IS OF BULK AT MOST 1048576: true; the input reads as it did. -/
def overBackUptoRow : OpenClaim := { program := "ytmeinakeiefcdaadoor", sum := "bce58520d2fd01143e74c02a73aa6d4e755605e0cdfcc64d558bb600cb8f1656", func := "flong/flonglaw18.OverBack", spec := "overBack", inPlace := ["internal/abi.NoEscape", "internal/bytealg.MakeNoZero", "internal/bytealg.CountString", "internal/bytealg.IndexByteString", "internal/bytealg.IndexString"], named := ["flong/runes.none", "flong/runes.wide", "flong/cells.blank", "unicode/utf8.first", "unicode/utf8.acceptRanges", "internal/bytealg.MaxLen", "flong/over.ways"], apart := false, laid := [("flong/runes.none", laid_flong_runes_none), ("flong/runes.wide", laid_flong_runes_wide), ("unicode/utf8.acceptRanges", laid_unicode_utf8_acceptRanges), ("flong/cells.blank", laid_flong_cells_blank), ("flong/over.ways", laid_flong_over_ways), ("unicode/utf8.first", laid_unicode_utf8_first)], narrowed := true }
def OverBackUptoSaid : Prop := overBackUptoRow.holds Tryd.pinned (OpenSpec.upto overBackSpec)

/-- 'flonglaw18.OverErase', WHERE WHAT IT READS IS OF BULK AT MOST 1048576: true; the input reads as it did. -/
def overEraseUptoRow : OpenClaim := { program := "ytmeinakeiefcdaadoor", sum := "bce58520d2fd01143e74c02a73aa6d4e755605e0cdfcc64d558bb600cb8f1656", func := "flong/flonglaw18.OverErase", spec := "overErase", inPlace := ["internal/abi.NoEscape", "internal/bytealg.MakeNoZero", "internal/bytealg.CountString", "internal/bytealg.IndexByteString", "internal/bytealg.IndexString"], named := ["flong/runes.none", "flong/runes.wide", "flong/cells.blank", "unicode/utf8.first", "unicode/utf8.acceptRanges", "internal/bytealg.MaxLen", "flong/over.ways"], apart := false, laid := [("flong/runes.none", laid_flong_runes_none), ("flong/runes.wide", laid_flong_runes_wide), ("unicode/utf8.acceptRanges", laid_unicode_utf8_acceptRanges), ("flong/cells.blank", laid_flong_cells_blank), ("flong/over.ways", laid_flong_over_ways), ("unicode/utf8.first", laid_unicode_utf8_first)], narrowed := true }
def OverEraseUptoSaid : Prop := overEraseUptoRow.holds Tryd.pinned (OpenSpec.upto overEraseSpec)

end Rows
end Go.Proofs.YtmeinakeiefcdaaDoor
