/-
  NARROWER THAN 'FOR EVERY INPUT', by the rows' own cells (each row's printed sentence says how): LinesArgs: laid · LinesQuoted: laid · LinesOrder: laid · LinesGoesOn: laid · LinesNotes: laid · LinesMacros: laid · LinesBack: laid · LinesWrites: laid.
  DERIVED. THE GIVEN ROWS OF THIS SEAT. 8 by the template 'for every input the law returns true; each argument reads behind the call as it read before'; 0 by the template 'total and deterministic' (their statements: YtmfkokjbjmahkaaDoorTotals.lean).
  GIVEN WITH THE SEED: the statements are not yours to turn. If you find one false, say at which input.
  Laid BY PROGRAM, IN A SANDBOX (cutbox-rows.mjs): the forced cells as the released guide's own fill.sh prints them over the translation d90613f40e1d7bab… (all of the seat's roots in one cut). By AI agents, Wed Nov 11 2026. No macro, syntax, notation, axiom, sorry.
-/
import Derived.Test.YtmfkokjbjmahkaaDoorChecked
import GoSem.PinnedTables
import GoSem.Claim
import GoSem.ClaimJoined
import GoSem.ClaimMapViews
import Derived.JoinedTies
import Derived.KernelRfl
namespace Go.Proofs.YtmfkokjbjmahkaaDoor
/- THE CELL 'sum', in the pinned program and in every row, IS THE sha256 OF THE DUMP (.gsa) THAT YtmfkokjbjmahkaaDoorProg.lean LOADS. Nothing in Lean hashes anything: it is a label: what it is worth is what the hold of that sum in a sandbox is worth. -/
noncomputable def Tryd.pinned : Pinned := { name := "ytmfkokjbjmahkaadoor", sum := "d90613f40e1d7bab489dca66699b0a632ba957814f568be8823fb5980555a386", checked := Tryd.checked }
namespace Rows
def none {H : Type} : Left H := { results := [], args := [] }

/- WHAT THE LISTED PACKAGE-LEVEL VARIABLES READ AS WHEN THE CALL BEGINS. Each datum BY PROGRAM (the guide's laid-datum.mjs) off the statement by which the dump's own 'gosem.cut.vars' lays the variable. In a bare row this is a premise. The card (YtmfkokjbjmahkaaDoorCards.lean) ties it to the program's text. -/
def laid_unicode_utf8_acceptRanges {H : Type} : DataW H := .agg [.agg [.lit (.int .u8 128), .lit (.int .u8 191)], .agg [.lit (.int .u8 160), .lit (.int .u8 191)], .agg [.lit (.int .u8 128), .lit (.int .u8 159)], .agg [.lit (.int .u8 144), .lit (.int .u8 191)], .agg [.lit (.int .u8 128), .lit (.int .u8 143)], .agg [.lit (.int .u8 0), .lit (.int .u8 0)], .agg [.lit (.int .u8 0), .lit (.int .u8 0)], .agg [.lit (.int .u8 0), .lit (.int .u8 0)], .agg [.lit (.int .u8 0), .lit (.int .u8 0)], .agg [.lit (.int .u8 0), .lit (.int .u8 0)], .agg [.lit (.int .u8 0), .lit (.int .u8 0)], .agg [.lit (.int .u8 0), .lit (.int .u8 0)], .agg [.lit (.int .u8 0), .lit (.int .u8 0)], .agg [.lit (.int .u8 0), .lit (.int .u8 0)], .agg [.lit (.int .u8 0), .lit (.int .u8 0)], .agg [.lit (.int .u8 0), .lit (.int .u8 0)]]
/-- One of Go's own tables, pinned by name: the form's constant. -/
def laid_unicode_utf8_first : DataW Unit := Go.Pinned.utf8First

/-- 'flonglaw05.LinesArgs': WHATEVER THE INPUT: true; the input reads as it did. -/
def linesArgsSpec : ChangeSpec := { name := "linesArgs", fn := fun _ => fun
  | [d] => { results := [.lit (.bool true)], args := [d] }
  | _ => none }
def linesArgsRow : OpenClaim := { program := "ytmfkokjbjmahkaadoor", sum := "d90613f40e1d7bab489dca66699b0a632ba957814f568be8823fb5980555a386", func := "flong/flonglaw05.LinesArgs", spec := "linesArgs", inPlace := ["internal/bytealg.IndexByteString", "internal/bytealg.IndexString", "internal/bytealg.CountString", "internal/abi.NoEscape", "internal/bytealg.MakeNoZero"], unfollowed := true, recurses := true, named := ["unicode/utf8.first", "unicode/utf8.acceptRanges", "internal/bytealg.MaxLen"], apart := false, laid := [("unicode/utf8.acceptRanges", laid_unicode_utf8_acceptRanges), ("unicode/utf8.first", laid_unicode_utf8_first)] }
def LinesArgsSaid : Prop := linesArgsRow.holds Tryd.pinned (OpenSpec.ofChange linesArgsSpec)

/-- ITS FALSE NEIGHBOUR: 'it returns false'. Refute it at one input. -/
def linesArgsWrong : ChangeSpec := { name := "linesArgs", fn := fun _ => fun
  | [d] => { results := [.lit (.bool false)], args := [d] }
  | _ => none }
def LinesArgsWrongFalsely : Prop := linesArgsRow.holds Tryd.pinned (OpenSpec.ofChange linesArgsWrong)

/-- 'flonglaw05.LinesQuoted': WHATEVER THE INPUT: true; the input reads as it did. -/
def linesQuotedSpec : ChangeSpec := { name := "linesQuoted", fn := fun _ => fun
  | [d] => { results := [.lit (.bool true)], args := [d] }
  | _ => none }
def linesQuotedRow : OpenClaim := { program := "ytmfkokjbjmahkaadoor", sum := "d90613f40e1d7bab489dca66699b0a632ba957814f568be8823fb5980555a386", func := "flong/flonglaw05.LinesQuoted", spec := "linesQuoted", inPlace := ["internal/bytealg.IndexByteString", "internal/bytealg.IndexString", "internal/bytealg.CountString", "internal/abi.NoEscape", "internal/bytealg.MakeNoZero"], unfollowed := true, recurses := true, named := ["unicode/utf8.first", "unicode/utf8.acceptRanges", "internal/bytealg.MaxLen"], apart := false, laid := [("unicode/utf8.acceptRanges", laid_unicode_utf8_acceptRanges), ("unicode/utf8.first", laid_unicode_utf8_first)] }
def LinesQuotedSaid : Prop := linesQuotedRow.holds Tryd.pinned (OpenSpec.ofChange linesQuotedSpec)

/-- ITS FALSE NEIGHBOUR: 'it returns false'. Refute it at one input. -/
def linesQuotedWrong : ChangeSpec := { name := "linesQuoted", fn := fun _ => fun
  | [d] => { results := [.lit (.bool false)], args := [d] }
  | _ => none }
def LinesQuotedWrongFalsely : Prop := linesQuotedRow.holds Tryd.pinned (OpenSpec.ofChange linesQuotedWrong)

/-- 'flonglaw05.LinesOrder': WHATEVER THE INPUT: true; the input reads as it did. -/
def linesOrderSpec : ChangeSpec := { name := "linesOrder", fn := fun _ => fun
  | [d1, d2] => { results := [.lit (.bool true)], args := [d1, d2] }
  | _ => none }
def linesOrderRow : OpenClaim := { program := "ytmfkokjbjmahkaadoor", sum := "d90613f40e1d7bab489dca66699b0a632ba957814f568be8823fb5980555a386", func := "flong/flonglaw05.LinesOrder", spec := "linesOrder", inPlace := ["internal/bytealg.IndexByteString", "internal/bytealg.IndexString", "internal/bytealg.CountString", "internal/abi.NoEscape", "internal/bytealg.MakeNoZero"], unfollowed := true, recurses := true, named := ["unicode/utf8.first", "unicode/utf8.acceptRanges", "internal/bytealg.MaxLen"], apart := false, laid := [("unicode/utf8.acceptRanges", laid_unicode_utf8_acceptRanges), ("unicode/utf8.first", laid_unicode_utf8_first)] }
def LinesOrderSaid : Prop := linesOrderRow.holds Tryd.pinned (OpenSpec.ofChange linesOrderSpec)

/-- ITS FALSE NEIGHBOUR: 'it returns false'. Refute it at one input. -/
def linesOrderWrong : ChangeSpec := { name := "linesOrder", fn := fun _ => fun
  | [d1, d2] => { results := [.lit (.bool false)], args := [d1, d2] }
  | _ => none }
def LinesOrderWrongFalsely : Prop := linesOrderRow.holds Tryd.pinned (OpenSpec.ofChange linesOrderWrong)

/-- 'flonglaw05.LinesGoesOn': WHATEVER THE INPUT: true; the input reads as it did. -/
def linesGoesOnSpec : ChangeSpec := { name := "linesGoesOn", fn := fun _ => fun
  | [d1, d2] => { results := [.lit (.bool true)], args := [d1, d2] }
  | _ => none }
def linesGoesOnRow : OpenClaim := { program := "ytmfkokjbjmahkaadoor", sum := "d90613f40e1d7bab489dca66699b0a632ba957814f568be8823fb5980555a386", func := "flong/flonglaw05.LinesGoesOn", spec := "linesGoesOn", inPlace := ["internal/bytealg.IndexByteString", "internal/bytealg.IndexString", "internal/bytealg.CountString", "internal/abi.NoEscape", "internal/bytealg.MakeNoZero"], unfollowed := true, recurses := true, named := ["unicode/utf8.first", "unicode/utf8.acceptRanges", "internal/bytealg.MaxLen"], apart := false, laid := [("unicode/utf8.acceptRanges", laid_unicode_utf8_acceptRanges), ("unicode/utf8.first", laid_unicode_utf8_first)] }
def LinesGoesOnSaid : Prop := linesGoesOnRow.holds Tryd.pinned (OpenSpec.ofChange linesGoesOnSpec)

/-- ITS FALSE NEIGHBOUR: 'it returns false'. Refute it at one input. -/
def linesGoesOnWrong : ChangeSpec := { name := "linesGoesOn", fn := fun _ => fun
  | [d1, d2] => { results := [.lit (.bool false)], args := [d1, d2] }
  | _ => none }
def LinesGoesOnWrongFalsely : Prop := linesGoesOnRow.holds Tryd.pinned (OpenSpec.ofChange linesGoesOnWrong)

/-- 'flonglaw05.LinesNotes': WHATEVER THE INPUT: true; the input reads as it did. -/
def linesNotesSpec : ChangeSpec := { name := "linesNotes", fn := fun _ => fun
  | [d1, d2] => { results := [.lit (.bool true)], args := [d1, d2] }
  | _ => none }
def linesNotesRow : OpenClaim := { program := "ytmfkokjbjmahkaadoor", sum := "d90613f40e1d7bab489dca66699b0a632ba957814f568be8823fb5980555a386", func := "flong/flonglaw05.LinesNotes", spec := "linesNotes", inPlace := ["internal/bytealg.IndexByteString", "internal/bytealg.IndexString", "internal/bytealg.CountString", "internal/abi.NoEscape", "internal/bytealg.MakeNoZero"], unfollowed := true, recurses := true, named := ["unicode/utf8.first", "unicode/utf8.acceptRanges", "internal/bytealg.MaxLen"], apart := false, laid := [("unicode/utf8.acceptRanges", laid_unicode_utf8_acceptRanges), ("unicode/utf8.first", laid_unicode_utf8_first)] }
def LinesNotesSaid : Prop := linesNotesRow.holds Tryd.pinned (OpenSpec.ofChange linesNotesSpec)

/-- ITS FALSE NEIGHBOUR: 'it returns false'. Refute it at one input. -/
def linesNotesWrong : ChangeSpec := { name := "linesNotes", fn := fun _ => fun
  | [d1, d2] => { results := [.lit (.bool false)], args := [d1, d2] }
  | _ => none }
def LinesNotesWrongFalsely : Prop := linesNotesRow.holds Tryd.pinned (OpenSpec.ofChange linesNotesWrong)

/-- 'flonglaw05.LinesMacros': WHATEVER THE INPUT: true; the input reads as it did. -/
def linesMacrosSpec : ChangeSpec := { name := "linesMacros", fn := fun _ => fun
  | [d1, d2, d3] => { results := [.lit (.bool true)], args := [d1, d2, d3] }
  | _ => none }
def linesMacrosRow : OpenClaim := { program := "ytmfkokjbjmahkaadoor", sum := "d90613f40e1d7bab489dca66699b0a632ba957814f568be8823fb5980555a386", func := "flong/flonglaw05.LinesMacros", spec := "linesMacros", inPlace := ["internal/bytealg.IndexByteString", "internal/bytealg.IndexString", "internal/bytealg.CountString", "internal/abi.NoEscape", "internal/bytealg.MakeNoZero"], unfollowed := true, recurses := true, named := ["unicode/utf8.first", "unicode/utf8.acceptRanges", "internal/bytealg.MaxLen"], apart := false, laid := [("unicode/utf8.acceptRanges", laid_unicode_utf8_acceptRanges), ("unicode/utf8.first", laid_unicode_utf8_first)] }
def LinesMacrosSaid : Prop := linesMacrosRow.holds Tryd.pinned (OpenSpec.ofChange linesMacrosSpec)

/-- ITS FALSE NEIGHBOUR: 'it returns false'. Refute it at one input. -/
def linesMacrosWrong : ChangeSpec := { name := "linesMacros", fn := fun _ => fun
  | [d1, d2, d3] => { results := [.lit (.bool false)], args := [d1, d2, d3] }
  | _ => none }
def LinesMacrosWrongFalsely : Prop := linesMacrosRow.holds Tryd.pinned (OpenSpec.ofChange linesMacrosWrong)

/-- 'flonglaw05.LinesBack': WHATEVER THE INPUT: true; the input reads as it did. -/
def linesBackSpec : ChangeSpec := { name := "linesBack", fn := fun _ => fun
  | [d] => { results := [.lit (.bool true)], args := [d] }
  | _ => none }
def linesBackRow : OpenClaim := { program := "ytmfkokjbjmahkaadoor", sum := "d90613f40e1d7bab489dca66699b0a632ba957814f568be8823fb5980555a386", func := "flong/flonglaw05.LinesBack", spec := "linesBack", inPlace := ["internal/bytealg.IndexByteString", "internal/bytealg.IndexString", "internal/bytealg.CountString", "internal/abi.NoEscape", "internal/bytealg.MakeNoZero"], unfollowed := true, recurses := true, named := ["unicode/utf8.first", "unicode/utf8.acceptRanges", "internal/bytealg.MaxLen"], apart := false, laid := [("unicode/utf8.acceptRanges", laid_unicode_utf8_acceptRanges), ("unicode/utf8.first", laid_unicode_utf8_first)] }
def LinesBackSaid : Prop := linesBackRow.holds Tryd.pinned (OpenSpec.ofChange linesBackSpec)

/-- ITS FALSE NEIGHBOUR: 'it returns false'. Refute it at one input. -/
def linesBackWrong : ChangeSpec := { name := "linesBack", fn := fun _ => fun
  | [d] => { results := [.lit (.bool false)], args := [d] }
  | _ => none }
def LinesBackWrongFalsely : Prop := linesBackRow.holds Tryd.pinned (OpenSpec.ofChange linesBackWrong)

/-- 'flonglaw05.LinesWrites': WHATEVER THE INPUT: true; the input reads as it did. -/
def linesWritesSpec : ChangeSpec := { name := "linesWrites", fn := fun _ => fun
  | [d] => { results := [.lit (.bool true)], args := [d] }
  | _ => none }
def linesWritesRow : OpenClaim := { program := "ytmfkokjbjmahkaadoor", sum := "d90613f40e1d7bab489dca66699b0a632ba957814f568be8823fb5980555a386", func := "flong/flonglaw05.LinesWrites", spec := "linesWrites", inPlace := ["internal/bytealg.IndexByteString", "internal/bytealg.IndexString", "internal/bytealg.CountString", "internal/abi.NoEscape", "internal/bytealg.MakeNoZero"], unfollowed := true, recurses := true, named := ["unicode/utf8.first", "unicode/utf8.acceptRanges", "internal/bytealg.MaxLen"], apart := false, laid := [("unicode/utf8.acceptRanges", laid_unicode_utf8_acceptRanges), ("unicode/utf8.first", laid_unicode_utf8_first)] }
def LinesWritesSaid : Prop := linesWritesRow.holds Tryd.pinned (OpenSpec.ofChange linesWritesSpec)

/-- ITS FALSE NEIGHBOUR: 'it returns false'. Refute it at one input. -/
def linesWritesWrong : ChangeSpec := { name := "linesWrites", fn := fun _ => fun
  | [d] => { results := [.lit (.bool false)], args := [d] }
  | _ => none }
def LinesWritesWrongFalsely : Prop := linesWritesRow.holds Tryd.pinned (OpenSpec.ofChange linesWritesWrong)

/- THE SECOND FORM. 'bulk': how many values and letters a reading holds, each counted each time it is reached (what is shared counts as often as it is met; a slice's spare places count too). A statement '..UptoSaid' is the law's where the arguments, and the package variables that the reading takes, are together of bulk at most 1048576: NARROWER than '..Said'. Prove '..Said' where nothing that the law and all that it calls make is longer than what came in: it says more and counts as full. Else prove '..UptoSaid'. A law counts once. -/
mutual
def uptoBulk {H : Type} : DataW H → Nat
  | .lit (.string bytes) => bytes.length + 1
  | .lit _ => 1
  | .nil => 1
  | .ptr d => uptoBulk d + 1
  | .slice elems spare => uptoBulkAll elems + uptoBulkAll spare + 1
  | .agg parts => uptoBulkAll parts + 1
  | .iface _ d => uptoBulk d + 1
  | .map entries => uptoBulkEntries entries + 1
  | .held _ => 1
def uptoBulkAll {H : Type} : List (DataW H) → Nat
  | [] => 0
  | d :: r => uptoBulk d + uptoBulkAll r
def uptoBulkEntries {H : Type} : List (Lit × DataW H) → Nat
  | [] => 0
  | x :: r => uptoBulkEntry x + uptoBulkEntries r
def uptoBulkEntry {H : Type} : Lit × DataW H → Nat
  | (.string bytes, d) => bytes.length + uptoBulk d + 1
  | (_, d) => uptoBulk d + 1
 end
def uptoSmall : (H : Type) → List (DataW H) → Bool := fun _ ds => decide (uptoBulkAll ds ≤ 1048576)
def OpenSpec.upto (s : _root_.Go.ChangeSpec) : _root_.Go.OpenSpec := { _root_.Go.OpenSpec.ofChange s with cond := some uptoSmall }

/-- 'flonglaw05.LinesArgs', WHERE WHAT IT READS IS OF BULK AT MOST 1048576: true; the input reads as it did. -/
def linesArgsUptoRow : OpenClaim := { program := "ytmfkokjbjmahkaadoor", sum := "d90613f40e1d7bab489dca66699b0a632ba957814f568be8823fb5980555a386", func := "flong/flonglaw05.LinesArgs", spec := "linesArgs", inPlace := ["internal/bytealg.IndexByteString", "internal/bytealg.IndexString", "internal/bytealg.CountString", "internal/abi.NoEscape", "internal/bytealg.MakeNoZero"], unfollowed := true, recurses := true, named := ["unicode/utf8.first", "unicode/utf8.acceptRanges", "internal/bytealg.MaxLen"], apart := false, laid := [("unicode/utf8.acceptRanges", laid_unicode_utf8_acceptRanges), ("unicode/utf8.first", laid_unicode_utf8_first)], narrowed := true }
def LinesArgsUptoSaid : Prop := linesArgsUptoRow.holds Tryd.pinned (OpenSpec.upto linesArgsSpec)

/-- 'flonglaw05.LinesQuoted', WHERE WHAT IT READS IS OF BULK AT MOST 1048576: true; the input reads as it did. -/
def linesQuotedUptoRow : OpenClaim := { program := "ytmfkokjbjmahkaadoor", sum := "d90613f40e1d7bab489dca66699b0a632ba957814f568be8823fb5980555a386", func := "flong/flonglaw05.LinesQuoted", spec := "linesQuoted", inPlace := ["internal/bytealg.IndexByteString", "internal/bytealg.IndexString", "internal/bytealg.CountString", "internal/abi.NoEscape", "internal/bytealg.MakeNoZero"], unfollowed := true, recurses := true, named := ["unicode/utf8.first", "unicode/utf8.acceptRanges", "internal/bytealg.MaxLen"], apart := false, laid := [("unicode/utf8.acceptRanges", laid_unicode_utf8_acceptRanges), ("unicode/utf8.first", laid_unicode_utf8_first)], narrowed := true }
def LinesQuotedUptoSaid : Prop := linesQuotedUptoRow.holds Tryd.pinned (OpenSpec.upto linesQuotedSpec)

/-- 'flonglaw05.LinesOrder', WHERE WHAT IT READS IS OF BULK AT MOST 1048576: true; the input reads as it did. -/
def linesOrderUptoRow : OpenClaim := { program := "ytmfkokjbjmahkaadoor", sum := "d90613f40e1d7bab489dca66699b0a632ba957814f568be8823fb5980555a386", func := "flong/flonglaw05.LinesOrder", spec := "linesOrder", inPlace := ["internal/bytealg.IndexByteString", "internal/bytealg.IndexString", "internal/bytealg.CountString", "internal/abi.NoEscape", "internal/bytealg.MakeNoZero"], unfollowed := true, recurses := true, named := ["unicode/utf8.first", "unicode/utf8.acceptRanges", "internal/bytealg.MaxLen"], apart := false, laid := [("unicode/utf8.acceptRanges", laid_unicode_utf8_acceptRanges), ("unicode/utf8.first", laid_unicode_utf8_first)], narrowed := true }
def LinesOrderUptoSaid : Prop := linesOrderUptoRow.holds Tryd.pinned (OpenSpec.upto linesOrderSpec)

/-- 'flonglaw05.LinesGoesOn', WHERE WHAT IT READS IS OF BULK AT MOST 1048576: true; the input reads as it did. -/
def linesGoesOnUptoRow : OpenClaim := { program := "ytmfkokjbjmahkaadoor", sum := "d90613f40e1d7bab489dca66699b0a632ba957814f568be8823fb5980555a386", func := "flong/flonglaw05.LinesGoesOn", spec := "linesGoesOn", inPlace := ["internal/bytealg.IndexByteString", "internal/bytealg.IndexString", "internal/bytealg.CountString", "internal/abi.NoEscape", "internal/bytealg.MakeNoZero"], unfollowed := true, recurses := true, named := ["unicode/utf8.first", "unicode/utf8.acceptRanges", "internal/bytealg.MaxLen"], apart := false, laid := [("unicode/utf8.acceptRanges", laid_unicode_utf8_acceptRanges), ("unicode/utf8.first", laid_unicode_utf8_first)], narrowed := true }
def LinesGoesOnUptoSaid : Prop := linesGoesOnUptoRow.holds Tryd.pinned (OpenSpec.upto linesGoesOnSpec)

/-- 'flonglaw05.LinesNotes', WHERE WHAT IT READS IS OF BULK AT MOST 1048576: true; the input reads as it did. -/
def linesNotesUptoRow : OpenClaim := { program := "ytmfkokjbjmahkaadoor", sum := "d90613f40e1d7bab489dca66699b0a632ba957814f568be8823fb5980555a386", func := "flong/flonglaw05.LinesNotes", spec := "linesNotes", inPlace := ["internal/bytealg.IndexByteString", "internal/bytealg.IndexString", "internal/bytealg.CountString", "internal/abi.NoEscape", "internal/bytealg.MakeNoZero"], unfollowed := true, recurses := true, named := ["unicode/utf8.first", "unicode/utf8.acceptRanges", "internal/bytealg.MaxLen"], apart := false, laid := [("unicode/utf8.acceptRanges", laid_unicode_utf8_acceptRanges), ("unicode/utf8.first", laid_unicode_utf8_first)], narrowed := true }
def LinesNotesUptoSaid : Prop := linesNotesUptoRow.holds Tryd.pinned (OpenSpec.upto linesNotesSpec)

/-- 'flonglaw05.LinesMacros', WHERE WHAT IT READS IS OF BULK AT MOST 1048576: true; the input reads as it did. -/
def linesMacrosUptoRow : OpenClaim := { program := "ytmfkokjbjmahkaadoor", sum := "d90613f40e1d7bab489dca66699b0a632ba957814f568be8823fb5980555a386", func := "flong/flonglaw05.LinesMacros", spec := "linesMacros", inPlace := ["internal/bytealg.IndexByteString", "internal/bytealg.IndexString", "internal/bytealg.CountString", "internal/abi.NoEscape", "internal/bytealg.MakeNoZero"], unfollowed := true, recurses := true, named := ["unicode/utf8.first", "unicode/utf8.acceptRanges", "internal/bytealg.MaxLen"], apart := false, laid := [("unicode/utf8.acceptRanges", laid_unicode_utf8_acceptRanges), ("unicode/utf8.first", laid_unicode_utf8_first)], narrowed := true }
def LinesMacrosUptoSaid : Prop := linesMacrosUptoRow.holds Tryd.pinned (OpenSpec.upto linesMacrosSpec)

/-- 'flonglaw05.LinesBack', WHERE WHAT IT READS IS OF BULK AT MOST 1048576: true; the input reads as it did. -/
def linesBackUptoRow : OpenClaim := { program := "ytmfkokjbjmahkaadoor", sum := "d90613f40e1d7bab489dca66699b0a632ba957814f568be8823fb5980555a386", func := "flong/flonglaw05.LinesBack", spec := "linesBack", inPlace := ["internal/bytealg.IndexByteString", "internal/bytealg.IndexString", "internal/bytealg.CountString", "internal/abi.NoEscape", "internal/bytealg.MakeNoZero"], unfollowed := true, recurses := true, named := ["unicode/utf8.first", "unicode/utf8.acceptRanges", "internal/bytealg.MaxLen"], apart := false, laid := [("unicode/utf8.acceptRanges", laid_unicode_utf8_acceptRanges), ("unicode/utf8.first", laid_unicode_utf8_first)], narrowed := true }
def LinesBackUptoSaid : Prop := linesBackUptoRow.holds Tryd.pinned (OpenSpec.upto linesBackSpec)

/-- 'flonglaw05.LinesWrites', WHERE WHAT IT READS IS OF BULK AT MOST 1048576: true; the input reads as it did. -/
def linesWritesUptoRow : OpenClaim := { program := "ytmfkokjbjmahkaadoor", sum := "d90613f40e1d7bab489dca66699b0a632ba957814f568be8823fb5980555a386", func := "flong/flonglaw05.LinesWrites", spec := "linesWrites", inPlace := ["internal/bytealg.IndexByteString", "internal/bytealg.IndexString", "internal/bytealg.CountString", "internal/abi.NoEscape", "internal/bytealg.MakeNoZero"], unfollowed := true, recurses := true, named := ["unicode/utf8.first", "unicode/utf8.acceptRanges", "internal/bytealg.MaxLen"], apart := false, laid := [("unicode/utf8.acceptRanges", laid_unicode_utf8_acceptRanges), ("unicode/utf8.first", laid_unicode_utf8_first)], narrowed := true }
def LinesWritesUptoSaid : Prop := linesWritesUptoRow.holds Tryd.pinned (OpenSpec.upto linesWritesSpec)

end Rows
end Go.Proofs.YtmfkokjbjmahkaaDoor
