/-
  NARROWER THAN 'FOR EVERY INPUT', by the rows' own cells (each row's printed sentence says how): RunesSafe: laid · RunesSums: laid · RunesLengths: laid · RunesReads: laid · RunesBack: laid · RunesTexts: laid · RunesWrites: laid.
  DERIVED. THE GIVEN ROWS OF THIS SEAT. 7 by the template 'for every input the law returns true; each argument reads behind the call as it read before'; 0 by the template 'total and deterministic' (their statements: YtaoiogpgncjolaaDoorTotals.lean).
  GIVEN WITH THE SEED: the statements are not yours to turn. If you find one false, say at which input.
  Laid BY PROGRAM, IN A SANDBOX (cutbox-rows.mjs): the forced cells as the released guide's own fill.sh prints them over the translation ac33434fcdc213fd… (all of the seat's roots in one cut). By AI agents, Wed Nov 11 2026. No macro, syntax, notation, axiom, sorry.
-/
import Derived.Test.YtaoiogpgncjolaaDoorChecked
import GoSem.Claim
import GoSem.ClaimJoined
import GoSem.ClaimMapViews
import Derived.JoinedTies
import Derived.KernelRfl
namespace Go.Proofs.YtaoiogpgncjolaaDoor
/- THE CELL 'sum', in the pinned program and in every row, IS THE sha256 OF THE DUMP (.gsa) THAT YtaoiogpgncjolaaDoorProg.lean LOADS. Nothing in Lean hashes anything: it is a label: what it is worth is what the hold of that sum in a sandbox is worth. -/
noncomputable def Tryd.pinned : Pinned := { name := "ytaoiogpgncjolaadoor", sum := "ac33434fcdc213fdc588ca429679fb1397e1f18f47f9df4614fec72f8cf18dcf", checked := Tryd.checked }
namespace Rows
def none {H : Type} : Left H := { results := [], args := [] }

/- WHAT THE LISTED PACKAGE-LEVEL VARIABLES READ AS WHEN THE CALL BEGINS. Each datum BY PROGRAM (the guide's laid-datum.mjs) off the statement by which the dump's own 'gosem.cut.vars' lays the variable. In a bare row this is a premise. The card (YtaoiogpgncjolaaDoorCards.lean) ties it to the program's text. -/
def laid_flong_runes_none {H : Type} : DataW H := .agg [.agg [.lit (.int .i32 768), .lit (.int .i32 879)], .agg [.lit (.int .i32 1155), .lit (.int .i32 1161)], .agg [.lit (.int .i32 1425), .lit (.int .i32 1469)], .agg [.lit (.int .i32 1552), .lit (.int .i32 1562)], .agg [.lit (.int .i32 1611), .lit (.int .i32 1631)], .agg [.lit (.int .i32 6832), .lit (.int .i32 6911)], .agg [.lit (.int .i32 7616), .lit (.int .i32 7679)], .agg [.lit (.int .i32 8203), .lit (.int .i32 8207)], .agg [.lit (.int .i32 8400), .lit (.int .i32 8447)], .agg [.lit (.int .i32 65024), .lit (.int .i32 65039)], .agg [.lit (.int .i32 65056), .lit (.int .i32 65071)], .agg [.lit (.int .i32 917760), .lit (.int .i32 917999)]]
def laid_flong_runes_wide {H : Type} : DataW H := .agg [.agg [.lit (.int .i32 4352), .lit (.int .i32 4447)], .agg [.lit (.int .i32 9001), .lit (.int .i32 9002)], .agg [.lit (.int .i32 11904), .lit (.int .i32 12350)], .agg [.lit (.int .i32 12353), .lit (.int .i32 13311)], .agg [.lit (.int .i32 13312), .lit (.int .i32 19903)], .agg [.lit (.int .i32 19968), .lit (.int .i32 42191)], .agg [.lit (.int .i32 43360), .lit (.int .i32 43391)], .agg [.lit (.int .i32 44032), .lit (.int .i32 55203)], .agg [.lit (.int .i32 63744), .lit (.int .i32 64255)], .agg [.lit (.int .i32 65072), .lit (.int .i32 65135)], .agg [.lit (.int .i32 65280), .lit (.int .i32 65376)], .agg [.lit (.int .i32 65504), .lit (.int .i32 65510)], .agg [.lit (.int .i32 127744), .lit (.int .i32 128591)], .agg [.lit (.int .i32 129280), .lit (.int .i32 129535)], .agg [.lit (.int .i32 131072), .lit (.int .i32 196605)], .agg [.lit (.int .i32 196608), .lit (.int .i32 262141)]]

/-- 'flonglaw02.RunesSafe': WHATEVER THE INPUT: true; the input reads as it did. -/
def runesSafeSpec : ChangeSpec := { name := "runesSafe", fn := fun _ => fun
  | [d] => { results := [.lit (.bool true)], args := [d] }
  | _ => none }
def runesSafeRow : OpenClaim := { program := "ytaoiogpgncjolaadoor", sum := "ac33434fcdc213fdc588ca429679fb1397e1f18f47f9df4614fec72f8cf18dcf", func := "flong/flonglaw02.RunesSafe", spec := "runesSafe", named := ["flong/runes.none", "flong/runes.wide"], apart := false, laid := [("flong/runes.none", laid_flong_runes_none), ("flong/runes.wide", laid_flong_runes_wide)] }
def RunesSafeSaid : Prop := runesSafeRow.holds Tryd.pinned (OpenSpec.ofChange runesSafeSpec)

/-- ITS FALSE NEIGHBOUR: 'it returns false'. Refute it at one input. -/
def runesSafeWrong : ChangeSpec := { name := "runesSafe", fn := fun _ => fun
  | [d] => { results := [.lit (.bool false)], args := [d] }
  | _ => none }
def RunesSafeWrongFalsely : Prop := runesSafeRow.holds Tryd.pinned (OpenSpec.ofChange runesSafeWrong)

/-- 'flonglaw02.RunesSums': WHATEVER THE INPUT: true; the input reads as it did. -/
def runesSumsSpec : ChangeSpec := { name := "runesSums", fn := fun _ => fun
  | [d1, d2] => { results := [.lit (.bool true)], args := [d1, d2] }
  | _ => none }
def runesSumsRow : OpenClaim := { program := "ytaoiogpgncjolaadoor", sum := "ac33434fcdc213fdc588ca429679fb1397e1f18f47f9df4614fec72f8cf18dcf", func := "flong/flonglaw02.RunesSums", spec := "runesSums", named := ["flong/runes.none", "flong/runes.wide"], apart := false, laid := [("flong/runes.none", laid_flong_runes_none), ("flong/runes.wide", laid_flong_runes_wide)] }
def RunesSumsSaid : Prop := runesSumsRow.holds Tryd.pinned (OpenSpec.ofChange runesSumsSpec)

/-- ITS FALSE NEIGHBOUR: 'it returns false'. Refute it at one input. -/
def runesSumsWrong : ChangeSpec := { name := "runesSums", fn := fun _ => fun
  | [d1, d2] => { results := [.lit (.bool false)], args := [d1, d2] }
  | _ => none }
def RunesSumsWrongFalsely : Prop := runesSumsRow.holds Tryd.pinned (OpenSpec.ofChange runesSumsWrong)

/-- 'flonglaw02.RunesLengths': WHATEVER THE INPUT: true; the input reads as it did. -/
def runesLengthsSpec : ChangeSpec := { name := "runesLengths", fn := fun _ => fun
  | [d1, d2, d3, d4] => { results := [.lit (.bool true)], args := [d1, d2, d3, d4] }
  | _ => none }
def runesLengthsRow : OpenClaim := { program := "ytaoiogpgncjolaadoor", sum := "ac33434fcdc213fdc588ca429679fb1397e1f18f47f9df4614fec72f8cf18dcf", func := "flong/flonglaw02.RunesLengths", spec := "runesLengths", named := ["flong/runes.none", "flong/runes.wide"], apart := false, laid := [("flong/runes.none", laid_flong_runes_none), ("flong/runes.wide", laid_flong_runes_wide)] }
def RunesLengthsSaid : Prop := runesLengthsRow.holds Tryd.pinned (OpenSpec.ofChange runesLengthsSpec)

/-- ITS FALSE NEIGHBOUR: 'it returns false'. Refute it at one input. -/
def runesLengthsWrong : ChangeSpec := { name := "runesLengths", fn := fun _ => fun
  | [d1, d2, d3, d4] => { results := [.lit (.bool false)], args := [d1, d2, d3, d4] }
  | _ => none }
def RunesLengthsWrongFalsely : Prop := runesLengthsRow.holds Tryd.pinned (OpenSpec.ofChange runesLengthsWrong)

/-- 'flonglaw02.RunesReads': WHATEVER THE INPUT: true; the input reads as it did. -/
def runesReadsSpec : ChangeSpec := { name := "runesReads", fn := fun _ => fun
  | [d] => { results := [.lit (.bool true)], args := [d] }
  | _ => none }
def runesReadsRow : OpenClaim := { program := "ytaoiogpgncjolaadoor", sum := "ac33434fcdc213fdc588ca429679fb1397e1f18f47f9df4614fec72f8cf18dcf", func := "flong/flonglaw02.RunesReads", spec := "runesReads", named := ["flong/runes.none", "flong/runes.wide"], apart := false, laid := [("flong/runes.none", laid_flong_runes_none), ("flong/runes.wide", laid_flong_runes_wide)] }
def RunesReadsSaid : Prop := runesReadsRow.holds Tryd.pinned (OpenSpec.ofChange runesReadsSpec)

/-- ITS FALSE NEIGHBOUR: 'it returns false'. Refute it at one input. -/
def runesReadsWrong : ChangeSpec := { name := "runesReads", fn := fun _ => fun
  | [d] => { results := [.lit (.bool false)], args := [d] }
  | _ => none }
def RunesReadsWrongFalsely : Prop := runesReadsRow.holds Tryd.pinned (OpenSpec.ofChange runesReadsWrong)

/-- 'flonglaw02.RunesBack': WHATEVER THE INPUT: true; the input reads as it did. -/
def runesBackSpec : ChangeSpec := { name := "runesBack", fn := fun _ => fun
  | [d1, d2, d3] => { results := [.lit (.bool true)], args := [d1, d2, d3] }
  | _ => none }
def runesBackRow : OpenClaim := { program := "ytaoiogpgncjolaadoor", sum := "ac33434fcdc213fdc588ca429679fb1397e1f18f47f9df4614fec72f8cf18dcf", func := "flong/flonglaw02.RunesBack", spec := "runesBack", named := ["flong/runes.none", "flong/runes.wide"], apart := false, laid := [("flong/runes.none", laid_flong_runes_none), ("flong/runes.wide", laid_flong_runes_wide)] }
def RunesBackSaid : Prop := runesBackRow.holds Tryd.pinned (OpenSpec.ofChange runesBackSpec)

/-- ITS FALSE NEIGHBOUR: 'it returns false'. Refute it at one input. -/
def runesBackWrong : ChangeSpec := { name := "runesBack", fn := fun _ => fun
  | [d1, d2, d3] => { results := [.lit (.bool false)], args := [d1, d2, d3] }
  | _ => none }
def RunesBackWrongFalsely : Prop := runesBackRow.holds Tryd.pinned (OpenSpec.ofChange runesBackWrong)

/-- 'flonglaw02.RunesTexts': WHATEVER THE INPUT: true; the input reads as it did. -/
def runesTextsSpec : ChangeSpec := { name := "runesTexts", fn := fun _ => fun
  | [d] => { results := [.lit (.bool true)], args := [d] }
  | _ => none }
def runesTextsRow : OpenClaim := { program := "ytaoiogpgncjolaadoor", sum := "ac33434fcdc213fdc588ca429679fb1397e1f18f47f9df4614fec72f8cf18dcf", func := "flong/flonglaw02.RunesTexts", spec := "runesTexts", named := ["flong/runes.none", "flong/runes.wide"], apart := false, laid := [("flong/runes.none", laid_flong_runes_none), ("flong/runes.wide", laid_flong_runes_wide)] }
def RunesTextsSaid : Prop := runesTextsRow.holds Tryd.pinned (OpenSpec.ofChange runesTextsSpec)

/-- ITS FALSE NEIGHBOUR: 'it returns false'. Refute it at one input. -/
def runesTextsWrong : ChangeSpec := { name := "runesTexts", fn := fun _ => fun
  | [d] => { results := [.lit (.bool false)], args := [d] }
  | _ => none }
def RunesTextsWrongFalsely : Prop := runesTextsRow.holds Tryd.pinned (OpenSpec.ofChange runesTextsWrong)

/-- 'flonglaw02.RunesWrites': WHATEVER THE INPUT: true; the input reads as it did. -/
def runesWritesSpec : ChangeSpec := { name := "runesWrites", fn := fun _ => fun
  | [d] => { results := [.lit (.bool true)], args := [d] }
  | _ => none }
def runesWritesRow : OpenClaim := { program := "ytaoiogpgncjolaadoor", sum := "ac33434fcdc213fdc588ca429679fb1397e1f18f47f9df4614fec72f8cf18dcf", func := "flong/flonglaw02.RunesWrites", spec := "runesWrites", named := ["flong/runes.none", "flong/runes.wide"], apart := false, laid := [("flong/runes.none", laid_flong_runes_none), ("flong/runes.wide", laid_flong_runes_wide)] }
def RunesWritesSaid : Prop := runesWritesRow.holds Tryd.pinned (OpenSpec.ofChange runesWritesSpec)

/-- ITS FALSE NEIGHBOUR: 'it returns false'. Refute it at one input. -/
def runesWritesWrong : ChangeSpec := { name := "runesWrites", fn := fun _ => fun
  | [d] => { results := [.lit (.bool false)], args := [d] }
  | _ => none }
def RunesWritesWrongFalsely : Prop := runesWritesRow.holds Tryd.pinned (OpenSpec.ofChange runesWritesWrong)

/- THE SECOND FORM. 'bulk': how many values and letters a reading holds, each counted each time it is reached (what is shared counts as often as it is met; a slice's spare places count too). A statement '..UptoSaid' is the law's where the arguments, and the package variables that the reading takes, are together of bulk at most 1048576: NARROWER than '..Said'. Prove '..Said' where nothing that the law and all that it calls make is longer than what came in: it says more and counts as full. Else prove '..UptoSaid'. A law counts once. -/
mutual
def uptoBulk {H : Type} : DataW H → Nat
  | .lit (.string bytes) => bytes.length + 1
  | .lit _ => 1
  | .nil => 1
  | .ptr d => uptoBulk d + 1
  | .slice elems spare => uptoBulkAll elems + uptoBulkAll spare + 1
  | .agg parts => uptoBulkAll parts + 1
  | .iface _ d => uptoBulk d + 1
  | .map entries => uptoBulkEntries entries + 1
  | .held _ => 1
def uptoBulkAll {H : Type} : List (DataW H) → Nat
  | [] => 0
  | d :: r => uptoBulk d + uptoBulkAll r
def uptoBulkEntries {H : Type} : List (Lit × DataW H) → Nat
  | [] => 0
  | x :: r => uptoBulkEntry x + uptoBulkEntries r
def uptoBulkEntry {H : Type} : Lit × DataW H → Nat
  | (.string bytes, d) => bytes.length + uptoBulk d + 1
  | (_, d) => uptoBulk d + 1
 end
def uptoSmall : (H : Type) → List (DataW H) → Bool := fun _ ds => decide (uptoBulkAll ds ≤ 1048576)
def OpenSpec.upto (s : _root_.Go.ChangeSpec) : _root_.Go.OpenSpec := { _root_.Go.OpenSpec.ofChange s with cond := some uptoSmall }

/-- 'flonglaw02.RunesSafe', WHERE WHAT IT READS IS OF BULK AT MOST 1048576: true; the input reads as it did. -/
def runesSafeUptoRow : OpenClaim := { program := "ytaoiogpgncjolaadoor", sum := "ac33434fcdc213fdc588ca429679fb1397e1f18f47f9df4614fec72f8cf18dcf", func := "flong/flonglaw02.RunesSafe", spec := "runesSafe", named := ["flong/runes.none", "flong/runes.wide"], apart := false, laid := [("flong/runes.none", laid_flong_runes_none), ("flong/runes.wide", laid_flong_runes_wide)], narrowed := true }
def RunesSafeUptoSaid : Prop := runesSafeUptoRow.holds Tryd.pinned (OpenSpec.upto runesSafeSpec)

/-- 'flonglaw02.RunesSums', WHERE WHAT IT READS IS OF BULK AT MOST 1048576: true; the input reads as it did. -/
def runesSumsUptoRow : OpenClaim := { program := "ytaoiogpgncjolaadoor", sum := "ac33434fcdc213fdc588ca429679fb1397e1f18f47f9df4614fec72f8cf18dcf", func := "flong/flonglaw02.RunesSums", spec := "runesSums", named := ["flong/runes.none", "flong/runes.wide"], apart := false, laid := [("flong/runes.none", laid_flong_runes_none), ("flong/runes.wide", laid_flong_runes_wide)], narrowed := true }
def RunesSumsUptoSaid : Prop := runesSumsUptoRow.holds Tryd.pinned (OpenSpec.upto runesSumsSpec)

/-- 'flonglaw02.RunesLengths', WHERE WHAT IT READS IS OF BULK AT MOST 1048576: true; the input reads as it did. -/
def runesLengthsUptoRow : OpenClaim := { program := "ytaoiogpgncjolaadoor", sum := "ac33434fcdc213fdc588ca429679fb1397e1f18f47f9df4614fec72f8cf18dcf", func := "flong/flonglaw02.RunesLengths", spec := "runesLengths", named := ["flong/runes.none", "flong/runes.wide"], apart := false, laid := [("flong/runes.none", laid_flong_runes_none), ("flong/runes.wide", laid_flong_runes_wide)], narrowed := true }
def RunesLengthsUptoSaid : Prop := runesLengthsUptoRow.holds Tryd.pinned (OpenSpec.upto runesLengthsSpec)

/-- 'flonglaw02.RunesReads', WHERE WHAT IT READS IS OF BULK AT MOST 1048576: true; the input reads as it did. -/
def runesReadsUptoRow : OpenClaim := { program := "ytaoiogpgncjolaadoor", sum := "ac33434fcdc213fdc588ca429679fb1397e1f18f47f9df4614fec72f8cf18dcf", func := "flong/flonglaw02.RunesReads", spec := "runesReads", named := ["flong/runes.none", "flong/runes.wide"], apart := false, laid := [("flong/runes.none", laid_flong_runes_none), ("flong/runes.wide", laid_flong_runes_wide)], narrowed := true }
def RunesReadsUptoSaid : Prop := runesReadsUptoRow.holds Tryd.pinned (OpenSpec.upto runesReadsSpec)

/-- 'flonglaw02.RunesBack', WHERE WHAT IT READS IS OF BULK AT MOST 1048576: true; the input reads as it did. -/
def runesBackUptoRow : OpenClaim := { program := "ytaoiogpgncjolaadoor", sum := "ac33434fcdc213fdc588ca429679fb1397e1f18f47f9df4614fec72f8cf18dcf", func := "flong/flonglaw02.RunesBack", spec := "runesBack", named := ["flong/runes.none", "flong/runes.wide"], apart := false, laid := [("flong/runes.none", laid_flong_runes_none), ("flong/runes.wide", laid_flong_runes_wide)], narrowed := true }
def RunesBackUptoSaid : Prop := runesBackUptoRow.holds Tryd.pinned (OpenSpec.upto runesBackSpec)

/-- 'flonglaw02.RunesTexts', WHERE WHAT IT READS IS OF BULK AT MOST 1048576: true; the input reads as it did. -/
def runesTextsUptoRow : OpenClaim := { program := "ytaoiogpgncjolaadoor", sum := "ac33434fcdc213fdc588ca429679fb1397e1f18f47f9df4614fec72f8cf18dcf", func := "flong/flonglaw02.RunesTexts", spec := "runesTexts", named := ["flong/runes.none", "flong/runes.wide"], apart := false, laid := [("flong/runes.none", laid_flong_runes_none), ("flong/runes.wide", laid_flong_runes_wide)], narrowed := true }
def RunesTextsUptoSaid : Prop := runesTextsUptoRow.holds Tryd.pinned (OpenSpec.upto runesTextsSpec)

/-- 'flonglaw02.RunesWrites', WHERE WHAT IT READS IS OF BULK AT MOST 1048576: true; the input reads as it did. -/
def runesWritesUptoRow : OpenClaim := { program := "ytaoiogpgncjolaadoor", sum := "ac33434fcdc213fdc588ca429679fb1397e1f18f47f9df4614fec72f8cf18dcf", func := "flong/flonglaw02.RunesWrites", spec := "runesWrites", named := ["flong/runes.none", "flong/runes.wide"], apart := false, laid := [("flong/runes.none", laid_flong_runes_none), ("flong/runes.wide", laid_flong_runes_wide)], narrowed := true }
def RunesWritesUptoSaid : Prop := runesWritesUptoRow.holds Tryd.pinned (OpenSpec.upto runesWritesSpec)

end Rows
end Go.Proofs.YtaoiogpgncjolaaDoor
