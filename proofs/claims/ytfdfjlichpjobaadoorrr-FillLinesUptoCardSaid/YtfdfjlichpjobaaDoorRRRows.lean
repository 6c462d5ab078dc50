/-
  NARROWER THAN 'FOR EVERY INPUT', by the rows' own cells (each row's printed sentence says how): FillWords: laid · FillLines: laid · FillKeeps: laid · FillTexts: laid · FillWider: laid.
  DERIVED. THE GIVEN ROWS OF THIS SEAT. 5 by the template 'for every input the law returns true; each argument reads behind the call as it read before'; 0 by the template 'total and deterministic' (their statements: YtfdfjlichpjobaaDoorRRTotals.lean).
  GIVEN WITH THE SEED: the statements are not yours to turn. If you find one false, say at which input.
  Laid BY PROGRAM, IN A SANDBOX (cutbox-rows.mjs): the forced cells as the released guide's own fill.sh prints them over the translation fe5b9bca66090b68… (all of the seat's roots in one cut). By AI agents, Wed Nov 11 2026. No macro, syntax, notation, axiom, sorry.
-/
import Derived.Test.YtfdfjlichpjobaaDoorRRChecked
import GoSem.Claim
import GoSem.ClaimJoined
import GoSem.ClaimMapViews
import Derived.JoinedTies
import Derived.KernelRfl
namespace Go.Proofs.YtfdfjlichpjobaaDoorRR
/- THE CELL 'sum', in the pinned program and in every row, IS THE sha256 OF THE DUMP (.gsa) THAT YtfdfjlichpjobaaDoorRRProg.lean LOADS. Nothing in Lean hashes anything: it is a label: what it is worth is what the hold of that sum in a sandbox is worth. -/
noncomputable def Tryd.pinned : Pinned := { name := "ytfdfjlichpjobaadoorrr", sum := "fe5b9bca66090b683c6a025b47b63adda27874a80bce333a1976f4afbbdd7df7", checked := Tryd.checked }
namespace Rows
def none {H : Type} : Left H := { results := [], args := [] }

/- WHAT THE LISTED PACKAGE-LEVEL VARIABLES READ AS WHEN THE CALL BEGINS. Each datum BY PROGRAM (the guide's laid-datum.mjs) off the statement by which the dump's own 'gosem.cut.vars' lays the variable. In a bare row this is a premise. The card (YtfdfjlichpjobaaDoorRRCards.lean) ties it to the program's text. -/
def laid_flong_runes_none {H : Type} : DataW H := .agg [.agg [.lit (.int .i32 768), .lit (.int .i32 879)], .agg [.lit (.int .i32 1155), .lit (.int .i32 1161)], .agg [.lit (.int .i32 1425), .lit (.int .i32 1469)], .agg [.lit (.int .i32 1552), .lit (.int .i32 1562)], .agg [.lit (.int .i32 1611), .lit (.int .i32 1631)], .agg [.lit (.int .i32 6832), .lit (.int .i32 6911)], .agg [.lit (.int .i32 7616), .lit (.int .i32 7679)], .agg [.lit (.int .i32 8203), .lit (.int .i32 8207)], .agg [.lit (.int .i32 8400), .lit (.int .i32 8447)], .agg [.lit (.int .i32 65024), .lit (.int .i32 65039)], .agg [.lit (.int .i32 65056), .lit (.int .i32 65071)], .agg [.lit (.int .i32 917760), .lit (.int .i32 917999)]]
def laid_flong_runes_wide {H : Type} : DataW H := .agg [.agg [.lit (.int .i32 4352), .lit (.int .i32 4447)], .agg [.lit (.int .i32 9001), .lit (.int .i32 9002)], .agg [.lit (.int .i32 11904), .lit (.int .i32 12350)], .agg [.lit (.int .i32 12353), .lit (.int .i32 13311)], .agg [.lit (.int .i32 13312), .lit (.int .i32 19903)], .agg [.lit (.int .i32 19968), .lit (.int .i32 42191)], .agg [.lit (.int .i32 43360), .lit (.int .i32 43391)], .agg [.lit (.int .i32 44032), .lit (.int .i32 55203)], .agg [.lit (.int .i32 63744), .lit (.int .i32 64255)], .agg [.lit (.int .i32 65072), .lit (.int .i32 65135)], .agg [.lit (.int .i32 65280), .lit (.int .i32 65376)], .agg [.lit (.int .i32 65504), .lit (.int .i32 65510)], .agg [.lit (.int .i32 127744), .lit (.int .i32 128591)], .agg [.lit (.int .i32 129280), .lit (.int .i32 129535)], .agg [.lit (.int .i32 131072), .lit (.int .i32 196605)], .agg [.lit (.int .i32 196608), .lit (.int .i32 262141)]]
def laid_flong_fill_blank {H : Type} : DataW H := .agg [.lit (.int .i32 32), .lit (.int .u8 0)]

/-- 'flonglaw12.FillWords': WHATEVER THE INPUT: true; the input reads as it did. -/
def fillWordsSpec : ChangeSpec := { name := "fillWords", fn := fun _ => fun
  | [d1, d2, d3] => { results := [.lit (.bool true)], args := [d1, d2, d3] }
  | _ => none }
def fillWordsRow : OpenClaim := { program := "ytfdfjlichpjobaadoorrr", sum := "fe5b9bca66090b683c6a025b47b63adda27874a80bce333a1976f4afbbdd7df7", func := "flong/flonglaw12.FillWords", spec := "fillWords", unfollowed := true, recurses := true, named := ["flong/runes.none", "flong/runes.wide", "flong/fill.blank"], apart := false, laid := [("flong/runes.none", laid_flong_runes_none), ("flong/runes.wide", laid_flong_runes_wide), ("flong/fill.blank", laid_flong_fill_blank)] }
def FillWordsSaid : Prop := fillWordsRow.holds Tryd.pinned (OpenSpec.ofChange fillWordsSpec)

/-- ITS FALSE NEIGHBOUR: 'it returns false'. Refute it at one input. -/
def fillWordsWrong : ChangeSpec := { name := "fillWords", fn := fun _ => fun
  | [d1, d2, d3] => { results := [.lit (.bool false)], args := [d1, d2, d3] }
  | _ => none }
def FillWordsWrongFalsely : Prop := fillWordsRow.holds Tryd.pinned (OpenSpec.ofChange fillWordsWrong)

/-- 'flonglaw12.FillLines': WHATEVER THE INPUT: true; the input reads as it did. -/
def fillLinesSpec : ChangeSpec := { name := "fillLines", fn := fun _ => fun
  | [d1, d2] => { results := [.lit (.bool true)], args := [d1, d2] }
  | _ => none }
def fillLinesRow : OpenClaim := { program := "ytfdfjlichpjobaadoorrr", sum := "fe5b9bca66090b683c6a025b47b63adda27874a80bce333a1976f4afbbdd7df7", func := "flong/flonglaw12.FillLines", spec := "fillLines", unfollowed := true, recurses := true, named := ["flong/runes.none", "flong/runes.wide", "flong/fill.blank"], apart := false, laid := [("flong/runes.none", laid_flong_runes_none), ("flong/runes.wide", laid_flong_runes_wide), ("flong/fill.blank", laid_flong_fill_blank)] }
def FillLinesSaid : Prop := fillLinesRow.holds Tryd.pinned (OpenSpec.ofChange fillLinesSpec)

/-- ITS FALSE NEIGHBOUR: 'it returns false'. Refute it at one input. -/
def fillLinesWrong : ChangeSpec := { name := "fillLines", fn := fun _ => fun
  | [d1, d2] => { results := [.lit (.bool false)], args := [d1, d2] }
  | _ => none }
def FillLinesWrongFalsely : Prop := fillLinesRow.holds Tryd.pinned (OpenSpec.ofChange fillLinesWrong)

/-- 'flonglaw12.FillKeeps': WHATEVER THE INPUT: true; the input reads as it did. -/
def fillKeepsSpec : ChangeSpec := { name := "fillKeeps", fn := fun _ => fun
  | [d1, d2] => { results := [.lit (.bool true)], args := [d1, d2] }
  | _ => none }
def fillKeepsRow : OpenClaim := { program := "ytfdfjlichpjobaadoorrr", sum := "fe5b9bca66090b683c6a025b47b63adda27874a80bce333a1976f4afbbdd7df7", func := "flong/flonglaw12.FillKeeps", spec := "fillKeeps", unfollowed := true, recurses := true, named := ["flong/runes.none", "flong/runes.wide", "flong/fill.blank"], apart := false, laid := [("flong/runes.none", laid_flong_runes_none), ("flong/runes.wide", laid_flong_runes_wide), ("flong/fill.blank", laid_flong_fill_blank)] }
def FillKeepsSaid : Prop := fillKeepsRow.holds Tryd.pinned (OpenSpec.ofChange fillKeepsSpec)

/-- ITS FALSE NEIGHBOUR: 'it returns false'. Refute it at one input. -/
def fillKeepsWrong : ChangeSpec := { name := "fillKeeps", fn := fun _ => fun
  | [d1, d2] => { results := [.lit (.bool false)], args := [d1, d2] }
  | _ => none }
def FillKeepsWrongFalsely : Prop := fillKeepsRow.holds Tryd.pinned (OpenSpec.ofChange fillKeepsWrong)

/-- 'flonglaw12.FillTexts': WHATEVER THE INPUT: true; the input reads as it did. -/
def fillTextsSpec : ChangeSpec := { name := "fillTexts", fn := fun _ => fun
  | [d1, d2] => { results := [.lit (.bool true)], args := [d1, d2] }
  | _ => none }
def fillTextsRow : OpenClaim := { program := "ytfdfjlichpjobaadoorrr", sum := "fe5b9bca66090b683c6a025b47b63adda27874a80bce333a1976f4afbbdd7df7", func := "flong/flonglaw12.FillTexts", spec := "fillTexts", unfollowed := true, recurses := true, named := ["flong/runes.none", "flong/runes.wide", "flong/fill.blank"], apart := false, laid := [("flong/runes.none", laid_flong_runes_none), ("flong/runes.wide", laid_flong_runes_wide), ("flong/fill.blank", laid_flong_fill_blank)] }
def FillTextsSaid : Prop := fillTextsRow.holds Tryd.pinned (OpenSpec.ofChange fillTextsSpec)

/-- ITS FALSE NEIGHBOUR: 'it returns false'. Refute it at one input. -/
def fillTextsWrong : ChangeSpec := { name := "fillTexts", fn := fun _ => fun
  | [d1, d2] => { results := [.lit (.bool false)], args := [d1, d2] }
  | _ => none }
def FillTextsWrongFalsely : Prop := fillTextsRow.holds Tryd.pinned (OpenSpec.ofChange fillTextsWrong)

/-- 'flonglaw12.FillWider': WHATEVER THE INPUT: true; the input reads as it did. -/
def fillWiderSpec : ChangeSpec := { name := "fillWider", fn := fun _ => fun
  | [d1, d2, d3] => { results := [.lit (.bool true)], args := [d1, d2, d3] }
  | _ => none }
def fillWiderRow : OpenClaim := { program := "ytfdfjlichpjobaadoorrr", sum := "fe5b9bca66090b683c6a025b47b63adda27874a80bce333a1976f4afbbdd7df7", func := "flong/flonglaw12.FillWider", spec := "fillWider", unfollowed := true, recurses := true, named := ["flong/runes.none", "flong/runes.wide", "flong/fill.blank"], apart := false, laid := [("flong/runes.none", laid_flong_runes_none), ("flong/runes.wide", laid_flong_runes_wide), ("flong/fill.blank", laid_flong_fill_blank)] }
def FillWiderSaid : Prop := fillWiderRow.holds Tryd.pinned (OpenSpec.ofChange fillWiderSpec)

/-- ITS FALSE NEIGHBOUR: 'it returns false'. Refute it at one input. -/
def fillWiderWrong : ChangeSpec := { name := "fillWider", fn := fun _ => fun
  | [d1, d2, d3] => { results := [.lit (.bool false)], args := [d1, d2, d3] }
  | _ => none }
def FillWiderWrongFalsely : Prop := fillWiderRow.holds Tryd.pinned (OpenSpec.ofChange fillWiderWrong)

/- THE SECOND FORM. 'bulk': how many values and letters a reading holds, each counted each time it is reached (what is shared counts as often as it is met; a slice's spare places count too). A statement '..UptoSaid' is the law's where the arguments, and the package variables that the reading takes, are together of bulk at most 1048576: NARROWER than '..Said'. Prove '..Said' where nothing that the law and all that it calls make is longer than what came in: it says more and counts as full. Else prove '..UptoSaid'. A law counts once. -/
mutual
def uptoBulk {H : Type} : DataW H → Nat
  | .lit (.string bytes) => bytes.length + 1
  | .lit _ => 1
  | .nil => 1
  | .ptr d => uptoBulk d + 1
  | .slice elems spare => uptoBulkAll elems + uptoBulkAll spare + 1
  | .agg parts => uptoBulkAll parts + 1
  | .iface _ d => uptoBulk d + 1
  | .map entries => uptoBulkEntries entries + 1
  | .held _ => 1
def uptoBulkAll {H : Type} : List (DataW H) → Nat
  | [] => 0
  | d :: r => uptoBulk d + uptoBulkAll r
def uptoBulkEntries {H : Type} : List (Lit × DataW H) → Nat
  | [] => 0
  | x :: r => uptoBulkEntry x + uptoBulkEntries r
def uptoBulkEntry {H : Type} : Lit × DataW H → Nat
  | (.string bytes, d) => bytes.length + uptoBulk d + 1
  | (_, d) => uptoBulk d + 1
 end
def uptoSmall : (H : Type) → List (DataW H) → Bool := fun _ ds => decide (uptoBulkAll ds ≤ 1048576)
def OpenSpec.upto (s : _root_.Go.ChangeSpec) : _root_.Go.OpenSpec := { _root_.Go.OpenSpec.ofChange s with cond := some uptoSmall }

/-- 'flonglaw12.FillWords', WHERE WHAT IT READS IS OF BULK AT MOST 1048576: true; the input reads as it did. -/
def fillWordsUptoRow : OpenClaim := { program := "ytfdfjlichpjobaadoorrr", sum := "fe5b9bca66090b683c6a025b47b63adda27874a80bce333a1976f4afbbdd7df7", func := "flong/flonglaw12.FillWords", spec := "fillWords", unfollowed := true, recurses := true, named := ["flong/runes.none", "flong/runes.wide", "flong/fill.blank"], apart := false, laid := [("flong/runes.none", laid_flong_runes_none), ("flong/runes.wide", laid_flong_runes_wide), ("flong/fill.blank", laid_flong_fill_blank)], narrowed := true }
def FillWordsUptoSaid : Prop := fillWordsUptoRow.holds Tryd.pinned (OpenSpec.upto fillWordsSpec)

/-- 'flonglaw12.FillLines', WHERE WHAT IT READS IS OF BULK AT MOST 1048576: true; the input reads as it did. -/
def fillLinesUptoRow : OpenClaim := { program := "ytfdfjlichpjobaadoorrr", sum := "fe5b9bca66090b683c6a025b47b63adda27874a80bce333a1976f4afbbdd7df7", func := "flong/flonglaw12.FillLines", spec := "fillLines", unfollowed := true, recurses := true, named := ["flong/runes.none", "flong/runes.wide", "flong/fill.blank"], apart := false, laid := [("flong/runes.none", laid_flong_runes_none), ("flong/runes.wide", laid_flong_runes_wide), ("flong/fill.blank", laid_flong_fill_blank)], narrowed := true }
def FillLinesUptoSaid : Prop := fillLinesUptoRow.holds Tryd.pinned (OpenSpec.upto fillLinesSpec)

/-- 'flonglaw12.FillKeeps', WHERE WHAT IT READS IS OF BULK AT MOST 1048576: true; the input reads as it did. -/
def fillKeepsUptoRow : OpenClaim := { program := "ytfdfjlichpjobaadoorrr", sum := "fe5b9bca66090b683c6a025b47b63adda27874a80bce333a1976f4afbbdd7df7", func := "flong/flonglaw12.FillKeeps", spec := "fillKeeps", unfollowed := true, recurses := true, named := ["flong/runes.none", "flong/runes.wide", "flong/fill.blank"], apart := false, laid := [("flong/runes.none", laid_flong_runes_none), ("flong/runes.wide", laid_flong_runes_wide), ("flong/fill.blank", laid_flong_fill_blank)], narrowed := true }
def FillKeepsUptoSaid : Prop := fillKeepsUptoRow.holds Tryd.pinned (OpenSpec.upto fillKeepsSpec)

/-- 'flonglaw12.FillTexts', WHERE WHAT IT READS IS OF BULK AT MOST 1048576: true; the input reads as it did. -/
def fillTextsUptoRow : OpenClaim := { program := "ytfdfjlichpjobaadoorrr", sum := "fe5b9bca66090b683c6a025b47b63adda27874a80bce333a1976f4afbbdd7df7", func := "flong/flonglaw12.FillTexts", spec := "fillTexts", unfollowed := true, recurses := true, named := ["flong/runes.none", "flong/runes.wide", "flong/fill.blank"], apart := false, laid := [("flong/runes.none", laid_flong_runes_none), ("flong/runes.wide", laid_flong_runes_wide), ("flong/fill.blank", laid_flong_fill_blank)], narrowed := true }
def FillTextsUptoSaid : Prop := fillTextsUptoRow.holds Tryd.pinned (OpenSpec.upto fillTextsSpec)

/-- 'flonglaw12.FillWider', WHERE WHAT IT READS IS OF BULK AT MOST 1048576: true; the input reads as it did. -/
def fillWiderUptoRow : OpenClaim := { program := "ytfdfjlichpjobaadoorrr", sum := "fe5b9bca66090b683c6a025b47b63adda27874a80bce333a1976f4afbbdd7df7", func := "flong/flonglaw12.FillWider", spec := "fillWider", unfollowed := true, recurses := true, named := ["flong/runes.none", "flong/runes.wide", "flong/fill.blank"], apart := false, laid := [("flong/runes.none", laid_flong_runes_none), ("flong/runes.wide", laid_flong_runes_wide), ("flong/fill.blank", laid_flong_fill_blank)], narrowed := true }
def FillWiderUptoSaid : Prop := fillWiderUptoRow.holds Tryd.pinned (OpenSpec.upto fillWiderSpec)

end Rows
end Go.Proofs.YtfdfjlichpjobaaDoorRR
