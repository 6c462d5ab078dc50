/-
  DERIVED. GIVEN WITH THE SEED: THE CARDS: each row of YtadejblahbebdaaDoorRows.lean that lists a variable, with what it lists TIED to the program's text (the seventh form; the later family's looks); each row that meets fmt, with fmt's text TOLD by the authors' own Lean function (tested against real Go, not proved from fmt's source: count such statements apart). THE CARD IS WHAT COUNTS. Prove the row's statement (the work); the ties are given (YtadejblahbebdaaDoorTie.lean); close each card by the builder's one call (the guide's Derived/Test/ToyasCard.lean, 'card_holds'). Laid BY PROGRAM, IN A SANDBOX (cutbox-door.mjs). By AI agents, Wed Nov 11 2026. No macro, syntax, notation, axiom, sorry.
-/
import Derived.Test.YtadejblahbebdaaDoorRows
import GoSem.ClaimSeven
namespace Go.Proofs.YtadejblahbebdaaDoor
namespace Rows

/-- THE TIED CARD OF 'flonglaw17.PlainWrites'. -/
def plainWritesCard : Claim7 := { stood := { row := plainWritesRow, standIns := [], harness := (true, "314088a893209837418668a481c8cd373652c6ec070da66bf4fd1eb24ef8cc6a"), looks := false }, kinds := [], alts := [], laidByText := true, laidKinds := [.widerDeep, .widerDeep, .data], laidTests := true, laidLooks := .later }
def PlainWritesCardSaid : Prop := Claim7.holds Tryd.pinned (.plain (OpenSpec.ofChange plainWritesSpec)) plainWritesCard

/-- THE TIED CARD OF 'flonglaw17.PlainNormal'. -/
def plainNormalCard : Claim7 := { stood := { row := plainNormalRow, standIns := [], harness := (true, "314088a893209837418668a481c8cd373652c6ec070da66bf4fd1eb24ef8cc6a"), looks := false }, kinds := [], alts := [], laidByText := true, laidKinds := [.widerDeep, .widerDeep, .data], laidTests := true, laidLooks := .later }
def PlainNormalCardSaid : Prop := Claim7.holds Tryd.pinned (.plain (OpenSpec.ofChange plainNormalSpec)) plainNormalCard

/-- THE TIED CARD OF 'flonglaw17.PlainWidths'. -/
def plainWidthsCard : Claim7 := { stood := { row := plainWidthsRow, standIns := [], harness := (true, "314088a893209837418668a481c8cd373652c6ec070da66bf4fd1eb24ef8cc6a"), looks := false }, kinds := [], alts := [], laidByText := true, laidKinds := [.widerDeep, .widerDeep, .data], laidTests := true, laidLooks := .later }
def PlainWidthsCardSaid : Prop := Claim7.holds Tryd.pinned (.plain (OpenSpec.ofChange plainWidthsSpec)) plainWidthsCard

/-- THE TIED CARD OF 'flonglaw17.PlainJoins'. -/
def plainJoinsCard : Claim7 := { stood := { row := plainJoinsRow, standIns := [], harness := (true, "314088a893209837418668a481c8cd373652c6ec070da66bf4fd1eb24ef8cc6a"), looks := false }, kinds := [], alts := [], laidByText := true, laidKinds := [.widerDeep, .widerDeep, .data], laidTests := true, laidLooks := .later }
def PlainJoinsCardSaid : Prop := Claim7.holds Tryd.pinned (.plain (OpenSpec.ofChange plainJoinsSpec)) plainJoinsCard

/-- THE TIED CARD OF 'flonglaw17.PlainBack'. -/
def plainBackCard : Claim7 := { stood := { row := plainBackRow, standIns := [], harness := (true, "314088a893209837418668a481c8cd373652c6ec070da66bf4fd1eb24ef8cc6a"), looks := false }, kinds := [], alts := [], laidByText := true, laidKinds := [.widerDeep, .widerDeep, .data, .data, .pinned], laidTests := true, laidLooks := .later }
def PlainBackCardSaid : Prop := Claim7.holds Tryd.pinned (.plain (OpenSpec.ofChange plainBackSpec)) plainBackCard

/-- THE TIED CARD OF 'flonglaw17.PlainKeeps'. -/
def plainKeepsCard : Claim7 := { stood := { row := plainKeepsRow, standIns := [], harness := (true, "314088a893209837418668a481c8cd373652c6ec070da66bf4fd1eb24ef8cc6a"), looks := false }, kinds := [], alts := [], laidByText := true, laidKinds := [.widerDeep, .widerDeep, .data, .data, .pinned], laidTests := true, laidLooks := .later }
def PlainKeepsCardSaid : Prop := Claim7.holds Tryd.pinned (.plain (OpenSpec.ofChange plainKeepsSpec)) plainKeepsCard

/-- THE TIED CARD OF 'flonglaw17.PlainReads'. -/
def plainReadsCard : Claim7 := { stood := { row := plainReadsRow, standIns := [], harness := (true, "314088a893209837418668a481c8cd373652c6ec070da66bf4fd1eb24ef8cc6a"), looks := false }, kinds := [], alts := [], laidByText := true, laidKinds := [.widerDeep, .widerDeep, .data, .data, .pinned], laidTests := true, laidLooks := .later }
def PlainReadsCardSaid : Prop := Claim7.holds Tryd.pinned (.plain (OpenSpec.ofChange plainReadsSpec)) plainReadsCard

/-- THE SECOND FORM's CARD OF 'flonglaw17.PlainWrites'. -/
def plainWritesUptoCard : Claim7 := { stood := { row := plainWritesUptoRow, standIns := [], harness := (true, "314088a893209837418668a481c8cd373652c6ec070da66bf4fd1eb24ef8cc6a"), looks := false }, kinds := [], alts := [], laidByText := true, laidKinds := [.widerDeep, .widerDeep, .data], laidTests := true, laidLooks := .later }
def PlainWritesUptoCardSaid : Prop := Claim7.holds Tryd.pinned (.plain (OpenSpec.upto plainWritesSpec)) plainWritesUptoCard

/-- THE SECOND FORM's CARD OF 'flonglaw17.PlainNormal'. -/
def plainNormalUptoCard : Claim7 := { stood := { row := plainNormalUptoRow, standIns := [], harness := (true, "314088a893209837418668a481c8cd373652c6ec070da66bf4fd1eb24ef8cc6a"), looks := false }, kinds := [], alts := [], laidByText := true, laidKinds := [.widerDeep, .widerDeep, .data], laidTests := true, laidLooks := .later }
def PlainNormalUptoCardSaid : Prop := Claim7.holds Tryd.pinned (.plain (OpenSpec.upto plainNormalSpec)) plainNormalUptoCard

/-- THE SECOND FORM's CARD OF 'flonglaw17.PlainWidths'. -/
def plainWidthsUptoCard : Claim7 := { stood := { row := plainWidthsUptoRow, standIns := [], harness := (true, "314088a893209837418668a481c8cd373652c6ec070da66bf4fd1eb24ef8cc6a"), looks := false }, kinds := [], alts := [], laidByText := true, laidKinds := [.widerDeep, .widerDeep, .data], laidTests := true, laidLooks := .later }
def PlainWidthsUptoCardSaid : Prop := Claim7.holds Tryd.pinned (.plain (OpenSpec.upto plainWidthsSpec)) plainWidthsUptoCard

/-- THE SECOND FORM's CARD OF 'flonglaw17.PlainJoins'. -/
def plainJoinsUptoCard : Claim7 := { stood := { row := plainJoinsUptoRow, standIns := [], harness := (true, "314088a893209837418668a481c8cd373652c6ec070da66bf4fd1eb24ef8cc6a"), looks := false }, kinds := [], alts := [], laidByText := true, laidKinds := [.widerDeep, .widerDeep, .data], laidTests := true, laidLooks := .later }
def PlainJoinsUptoCardSaid : Prop := Claim7.holds Tryd.pinned (.plain (OpenSpec.upto plainJoinsSpec)) plainJoinsUptoCard

/-- THE SECOND FORM's CARD OF 'flonglaw17.PlainBack'. -/
def plainBackUptoCard : Claim7 := { stood := { row := plainBackUptoRow, standIns := [], harness := (true, "314088a893209837418668a481c8cd373652c6ec070da66bf4fd1eb24ef8cc6a"), looks := false }, kinds := [], alts := [], laidByText := true, laidKinds := [.widerDeep, .widerDeep, .data, .data, .pinned], laidTests := true, laidLooks := .later }
def PlainBackUptoCardSaid : Prop := Claim7.holds Tryd.pinned (.plain (OpenSpec.upto plainBackSpec)) plainBackUptoCard

/-- THE SECOND FORM's CARD OF 'flonglaw17.PlainKeeps'. -/
def plainKeepsUptoCard : Claim7 := { stood := { row := plainKeepsUptoRow, standIns := [], harness := (true, "314088a893209837418668a481c8cd373652c6ec070da66bf4fd1eb24ef8cc6a"), looks := false }, kinds := [], alts := [], laidByText := true, laidKinds := [.widerDeep, .widerDeep, .data, .data, .pinned], laidTests := true, laidLooks := .later }
def PlainKeepsUptoCardSaid : Prop := Claim7.holds Tryd.pinned (.plain (OpenSpec.upto plainKeepsSpec)) plainKeepsUptoCard

/-- THE SECOND FORM's CARD OF 'flonglaw17.PlainReads'. -/
def plainReadsUptoCard : Claim7 := { stood := { row := plainReadsUptoRow, standIns := [], harness := (true, "314088a893209837418668a481c8cd373652c6ec070da66bf4fd1eb24ef8cc6a"), looks := false }, kinds := [], alts := [], laidByText := true, laidKinds := [.widerDeep, .widerDeep, .data, .data, .pinned], laidTests := true, laidLooks := .later }
def PlainReadsUptoCardSaid : Prop := Claim7.holds Tryd.pinned (.plain (OpenSpec.upto plainReadsSpec)) plainReadsUptoCard
end Rows
end Go.Proofs.YtadejblahbebdaaDoor
