/-
  DERIVED. GIVEN WITH THE SEED: THE CARDS: each row of YtdcbaefcgghbmaaDoorRows.lean that lists a variable, with what it lists TIED to the program's text (the seventh form; the later family's looks); each row that meets fmt, with fmt's text TOLD by the authors' own Lean function (tested against real Go, not proved from fmt's source: count such statements apart). THE CARD IS WHAT COUNTS. Prove the row's statement (the work); the ties are given (YtdcbaefcgghbmaaDoorTie.lean); close each card by the builder's one call (the guide's Derived/Test/ToyasCard.lean, 'card_holds'). Laid BY PROGRAM, IN A SANDBOX (cutbox-door.mjs). By AI agents, Wed Nov 11 2026. No macro, syntax, notation, axiom, sorry.
-/
import Derived.Test.YtdcbaefcgghbmaaDoorRows
import GoSem.ClaimSeven
namespace Go.Proofs.YtdcbaefcgghbmaaDoor
namespace Rows

/-- THE TIED CARD OF 'flonglaw03.CellsClean'. -/
def cellsCleanCard : Claim7 := { stood := { row := cellsCleanRow, standIns := [], harness := (true, "81715150608f7f5c38ab1889f33b945a0e6b674bafde746c90a040412e61c45c"), looks := false }, kinds := [], alts := [], laidByText := true, laidKinds := [.widerDeep, .widerDeep], laidTests := true, laidLooks := .later }
def CellsCleanCardSaid : Prop := Claim7.holds Tryd.pinned (.plain (OpenSpec.ofChange cellsCleanSpec)) cellsCleanCard

/-- THE TIED CARD OF 'flonglaw03.CellsSame'. -/
def cellsSameCard : Claim7 := { stood := { row := cellsSameRow, standIns := [], harness := (true, "81715150608f7f5c38ab1889f33b945a0e6b674bafde746c90a040412e61c45c"), looks := false }, kinds := [], alts := [], laidByText := true, laidKinds := [.widerDeep, .widerDeep], laidTests := true, laidLooks := .later }
def CellsSameCardSaid : Prop := Claim7.holds Tryd.pinned (.plain (OpenSpec.ofChange cellsSameSpec)) cellsSameCard

/-- THE TIED CARD OF 'flonglaw03.CellsWhole'. -/
def cellsWholeCard : Claim7 := { stood := { row := cellsWholeRow, standIns := [], harness := (true, "81715150608f7f5c38ab1889f33b945a0e6b674bafde746c90a040412e61c45c"), looks := false }, kinds := [], alts := [], laidByText := true, laidKinds := [.widerDeep, .widerDeep, .data], laidTests := true, laidLooks := .later }
def CellsWholeCardSaid : Prop := Claim7.holds Tryd.pinned (.plain (OpenSpec.ofChange cellsWholeSpec)) cellsWholeCard

/-- THE TIED CARD OF 'flonglaw03.CellsTrims'. -/
def cellsTrimsCard : Claim7 := { stood := { row := cellsTrimsRow, standIns := [], harness := (true, "81715150608f7f5c38ab1889f33b945a0e6b674bafde746c90a040412e61c45c"), looks := false }, kinds := [], alts := [], laidByText := true, laidKinds := [.widerDeep, .widerDeep, .data], laidTests := true, laidLooks := .later }
def CellsTrimsCardSaid : Prop := Claim7.holds Tryd.pinned (.plain (OpenSpec.ofChange cellsTrimsSpec)) cellsTrimsCard

/-- THE TIED CARD OF 'flonglaw03.CellsTexts'. -/
def cellsTextsCard : Claim7 := { stood := { row := cellsTextsRow, standIns := [], harness := (true, "81715150608f7f5c38ab1889f33b945a0e6b674bafde746c90a040412e61c45c"), looks := false }, kinds := [], alts := [], laidByText := true, laidKinds := [.widerDeep, .widerDeep], laidTests := true, laidLooks := .later }
def CellsTextsCardSaid : Prop := Claim7.holds Tryd.pinned (.plain (OpenSpec.ofChange cellsTextsSpec)) cellsTextsCard

/-- THE TIED CARD OF 'flonglaw03.CellsJoins'. -/
def cellsJoinsCard : Claim7 := { stood := { row := cellsJoinsRow, standIns := [], harness := (true, "81715150608f7f5c38ab1889f33b945a0e6b674bafde746c90a040412e61c45c"), looks := false }, kinds := [], alts := [], laidByText := true, laidKinds := [.widerDeep, .widerDeep], laidTests := true, laidLooks := .later }
def CellsJoinsCardSaid : Prop := Claim7.holds Tryd.pinned (.plain (OpenSpec.ofChange cellsJoinsSpec)) cellsJoinsCard

/-- THE TIED CARD OF 'flonglaw03.CellsRows'. -/
def cellsRowsCard : Claim7 := { stood := { row := cellsRowsRow, standIns := [], harness := (true, "81715150608f7f5c38ab1889f33b945a0e6b674bafde746c90a040412e61c45c"), looks := false }, kinds := [], alts := [], laidByText := true, laidKinds := [.widerDeep, .widerDeep, .data], laidTests := true, laidLooks := .later }
def CellsRowsCardSaid : Prop := Claim7.holds Tryd.pinned (.plain (OpenSpec.ofChange cellsRowsSpec)) cellsRowsCard

/-- THE SECOND FORM's CARD OF 'flonglaw03.CellsClean'. -/
def cellsCleanUptoCard : Claim7 := { stood := { row := cellsCleanUptoRow, standIns := [], harness := (true, "81715150608f7f5c38ab1889f33b945a0e6b674bafde746c90a040412e61c45c"), looks := false }, kinds := [], alts := [], laidByText := true, laidKinds := [.widerDeep, .widerDeep], laidTests := true, laidLooks := .later }
def CellsCleanUptoCardSaid : Prop := Claim7.holds Tryd.pinned (.plain (OpenSpec.upto cellsCleanSpec)) cellsCleanUptoCard

/-- THE SECOND FORM's CARD OF 'flonglaw03.CellsSame'. -/
def cellsSameUptoCard : Claim7 := { stood := { row := cellsSameUptoRow, standIns := [], harness := (true, "81715150608f7f5c38ab1889f33b945a0e6b674bafde746c90a040412e61c45c"), looks := false }, kinds := [], alts := [], laidByText := true, laidKinds := [.widerDeep, .widerDeep], laidTests := true, laidLooks := .later }
def CellsSameUptoCardSaid : Prop := Claim7.holds Tryd.pinned (.plain (OpenSpec.upto cellsSameSpec)) cellsSameUptoCard

/-- THE SECOND FORM's CARD OF 'flonglaw03.CellsWhole'. -/
def cellsWholeUptoCard : Claim7 := { stood := { row := cellsWholeUptoRow, standIns := [], harness := (true, "81715150608f7f5c38ab1889f33b945a0e6b674bafde746c90a040412e61c45c"), looks := false }, kinds := [], alts := [], laidByText := true, laidKinds := [.widerDeep, .widerDeep, .data], laidTests := true, laidLooks := .later }
def CellsWholeUptoCardSaid : Prop := Claim7.holds Tryd.pinned (.plain (OpenSpec.upto cellsWholeSpec)) cellsWholeUptoCard

/-- THE SECOND FORM's CARD OF 'flonglaw03.CellsTrims'. -/
def cellsTrimsUptoCard : Claim7 := { stood := { row := cellsTrimsUptoRow, standIns := [], harness := (true, "81715150608f7f5c38ab1889f33b945a0e6b674bafde746c90a040412e61c45c"), looks := false }, kinds := [], alts := [], laidByText := true, laidKinds := [.widerDeep, .widerDeep, .data], laidTests := true, laidLooks := .later }
def CellsTrimsUptoCardSaid : Prop := Claim7.holds Tryd.pinned (.plain (OpenSpec.upto cellsTrimsSpec)) cellsTrimsUptoCard

/-- THE SECOND FORM's CARD OF 'flonglaw03.CellsTexts'. -/
def cellsTextsUptoCard : Claim7 := { stood := { row := cellsTextsUptoRow, standIns := [], harness := (true, "81715150608f7f5c38ab1889f33b945a0e6b674bafde746c90a040412e61c45c"), looks := false }, kinds := [], alts := [], laidByText := true, laidKinds := [.widerDeep, .widerDeep], laidTests := true, laidLooks := .later }
def CellsTextsUptoCardSaid : Prop := Claim7.holds Tryd.pinned (.plain (OpenSpec.upto cellsTextsSpec)) cellsTextsUptoCard

/-- THE SECOND FORM's CARD OF 'flonglaw03.CellsJoins'. -/
def cellsJoinsUptoCard : Claim7 := { stood := { row := cellsJoinsUptoRow, standIns := [], harness := (true, "81715150608f7f5c38ab1889f33b945a0e6b674bafde746c90a040412e61c45c"), looks := false }, kinds := [], alts := [], laidByText := true, laidKinds := [.widerDeep, .widerDeep], laidTests := true, laidLooks := .later }
def CellsJoinsUptoCardSaid : Prop := Claim7.holds Tryd.pinned (.plain (OpenSpec.upto cellsJoinsSpec)) cellsJoinsUptoCard

/-- THE SECOND FORM's CARD OF 'flonglaw03.CellsRows'. -/
def cellsRowsUptoCard : Claim7 := { stood := { row := cellsRowsUptoRow, standIns := [], harness := (true, "81715150608f7f5c38ab1889f33b945a0e6b674bafde746c90a040412e61c45c"), looks := false }, kinds := [], alts := [], laidByText := true, laidKinds := [.widerDeep, .widerDeep, .data], laidTests := true, laidLooks := .later }
def CellsRowsUptoCardSaid : Prop := Claim7.holds Tryd.pinned (.plain (OpenSpec.upto cellsRowsSpec)) cellsRowsUptoCard
end Rows
end Go.Proofs.YtdcbaefcgghbmaaDoor
