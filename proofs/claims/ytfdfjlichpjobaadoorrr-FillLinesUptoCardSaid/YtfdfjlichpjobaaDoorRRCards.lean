/-
  DERIVED. GIVEN WITH THE SEED: THE CARDS: each row of YtfdfjlichpjobaaDoorRRRows.lean that lists a variable, with what it lists TIED to the program's text (the seventh form; the later family's looks); each row that meets fmt, with fmt's text TOLD by the authors' own Lean function (tested against real Go, not proved from fmt's source: count such statements apart). THE CARD IS WHAT COUNTS. Prove the row's statement (the work); the ties are given (YtfdfjlichpjobaaDoorRRTie.lean); close each card by the builder's one call (the guide's Derived/Test/ToyasCard.lean, 'card_holds'). Laid BY PROGRAM, IN A SANDBOX (cutbox-door.mjs). By AI agents, Wed Nov 11 2026. No macro, syntax, notation, axiom, sorry.
-/
import Derived.Test.YtfdfjlichpjobaaDoorRRRows
import GoSem.ClaimSeven
namespace Go.Proofs.YtfdfjlichpjobaaDoorRR
namespace Rows

/-- THE TIED CARD OF 'flonglaw12.FillWords'. -/
def fillWordsCard : Claim7 := { stood := { row := fillWordsRow, standIns := [], harness := (true, "7ebe640b10f5ab5a9b12758b48af1f43f49551b9942c7ae802d519edc91250cb"), looks := false }, kinds := [], alts := [], laidByText := true, laidKinds := [.widerDeep, .widerDeep, .data], laidTests := true, laidLooks := .later }
def FillWordsCardSaid : Prop := Claim7.holds Tryd.pinned (.plain (OpenSpec.ofChange fillWordsSpec)) fillWordsCard

/-- THE TIED CARD OF 'flonglaw12.FillLines'. -/
def fillLinesCard : Claim7 := { stood := { row := fillLinesRow, standIns := [], harness := (true, "7ebe640b10f5ab5a9b12758b48af1f43f49551b9942c7ae802d519edc91250cb"), looks := false }, kinds := [], alts := [], laidByText := true, laidKinds := [.widerDeep, .widerDeep, .data], laidTests := true, laidLooks := .later }
def FillLinesCardSaid : Prop := Claim7.holds Tryd.pinned (.plain (OpenSpec.ofChange fillLinesSpec)) fillLinesCard

/-- THE TIED CARD OF 'flonglaw12.FillKeeps'. -/
def fillKeepsCard : Claim7 := { stood := { row := fillKeepsRow, standIns := [], harness := (true, "7ebe640b10f5ab5a9b12758b48af1f43f49551b9942c7ae802d519edc91250cb"), looks := false }, kinds := [], alts := [], laidByText := true, laidKinds := [.widerDeep, .widerDeep, .data], laidTests := true, laidLooks := .later }
def FillKeepsCardSaid : Prop := Claim7.holds Tryd.pinned (.plain (OpenSpec.ofChange fillKeepsSpec)) fillKeepsCard

/-- THE TIED CARD OF 'flonglaw12.FillTexts'. -/
def fillTextsCard : Claim7 := { stood := { row := fillTextsRow, standIns := [], harness := (true, "7ebe640b10f5ab5a9b12758b48af1f43f49551b9942c7ae802d519edc91250cb"), looks := false }, kinds := [], alts := [], laidByText := true, laidKinds := [.widerDeep, .widerDeep, .data], laidTests := true, laidLooks := .later }
def FillTextsCardSaid : Prop := Claim7.holds Tryd.pinned (.plain (OpenSpec.ofChange fillTextsSpec)) fillTextsCard

/-- THE TIED CARD OF 'flonglaw12.FillWider'. -/
def fillWiderCard : Claim7 := { stood := { row := fillWiderRow, standIns := [], harness := (true, "7ebe640b10f5ab5a9b12758b48af1f43f49551b9942c7ae802d519edc91250cb"), looks := false }, kinds := [], alts := [], laidByText := true, laidKinds := [.widerDeep, .widerDeep, .data], laidTests := true, laidLooks := .later }
def FillWiderCardSaid : Prop := Claim7.holds Tryd.pinned (.plain (OpenSpec.ofChange fillWiderSpec)) fillWiderCard

/-- THE SECOND FORM's CARD OF 'flonglaw12.FillWords'. -/
def fillWordsUptoCard : Claim7 := { stood := { row := fillWordsUptoRow, standIns := [], harness := (true, "7ebe640b10f5ab5a9b12758b48af1f43f49551b9942c7ae802d519edc91250cb"), looks := false }, kinds := [], alts := [], laidByText := true, laidKinds := [.widerDeep, .widerDeep, .data], laidTests := true, laidLooks := .later }
def FillWordsUptoCardSaid : Prop := Claim7.holds Tryd.pinned (.plain (OpenSpec.upto fillWordsSpec)) fillWordsUptoCard

/-- THE SECOND FORM's CARD OF 'flonglaw12.FillLines'. -/
def fillLinesUptoCard : Claim7 := { stood := { row := fillLinesUptoRow, standIns := [], harness := (true, "7ebe640b10f5ab5a9b12758b48af1f43f49551b9942c7ae802d519edc91250cb"), looks := false }, kinds := [], alts := [], laidByText := true, laidKinds := [.widerDeep, .widerDeep, .data], laidTests := true, laidLooks := .later }
def FillLinesUptoCardSaid : Prop := Claim7.holds Tryd.pinned (.plain (OpenSpec.upto fillLinesSpec)) fillLinesUptoCard

/-- THE SECOND FORM's CARD OF 'flonglaw12.FillKeeps'. -/
def fillKeepsUptoCard : Claim7 := { stood := { row := fillKeepsUptoRow, standIns := [], harness := (true, "7ebe640b10f5ab5a9b12758b48af1f43f49551b9942c7ae802d519edc91250cb"), looks := false }, kinds := [], alts := [], laidByText := true, laidKinds := [.widerDeep, .widerDeep, .data], laidTests := true, laidLooks := .later }
def FillKeepsUptoCardSaid : Prop := Claim7.holds Tryd.pinned (.plain (OpenSpec.upto fillKeepsSpec)) fillKeepsUptoCard

/-- THE SECOND FORM's CARD OF 'flonglaw12.FillTexts'. -/
def fillTextsUptoCard : Claim7 := { stood := { row := fillTextsUptoRow, standIns := [], harness := (true, "7ebe640b10f5ab5a9b12758b48af1f43f49551b9942c7ae802d519edc91250cb"), looks := false }, kinds := [], alts := [], laidByText := true, laidKinds := [.widerDeep, .widerDeep, .data], laidTests := true, laidLooks := .later }
def FillTextsUptoCardSaid : Prop := Claim7.holds Tryd.pinned (.plain (OpenSpec.upto fillTextsSpec)) fillTextsUptoCard

/-- THE SECOND FORM's CARD OF 'flonglaw12.FillWider'. -/
def fillWiderUptoCard : Claim7 := { stood := { row := fillWiderUptoRow, standIns := [], harness := (true, "7ebe640b10f5ab5a9b12758b48af1f43f49551b9942c7ae802d519edc91250cb"), looks := false }, kinds := [], alts := [], laidByText := true, laidKinds := [.widerDeep, .widerDeep, .data], laidTests := true, laidLooks := .later }
def FillWiderUptoCardSaid : Prop := Claim7.holds Tryd.pinned (.plain (OpenSpec.upto fillWiderSpec)) fillWiderUptoCard
end Rows
end Go.Proofs.YtfdfjlichpjobaaDoorRR
