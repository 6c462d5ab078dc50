/-
  DERIVED. GIVEN WITH THE SEED: THE CARDS: each row of YtmfkokjbjmahkaaDoorRows.lean that lists a variable, with what it lists TIED to the program's text (the seventh form; the later family's looks); each row that meets fmt, with fmt's text TOLD by the authors' own Lean function (tested against real Go, not proved from fmt's source: count such statements apart). THE CARD IS WHAT COUNTS. Prove the row's statement (the work); the ties are given (YtmfkokjbjmahkaaDoorTie.lean); close each card by the builder's one call (the guide's Derived/Test/ToyasCard.lean, 'card_holds'). Laid BY PROGRAM, IN A SANDBOX (cutbox-door.mjs). By AI agents, Wed Nov 11 2026. No macro, syntax, notation, axiom, sorry.
-/
import Derived.Test.YtmfkokjbjmahkaaDoorRows
import GoSem.ClaimSeven
namespace Go.Proofs.YtmfkokjbjmahkaaDoor
namespace Rows

/-- THE TIED CARD OF 'flonglaw05.LinesArgs'. -/
def linesArgsCard : Claim7 := { stood := { row := linesArgsRow, standIns := [], harness := (true, "8f538eea5cdc7419f97d1b89b429aa574586bdd9def490e5a5f8dbd6f1485be2"), looks := false }, kinds := [], alts := [], laidByText := true, laidKinds := [.data, .pinned], laidTests := true, laidLooks := .later }
def LinesArgsCardSaid : Prop := Claim7.holds Tryd.pinned (.plain (OpenSpec.ofChange linesArgsSpec)) linesArgsCard

/-- THE TIED CARD OF 'flonglaw05.LinesQuoted'. -/
def linesQuotedCard : Claim7 := { stood := { row := linesQuotedRow, standIns := [], harness := (true, "8f538eea5cdc7419f97d1b89b429aa574586bdd9def490e5a5f8dbd6f1485be2"), looks := false }, kinds := [], alts := [], laidByText := true, laidKinds := [.data, .pinned], laidTests := true, laidLooks := .later }
def LinesQuotedCardSaid : Prop := Claim7.holds Tryd.pinned (.plain (OpenSpec.ofChange linesQuotedSpec)) linesQuotedCard

/-- THE TIED CARD OF 'flonglaw05.LinesOrder'. -/
def linesOrderCard : Claim7 := { stood := { row := linesOrderRow, standIns := [], harness := (true, "8f538eea5cdc7419f97d1b89b429aa574586bdd9def490e5a5f8dbd6f1485be2"), looks := false }, kinds := [], alts := [], laidByText := true, laidKinds := [.data, .pinned], laidTests := true, laidLooks := .later }
def LinesOrderCardSaid : Prop := Claim7.holds Tryd.pinned (.plain (OpenSpec.ofChange linesOrderSpec)) linesOrderCard

/-- THE TIED CARD OF 'flonglaw05.LinesGoesOn'. -/
def linesGoesOnCard : Claim7 := { stood := { row := linesGoesOnRow, standIns := [], harness := (true, "8f538eea5cdc7419f97d1b89b429aa574586bdd9def490e5a5f8dbd6f1485be2"), looks := false }, kinds := [], alts := [], laidByText := true, laidKinds := [.data, .pinned], laidTests := true, laidLooks := .later }
def LinesGoesOnCardSaid : Prop := Claim7.holds Tryd.pinned (.plain (OpenSpec.ofChange linesGoesOnSpec)) linesGoesOnCard

/-- THE TIED CARD OF 'flonglaw05.LinesNotes'. -/
def linesNotesCard : Claim7 := { stood := { row := linesNotesRow, standIns := [], harness := (true, "8f538eea5cdc7419f97d1b89b429aa574586bdd9def490e5a5f8dbd6f1485be2"), looks := false }, kinds := [], alts := [], laidByText := true, laidKinds := [.data, .pinned], laidTests := true, laidLooks := .later }
def LinesNotesCardSaid : Prop := Claim7.holds Tryd.pinned (.plain (OpenSpec.ofChange linesNotesSpec)) linesNotesCard

/-- THE TIED CARD OF 'flonglaw05.LinesMacros'. -/
def linesMacrosCard : Claim7 := { stood := { row := linesMacrosRow, standIns := [], harness := (true, "8f538eea5cdc7419f97d1b89b429aa574586bdd9def490e5a5f8dbd6f1485be2"), looks := false }, kinds := [], alts := [], laidByText := true, laidKinds := [.data, .pinned], laidTests := true, laidLooks := .later }
def LinesMacrosCardSaid : Prop := Claim7.holds Tryd.pinned (.plain (OpenSpec.ofChange linesMacrosSpec)) linesMacrosCard

/-- THE TIED CARD OF 'flonglaw05.LinesBack'. -/
def linesBackCard : Claim7 := { stood := { row := linesBackRow, standIns := [], harness := (true, "8f538eea5cdc7419f97d1b89b429aa574586bdd9def490e5a5f8dbd6f1485be2"), looks := false }, kinds := [], alts := [], laidByText := true, laidKinds := [.data, .pinned], laidTests := true, laidLooks := .later }
def LinesBackCardSaid : Prop := Claim7.holds Tryd.pinned (.plain (OpenSpec.ofChange linesBackSpec)) linesBackCard

/-- THE TIED CARD OF 'flonglaw05.LinesWrites'. -/
def linesWritesCard : Claim7 := { stood := { row := linesWritesRow, standIns := [], harness := (true, "8f538eea5cdc7419f97d1b89b429aa574586bdd9def490e5a5f8dbd6f1485be2"), looks := false }, kinds := [], alts := [], laidByText := true, laidKinds := [.data, .pinned], laidTests := true, laidLooks := .later }
def LinesWritesCardSaid : Prop := Claim7.holds Tryd.pinned (.plain (OpenSpec.ofChange linesWritesSpec)) linesWritesCard

/-- THE SECOND FORM's CARD OF 'flonglaw05.LinesArgs'. -/
def linesArgsUptoCard : Claim7 := { stood := { row := linesArgsUptoRow, standIns := [], harness := (true, "8f538eea5cdc7419f97d1b89b429aa574586bdd9def490e5a5f8dbd6f1485be2"), looks := false }, kinds := [], alts := [], laidByText := true, laidKinds := [.data, .pinned], laidTests := true, laidLooks := .later }
def LinesArgsUptoCardSaid : Prop := Claim7.holds Tryd.pinned (.plain (OpenSpec.upto linesArgsSpec)) linesArgsUptoCard

/-- THE SECOND FORM's CARD OF 'flonglaw05.LinesQuoted'. -/
def linesQuotedUptoCard : Claim7 := { stood := { row := linesQuotedUptoRow, standIns := [], harness := (true, "8f538eea5cdc7419f97d1b89b429aa574586bdd9def490e5a5f8dbd6f1485be2"), looks := false }, kinds := [], alts := [], laidByText := true, laidKinds := [.data, .pinned], laidTests := true, laidLooks := .later }
def LinesQuotedUptoCardSaid : Prop := Claim7.holds Tryd.pinned (.plain (OpenSpec.upto linesQuotedSpec)) linesQuotedUptoCard

/-- THE SECOND FORM's CARD OF 'flonglaw05.LinesOrder'. -/
def linesOrderUptoCard : Claim7 := { stood := { row := linesOrderUptoRow, standIns := [], harness := (true, "8f538eea5cdc7419f97d1b89b429aa574586bdd9def490e5a5f8dbd6f1485be2"), looks := false }, kinds := [], alts := [], laidByText := true, laidKinds := [.data, .pinned], laidTests := true, laidLooks := .later }
def LinesOrderUptoCardSaid : Prop := Claim7.holds Tryd.pinned (.plain (OpenSpec.upto linesOrderSpec)) linesOrderUptoCard

/-- THE SECOND FORM's CARD OF 'flonglaw05.LinesGoesOn'. -/
def linesGoesOnUptoCard : Claim7 := { stood := { row := linesGoesOnUptoRow, standIns := [], harness := (true, "8f538eea5cdc7419f97d1b89b429aa574586bdd9def490e5a5f8dbd6f1485be2"), looks := false }, kinds := [], alts := [], laidByText := true, laidKinds := [.data, .pinned], laidTests := true, laidLooks := .later }
def LinesGoesOnUptoCardSaid : Prop := Claim7.holds Tryd.pinned (.plain (OpenSpec.upto linesGoesOnSpec)) linesGoesOnUptoCard

/-- THE SECOND FORM's CARD OF 'flonglaw05.LinesNotes'. -/
def linesNotesUptoCard : Claim7 := { stood := { row := linesNotesUptoRow, standIns := [], harness := (true, "8f538eea5cdc7419f97d1b89b429aa574586bdd9def490e5a5f8dbd6f1485be2"), looks := false }, kinds := [], alts := [], laidByText := true, laidKinds := [.data, .pinned], laidTests := true, laidLooks := .later }
def LinesNotesUptoCardSaid : Prop := Claim7.holds Tryd.pinned (.plain (OpenSpec.upto linesNotesSpec)) linesNotesUptoCard

/-- THE SECOND FORM's CARD OF 'flonglaw05.LinesMacros'. -/
def linesMacrosUptoCard : Claim7 := { stood := { row := linesMacrosUptoRow, standIns := [], harness := (true, "8f538eea5cdc7419f97d1b89b429aa574586bdd9def490e5a5f8dbd6f1485be2"), looks := false }, kinds := [], alts := [], laidByText := true, laidKinds := [.data, .pinned], laidTests := true, laidLooks := .later }
def LinesMacrosUptoCardSaid : Prop := Claim7.holds Tryd.pinned (.plain (OpenSpec.upto linesMacrosSpec)) linesMacrosUptoCard

/-- THE SECOND FORM's CARD OF 'flonglaw05.LinesBack'. -/
def linesBackUptoCard : Claim7 := { stood := { row := linesBackUptoRow, standIns := [], harness := (true, "8f538eea5cdc7419f97d1b89b429aa574586bdd9def490e5a5f8dbd6f1485be2"), looks := false }, kinds := [], alts := [], laidByText := true, laidKinds := [.data, .pinned], laidTests := true, laidLooks := .later }
def LinesBackUptoCardSaid : Prop := Claim7.holds Tryd.pinned (.plain (OpenSpec.upto linesBackSpec)) linesBackUptoCard

/-- THE SECOND FORM's CARD OF 'flonglaw05.LinesWrites'. -/
def linesWritesUptoCard : Claim7 := { stood := { row := linesWritesUptoRow, standIns := [], harness := (true, "8f538eea5cdc7419f97d1b89b429aa574586bdd9def490e5a5f8dbd6f1485be2"), looks := false }, kinds := [], alts := [], laidByText := true, laidKinds := [.data, .pinned], laidTests := true, laidLooks := .later }
def LinesWritesUptoCardSaid : Prop := Claim7.holds Tryd.pinned (.plain (OpenSpec.upto linesWritesSpec)) linesWritesUptoCard
end Rows
end Go.Proofs.YtmfkokjbjmahkaaDoor
