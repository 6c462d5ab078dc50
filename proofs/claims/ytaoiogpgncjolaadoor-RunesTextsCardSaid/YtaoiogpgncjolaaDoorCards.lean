/-
  DERIVED. GIVEN WITH THE SEED: THE CARDS: each row of YtaoiogpgncjolaaDoorRows.lean that lists a variable, with what it lists TIED to the program's text (the seventh form; the later family's looks); each row that meets fmt, with fmt's text TOLD by the authors' own Lean function (tested against real Go, not proved from fmt's source: count such statements apart). THE CARD IS WHAT COUNTS. Prove the row's statement (the work); the ties are given (YtaoiogpgncjolaaDoorTie.lean); close each card by the builder's one call (the guide's Derived/Test/ToyasCard.lean, 'card_holds'). Laid BY PROGRAM, IN A SANDBOX (cutbox-door.mjs). By AI agents, Wed Nov 11 2026. No macro, syntax, notation, axiom, sorry.
-/
import Derived.Test.YtaoiogpgncjolaaDoorRows
import GoSem.ClaimSeven
namespace Go.Proofs.YtaoiogpgncjolaaDoor
namespace Rows

/-- THE TIED CARD OF 'flonglaw02.RunesSafe'. -/
def runesSafeCard : Claim7 := { stood := { row := runesSafeRow, standIns := [], harness := (true, "5ce1b4b141c7030307c208edf71f56456492b64cb0d043aad50d499a8f4c7dd6"), looks := false }, kinds := [], alts := [], laidByText := true, laidKinds := [.widerDeep, .widerDeep], laidTests := true, laidLooks := .later }
def RunesSafeCardSaid : Prop := Claim7.holds Tryd.pinned (.plain (OpenSpec.ofChange runesSafeSpec)) runesSafeCard

/-- THE TIED CARD OF 'flonglaw02.RunesSums'. -/
def runesSumsCard : Claim7 := { stood := { row := runesSumsRow, standIns := [], harness := (true, "5ce1b4b141c7030307c208edf71f56456492b64cb0d043aad50d499a8f4c7dd6"), looks := false }, kinds := [], alts := [], laidByText := true, laidKinds := [.widerDeep, .widerDeep], laidTests := true, laidLooks := .later }
def RunesSumsCardSaid : Prop := Claim7.holds Tryd.pinned (.plain (OpenSpec.ofChange runesSumsSpec)) runesSumsCard

/-- THE TIED CARD OF 'flonglaw02.RunesLengths'. -/
def runesLengthsCard : Claim7 := { stood := { row := runesLengthsRow, standIns := [], harness := (true, "5ce1b4b141c7030307c208edf71f56456492b64cb0d043aad50d499a8f4c7dd6"), looks := false }, kinds := [], alts := [], laidByText := true, laidKinds := [.widerDeep, .widerDeep], laidTests := true, laidLooks := .later }
def RunesLengthsCardSaid : Prop := Claim7.holds Tryd.pinned (.plain (OpenSpec.ofChange runesLengthsSpec)) runesLengthsCard

/-- THE TIED CARD OF 'flonglaw02.RunesReads'. -/
def runesReadsCard : Claim7 := { stood := { row := runesReadsRow, standIns := [], harness := (true, "5ce1b4b141c7030307c208edf71f56456492b64cb0d043aad50d499a8f4c7dd6"), looks := false }, kinds := [], alts := [], laidByText := true, laidKinds := [.widerDeep, .widerDeep], laidTests := true, laidLooks := .later }
def RunesReadsCardSaid : Prop := Claim7.holds Tryd.pinned (.plain (OpenSpec.ofChange runesReadsSpec)) runesReadsCard

/-- THE TIED CARD OF 'flonglaw02.RunesBack'. -/
def runesBackCard : Claim7 := { stood := { row := runesBackRow, standIns := [], harness := (true, "5ce1b4b141c7030307c208edf71f56456492b64cb0d043aad50d499a8f4c7dd6"), looks := false }, kinds := [], alts := [], laidByText := true, laidKinds := [.widerDeep, .widerDeep], laidTests := true, laidLooks := .later }
def RunesBackCardSaid : Prop := Claim7.holds Tryd.pinned (.plain (OpenSpec.ofChange runesBackSpec)) runesBackCard

/-- THE TIED CARD OF 'flonglaw02.RunesTexts'. -/
def runesTextsCard : Claim7 := { stood := { row := runesTextsRow, standIns := [], harness := (true, "5ce1b4b141c7030307c208edf71f56456492b64cb0d043aad50d499a8f4c7dd6"), looks := false }, kinds := [], alts := [], laidByText := true, laidKinds := [.widerDeep, .widerDeep], laidTests := true, laidLooks := .later }
def RunesTextsCardSaid : Prop := Claim7.holds Tryd.pinned (.plain (OpenSpec.ofChange runesTextsSpec)) runesTextsCard

/-- THE TIED CARD OF 'flonglaw02.RunesWrites'. -/
def runesWritesCard : Claim7 := { stood := { row := runesWritesRow, standIns := [], harness := (true, "5ce1b4b141c7030307c208edf71f56456492b64cb0d043aad50d499a8f4c7dd6"), looks := false }, kinds := [], alts := [], laidByText := true, laidKinds := [.widerDeep, .widerDeep], laidTests := true, laidLooks := .later }
def RunesWritesCardSaid : Prop := Claim7.holds Tryd.pinned (.plain (OpenSpec.ofChange runesWritesSpec)) runesWritesCard

/-- THE SECOND FORM's CARD OF 'flonglaw02.RunesSafe'. -/
def runesSafeUptoCard : Claim7 := { stood := { row := runesSafeUptoRow, standIns := [], harness := (true, "5ce1b4b141c7030307c208edf71f56456492b64cb0d043aad50d499a8f4c7dd6"), looks := false }, kinds := [], alts := [], laidByText := true, laidKinds := [.widerDeep, .widerDeep], laidTests := true, laidLooks := .later }
def RunesSafeUptoCardSaid : Prop := Claim7.holds Tryd.pinned (.plain (OpenSpec.upto runesSafeSpec)) runesSafeUptoCard

/-- THE SECOND FORM's CARD OF 'flonglaw02.RunesSums'. -/
def runesSumsUptoCard : Claim7 := { stood := { row := runesSumsUptoRow, standIns := [], harness := (true, "5ce1b4b141c7030307c208edf71f56456492b64cb0d043aad50d499a8f4c7dd6"), looks := false }, kinds := [], alts := [], laidByText := true, laidKinds := [.widerDeep, .widerDeep], laidTests := true, laidLooks := .later }
def RunesSumsUptoCardSaid : Prop := Claim7.holds Tryd.pinned (.plain (OpenSpec.upto runesSumsSpec)) runesSumsUptoCard

/-- THE SECOND FORM's CARD OF 'flonglaw02.RunesLengths'. -/
def runesLengthsUptoCard : Claim7 := { stood := { row := runesLengthsUptoRow, standIns := [], harness := (true, "5ce1b4b141c7030307c208edf71f56456492b64cb0d043aad50d499a8f4c7dd6"), looks := false }, kinds := [], alts := [], laidByText := true, laidKinds := [.widerDeep, .widerDeep], laidTests := true, laidLooks := .later }
def RunesLengthsUptoCardSaid : Prop := Claim7.holds Tryd.pinned (.plain (OpenSpec.upto runesLengthsSpec)) runesLengthsUptoCard

/-- THE SECOND FORM's CARD OF 'flonglaw02.RunesReads'. -/
def runesReadsUptoCard : Claim7 := { stood := { row := runesReadsUptoRow, standIns := [], harness := (true, "5ce1b4b141c7030307c208edf71f56456492b64cb0d043aad50d499a8f4c7dd6"), looks := false }, kinds := [], alts := [], laidByText := true, laidKinds := [.widerDeep, .widerDeep], laidTests := true, laidLooks := .later }
def RunesReadsUptoCardSaid : Prop := Claim7.holds Tryd.pinned (.plain (OpenSpec.upto runesReadsSpec)) runesReadsUptoCard

/-- THE SECOND FORM's CARD OF 'flonglaw02.RunesBack'. -/
def runesBackUptoCard : Claim7 := { stood := { row := runesBackUptoRow, standIns := [], harness := (true, "5ce1b4b141c7030307c208edf71f56456492b64cb0d043aad50d499a8f4c7dd6"), looks := false }, kinds := [], alts := [], laidByText := true, laidKinds := [.widerDeep, .widerDeep], laidTests := true, laidLooks := .later }
def RunesBackUptoCardSaid : Prop := Claim7.holds Tryd.pinned (.plain (OpenSpec.upto runesBackSpec)) runesBackUptoCard

/-- THE SECOND FORM's CARD OF 'flonglaw02.RunesTexts'. -/
def runesTextsUptoCard : Claim7 := { stood := { row := runesTextsUptoRow, standIns := [], harness := (true, "5ce1b4b141c7030307c208edf71f56456492b64cb0d043aad50d499a8f4c7dd6"), looks := false }, kinds := [], alts := [], laidByText := true, laidKinds := [.widerDeep, .widerDeep], laidTests := true, laidLooks := .later }
def RunesTextsUptoCardSaid : Prop := Claim7.holds Tryd.pinned (.plain (OpenSpec.upto runesTextsSpec)) runesTextsUptoCard

/-- THE SECOND FORM's CARD OF 'flonglaw02.RunesWrites'. -/
def runesWritesUptoCard : Claim7 := { stood := { row := runesWritesUptoRow, standIns := [], harness := (true, "5ce1b4b141c7030307c208edf71f56456492b64cb0d043aad50d499a8f4c7dd6"), looks := false }, kinds := [], alts := [], laidByText := true, laidKinds := [.widerDeep, .widerDeep], laidTests := true, laidLooks := .later }
def RunesWritesUptoCardSaid : Prop := Claim7.holds Tryd.pinned (.plain (OpenSpec.upto runesWritesSpec)) runesWritesUptoCard
end Rows
end Go.Proofs.YtaoiogpgncjolaaDoor
