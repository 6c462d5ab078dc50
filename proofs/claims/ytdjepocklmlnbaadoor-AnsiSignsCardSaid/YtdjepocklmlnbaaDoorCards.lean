/-
  DERIVED. GIVEN WITH THE SEED: THE CARDS: each row of YtdjepocklmlnbaaDoorRows.lean that lists a variable, with what it lists TIED to the program's text (the seventh form; the later family's looks); each row that meets fmt, with fmt's text TOLD by the authors' own Lean function (tested against real Go, not proved from fmt's source: count such statements apart). THE CARD IS WHAT COUNTS. Prove the row's statement (the work); the ties are given (YtdjepocklmlnbaaDoorTie.lean); close each card by the builder's one call (the guide's Derived/Test/ToyasCard.lean, 'card_holds'). Laid BY PROGRAM, IN A SANDBOX (cutbox-door.mjs). By AI agents, Wed Nov 11 2026. No macro, syntax, notation, axiom, sorry.
-/
import Derived.Test.YtdjepocklmlnbaaDoorRows
import GoSem.ClaimSeven
namespace Go.Proofs.YtdjepocklmlnbaaDoor
namespace Rows

/-- THE TIED CARD OF 'flonglaw19.AnsiSigns'. -/
def ansiSignsCard : Claim7 := { stood := { row := ansiSignsRow, standIns := [], harness := (true, "b773fcb373db0e63503aa45d8aabad3a0b8f75e5980bafac87f356e56c97f9c1"), looks := false }, kinds := [], alts := [], laidByText := true, laidKinds := [.widerDeep, .widerDeep, .data, .data], laidTests := true, laidLooks := .later }
def AnsiSignsCardSaid : Prop := Claim7.holds Tryd.pinned (.plain (OpenSpec.ofChange ansiSignsSpec)) ansiSignsCard

/-- THE TIED CARD OF 'flonglaw19.AnsiWrites'. -/
def ansiWritesCard : Claim7 := { stood := { row := ansiWritesRow, standIns := [], harness := (true, "b773fcb373db0e63503aa45d8aabad3a0b8f75e5980bafac87f356e56c97f9c1"), looks := false }, kinds := [], alts := [], laidByText := true, laidKinds := [.widerDeep, .widerDeep, .data, .data], laidTests := true, laidLooks := .later }
def AnsiWritesCardSaid : Prop := Claim7.holds Tryd.pinned (.plain (OpenSpec.ofChange ansiWritesSpec)) ansiWritesCard

/-- THE TIED CARD OF 'flonglaw19.AnsiSafe'. -/
def ansiSafeCard : Claim7 := { stood := { row := ansiSafeRow, standIns := [], harness := (true, "b773fcb373db0e63503aa45d8aabad3a0b8f75e5980bafac87f356e56c97f9c1"), looks := false }, kinds := [], alts := [], laidByText := true, laidKinds := [.widerDeep, .widerDeep, .data, .data], laidTests := true, laidLooks := .later }
def AnsiSafeCardSaid : Prop := Claim7.holds Tryd.pinned (.plain (OpenSpec.ofChange ansiSafeSpec)) ansiSafeCard

/-- THE TIED CARD OF 'flonglaw19.AnsiJoins'. -/
def ansiJoinsCard : Claim7 := { stood := { row := ansiJoinsRow, standIns := [], harness := (true, "b773fcb373db0e63503aa45d8aabad3a0b8f75e5980bafac87f356e56c97f9c1"), looks := false }, kinds := [], alts := [], laidByText := true, laidKinds := [.widerDeep, .widerDeep, .data, .data], laidTests := true, laidLooks := .later }
def AnsiJoinsCardSaid : Prop := Claim7.holds Tryd.pinned (.plain (OpenSpec.ofChange ansiJoinsSpec)) ansiJoinsCard

/-- THE TIED CARD OF 'flonglaw19.AnsiOnes'. -/
def ansiOnesCard : Claim7 := { stood := { row := ansiOnesRow, standIns := [], harness := (true, "b773fcb373db0e63503aa45d8aabad3a0b8f75e5980bafac87f356e56c97f9c1"), looks := false }, kinds := [], alts := [], laidByText := true, laidKinds := [.widerDeep, .widerDeep, .data, .data, .data, .pinned], laidTests := true, laidLooks := .later }
def AnsiOnesCardSaid : Prop := Claim7.holds Tryd.pinned (.plain (OpenSpec.ofChange ansiOnesSpec)) ansiOnesCard

/-- THE TIED CARD OF 'flonglaw19.AnsiReads'. -/
def ansiReadsCard : Claim7 := { stood := { row := ansiReadsRow, standIns := [], harness := (true, "b773fcb373db0e63503aa45d8aabad3a0b8f75e5980bafac87f356e56c97f9c1"), looks := false }, kinds := [], alts := [], laidByText := true, laidKinds := [.widerDeep, .widerDeep, .data, .data, .data, .pinned], laidTests := true, laidLooks := .later }
def AnsiReadsCardSaid : Prop := Claim7.holds Tryd.pinned (.plain (OpenSpec.ofChange ansiReadsSpec)) ansiReadsCard

/-- THE TIED CARD OF 'flonglaw19.AnsiBack'. -/
def ansiBackCard : Claim7 := { stood := { row := ansiBackRow, standIns := [], harness := (true, "b773fcb373db0e63503aa45d8aabad3a0b8f75e5980bafac87f356e56c97f9c1"), looks := false }, kinds := [], alts := [], laidByText := true, laidKinds := [.widerDeep, .widerDeep, .data, .data, .data, .pinned], laidTests := true, laidLooks := .later }
def AnsiBackCardSaid : Prop := Claim7.holds Tryd.pinned (.plain (OpenSpec.ofChange ansiBackSpec)) ansiBackCard

/-- THE SECOND FORM's CARD OF 'flonglaw19.AnsiSigns'. -/
def ansiSignsUptoCard : Claim7 := { stood := { row := ansiSignsUptoRow, standIns := [], harness := (true, "b773fcb373db0e63503aa45d8aabad3a0b8f75e5980bafac87f356e56c97f9c1"), looks := false }, kinds := [], alts := [], laidByText := true, laidKinds := [.widerDeep, .widerDeep, .data, .data], laidTests := true, laidLooks := .later }
def AnsiSignsUptoCardSaid : Prop := Claim7.holds Tryd.pinned (.plain (OpenSpec.upto ansiSignsSpec)) ansiSignsUptoCard

/-- THE SECOND FORM's CARD OF 'flonglaw19.AnsiWrites'. -/
def ansiWritesUptoCard : Claim7 := { stood := { row := ansiWritesUptoRow, standIns := [], harness := (true, "b773fcb373db0e63503aa45d8aabad3a0b8f75e5980bafac87f356e56c97f9c1"), looks := false }, kinds := [], alts := [], laidByText := true, laidKinds := [.widerDeep, .widerDeep, .data, .data], laidTests := true, laidLooks := .later }
def AnsiWritesUptoCardSaid : Prop := Claim7.holds Tryd.pinned (.plain (OpenSpec.upto ansiWritesSpec)) ansiWritesUptoCard

/-- THE SECOND FORM's CARD OF 'flonglaw19.AnsiSafe'. -/
def ansiSafeUptoCard : Claim7 := { stood := { row := ansiSafeUptoRow, standIns := [], harness := (true, "b773fcb373db0e63503aa45d8aabad3a0b8f75e5980bafac87f356e56c97f9c1"), looks := false }, kinds := [], alts := [], laidByText := true, laidKinds := [.widerDeep, .widerDeep, .data, .data], laidTests := true, laidLooks := .later }
def AnsiSafeUptoCardSaid : Prop := Claim7.holds Tryd.pinned (.plain (OpenSpec.upto ansiSafeSpec)) ansiSafeUptoCard

/-- THE SECOND FORM's CARD OF 'flonglaw19.AnsiJoins'. -/
def ansiJoinsUptoCard : Claim7 := { stood := { row := ansiJoinsUptoRow, standIns := [], harness := (true, "b773fcb373db0e63503aa45d8aabad3a0b8f75e5980bafac87f356e56c97f9c1"), looks := false }, kinds := [], alts := [], laidByText := true, laidKinds := [.widerDeep, .widerDeep, .data, .data], laidTests := true, laidLooks := .later }
def AnsiJoinsUptoCardSaid : Prop := Claim7.holds Tryd.pinned (.plain (OpenSpec.upto ansiJoinsSpec)) ansiJoinsUptoCard

/-- THE SECOND FORM's CARD OF 'flonglaw19.AnsiOnes'. -/
def ansiOnesUptoCard : Claim7 := { stood := { row := ansiOnesUptoRow, standIns := [], harness := (true, "b773fcb373db0e63503aa45d8aabad3a0b8f75e5980bafac87f356e56c97f9c1"), looks := false }, kinds := [], alts := [], laidByText := true, laidKinds := [.widerDeep, .widerDeep, .data, .data, .data, .pinned], laidTests := true, laidLooks := .later }
def AnsiOnesUptoCardSaid : Prop := Claim7.holds Tryd.pinned (.plain (OpenSpec.upto ansiOnesSpec)) ansiOnesUptoCard

/-- THE SECOND FORM's CARD OF 'flonglaw19.AnsiReads'. -/
def ansiReadsUptoCard : Claim7 := { stood := { row := ansiReadsUptoRow, standIns := [], harness := (true, "b773fcb373db0e63503aa45d8aabad3a0b8f75e5980bafac87f356e56c97f9c1"), looks := false }, kinds := [], alts := [], laidByText := true, laidKinds := [.widerDeep, .widerDeep, .data, .data, .data, .pinned], laidTests := true, laidLooks := .later }
def AnsiReadsUptoCardSaid : Prop := Claim7.holds Tryd.pinned (.plain (OpenSpec.upto ansiReadsSpec)) ansiReadsUptoCard

/-- THE SECOND FORM's CARD OF 'flonglaw19.AnsiBack'. -/
def ansiBackUptoCard : Claim7 := { stood := { row := ansiBackUptoRow, standIns := [], harness := (true, "b773fcb373db0e63503aa45d8aabad3a0b8f75e5980bafac87f356e56c97f9c1"), looks := false }, kinds := [], alts := [], laidByText := true, laidKinds := [.widerDeep, .widerDeep, .data, .data, .data, .pinned], laidTests := true, laidLooks := .later }
def AnsiBackUptoCardSaid : Prop := Claim7.holds Tryd.pinned (.plain (OpenSpec.upto ansiBackSpec)) ansiBackUptoCard
end Rows
end Go.Proofs.YtdjepocklmlnbaaDoor
