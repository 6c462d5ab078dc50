/-
  DERIVED. GIVEN WITH THE SEED: THE CARDS: each row of YtmeinakeiefcdaaDoorRows.lean that lists a variable, with what it lists TIED to the program's text (the seventh form; the later family's looks); each row that meets fmt, with fmt's text TOLD by the authors' own Lean function (tested against real Go, not proved from fmt's source: count such statements apart). THE CARD IS WHAT COUNTS. Prove the row's statement (the work); the ties are given (YtmeinakeiefcdaaDoorTie.lean); close each card by the builder's one call (the guide's Derived/Test/ToyasCard.lean, 'card_holds'). Laid BY PROGRAM, IN A SANDBOX (cutbox-door.mjs). By AI agents, Wed Nov 11 2026. No macro, syntax, notation, axiom, sorry.
-/
import Derived.Test.YtmeinakeiefcdaaDoorRows
import GoSem.ClaimSeven
namespace Go.Proofs.YtmeinakeiefcdaaDoor
namespace Rows

/-- THE TIED CARD OF 'flonglaw18.OverPlain'. -/
def overPlainCard : Claim7 := { stood := { row := overPlainRow, standIns := [], harness := (true, "5c3c6c3179e8d5adb3cc2bedfc96f7e85b1cba4177ef74f298a09736106f2b7f"), looks := false }, kinds := [], alts := [], laidByText := true, laidKinds := [.widerDeep, .widerDeep, .data], laidTests := true, laidLooks := .later }
def OverPlainCardSaid : Prop := Claim7.holds Tryd.pinned (.plain (OpenSpec.ofChange overPlainSpec)) overPlainCard

/-- THE TIED CARD OF 'flonglaw18.OverJoins'. -/
def overJoinsCard : Claim7 := { stood := { row := overJoinsRow, standIns := [], harness := (true, "5c3c6c3179e8d5adb3cc2bedfc96f7e85b1cba4177ef74f298a09736106f2b7f"), looks := false }, kinds := [], alts := [], laidByText := true, laidKinds := [.widerDeep, .widerDeep, .data], laidTests := true, laidLooks := .later }
def OverJoinsCardSaid : Prop := Claim7.holds Tryd.pinned (.plain (OpenSpec.ofChange overJoinsSpec)) overJoinsCard

/-- THE TIED CARD OF 'flonglaw18.OverReads'. -/
def overReadsCard : Claim7 := { stood := { row := overReadsRow, standIns := [], harness := (true, "5c3c6c3179e8d5adb3cc2bedfc96f7e85b1cba4177ef74f298a09736106f2b7f"), looks := false }, kinds := [], alts := [], laidByText := true, laidKinds := [.widerDeep, .widerDeep, .data, .data, .data, .pinned], laidTests := true, laidLooks := .later }
def OverReadsCardSaid : Prop := Claim7.holds Tryd.pinned (.plain (OpenSpec.ofChange overReadsSpec)) overReadsCard

/-- THE TIED CARD OF 'flonglaw18.OverBack'. -/
def overBackCard : Claim7 := { stood := { row := overBackRow, standIns := [], harness := (true, "5c3c6c3179e8d5adb3cc2bedfc96f7e85b1cba4177ef74f298a09736106f2b7f"), looks := false }, kinds := [], alts := [], laidByText := true, laidKinds := [.widerDeep, .widerDeep, .data, .data, .data, .pinned], laidTests := true, laidLooks := .later }
def OverBackCardSaid : Prop := Claim7.holds Tryd.pinned (.plain (OpenSpec.ofChange overBackSpec)) overBackCard

/-- THE TIED CARD OF 'flonglaw18.OverErase'. -/
def overEraseCard : Claim7 := { stood := { row := overEraseRow, standIns := [], harness := (true, "5c3c6c3179e8d5adb3cc2bedfc96f7e85b1cba4177ef74f298a09736106f2b7f"), looks := false }, kinds := [], alts := [], laidByText := true, laidKinds := [.widerDeep, .widerDeep, .data, .data, .data, .pinned], laidTests := true, laidLooks := .later }
def OverEraseCardSaid : Prop := Claim7.holds Tryd.pinned (.plain (OpenSpec.ofChange overEraseSpec)) overEraseCard

/-- THE SECOND FORM's CARD OF 'flonglaw18.OverPlain'. -/
def overPlainUptoCard : Claim7 := { stood := { row := overPlainUptoRow, standIns := [], harness := (true, "5c3c6c3179e8d5adb3cc2bedfc96f7e85b1cba4177ef74f298a09736106f2b7f"), looks := false }, kinds := [], alts := [], laidByText := true, laidKinds := [.widerDeep, .widerDeep, .data], laidTests := true, laidLooks := .later }
def OverPlainUptoCardSaid : Prop := Claim7.holds Tryd.pinned (.plain (OpenSpec.upto overPlainSpec)) overPlainUptoCard

/-- THE SECOND FORM's CARD OF 'flonglaw18.OverJoins'. -/
def overJoinsUptoCard : Claim7 := { stood := { row := overJoinsUptoRow, standIns := [], harness := (true, "5c3c6c3179e8d5adb3cc2bedfc96f7e85b1cba4177ef74f298a09736106f2b7f"), looks := false }, kinds := [], alts := [], laidByText := true, laidKinds := [.widerDeep, .widerDeep, .data], laidTests := true, laidLooks := .later }
def OverJoinsUptoCardSaid : Prop := Claim7.holds Tryd.pinned (.plain (OpenSpec.upto overJoinsSpec)) overJoinsUptoCard

/-- THE SECOND FORM's CARD OF 'flonglaw18.OverReads'. -/
def overReadsUptoCard : Claim7 := { stood := { row := overReadsUptoRow, standIns := [], harness := (true, "5c3c6c3179e8d5adb3cc2bedfc96f7e85b1cba4177ef74f298a09736106f2b7f"), looks := false }, kinds := [], alts := [], laidByText := true, laidKinds := [.widerDeep, .widerDeep, .data, .data, .data, .pinned], laidTests := true, laidLooks := .later }
def OverReadsUptoCardSaid : Prop := Claim7.holds Tryd.pinned (.plain (OpenSpec.upto overReadsSpec)) overReadsUptoCard

/-- THE SECOND FORM's CARD OF 'flonglaw18.OverBack'. -/
def overBackUptoCard : Claim7 := { stood := { row := overBackUptoRow, standIns := [], harness := (true, "5c3c6c3179e8d5adb3cc2bedfc96f7e85b1cba4177ef74f298a09736106f2b7f"), looks := false }, kinds := [], alts := [], laidByText := true, laidKinds := [.widerDeep, .widerDeep, .data, .data, .data, .pinned], laidTests := true, laidLooks := .later }
def OverBackUptoCardSaid : Prop := Claim7.holds Tryd.pinned (.plain (OpenSpec.upto overBackSpec)) overBackUptoCard

/-- THE SECOND FORM's CARD OF 'flonglaw18.OverErase'. -/
def overEraseUptoCard : Claim7 := { stood := { row := overEraseUptoRow, standIns := [], harness := (true, "5c3c6c3179e8d5adb3cc2bedfc96f7e85b1cba4177ef74f298a09736106f2b7f"), looks := false }, kinds := [], alts := [], laidByText := true, laidKinds := [.widerDeep, .widerDeep, .data, .data, .data, .pinned], laidTests := true, laidLooks := .later }
def OverEraseUptoCardSaid : Prop := Claim7.holds Tryd.pinned (.plain (OpenSpec.upto overEraseSpec)) overEraseUptoCard
end Rows
end Go.Proofs.YtmeinakeiefcdaaDoor
