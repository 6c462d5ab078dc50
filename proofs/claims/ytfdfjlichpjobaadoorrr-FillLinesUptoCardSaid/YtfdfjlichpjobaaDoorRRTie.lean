/-
  DERIVED. GIVEN WITH THE SEED: THE PROGRAM's TIES (one call each: nine closed facts by the kernel) AND EACH ROW's TIE, after the 31st guide's Derived/Test/Toyas{Tie, Card}.lean. No idea stands in it: it is a product of the set-up. Laid BY PROGRAM, IN A SANDBOX (cutbox-door.mjs). By AI agents, Wed Nov 11 2026. No macro, syntax, notation, axiom, sorry.
-/
import Derived.Test.YtfdfjlichpjobaaDoorRRRows
import Derived.LaidByTextLater
import Derived.SevenTiedAt
import Derived.LaidSub
import Derived.LaidOnce
namespace Go.Proofs.YtfdfjlichpjobaaDoorRR
open Go
set_option maxRecDepth 100000
theorem seatTie1 : Tryd.prog.laidByTextLater [("flong/runes.none", Rows.laid_flong_runes_none), ("flong/runes.wide", Rows.laid_flong_runes_wide), ("flong/fill.blank", Rows.laid_flong_fill_blank)] [.widerDeep, .widerDeep, .data] true :=
  Program.laidByTextLater_by_one 52 8 33 (by kernel_rfl) (by kernel_rfl) (by kernel_rfl) (by kernel_rfl) (by kernel_rfl) (by kernel_rfl) (fun _ _ => by kernel_rfl)
theorem noOwnUnsafe : Tryd.pinned.checked.prog.headLifts.contains "ownunsafe" = false := by kernel_rfl
theorem tie : Tryd.prog.laidByTextLater [("flong/runes.none", Rows.laid_flong_runes_none), ("flong/runes.wide", Rows.laid_flong_runes_wide), ("flong/fill.blank", Rows.laid_flong_fill_blank)] [.widerDeep, .widerDeep, .data] true :=
  Program.laidByTextLater.sub seatTie1 ["flong/runes.none", "flong/runes.wide", "flong/fill.blank"] (by kernel_rfl) (by kernel_rfl)
theorem fillWords_row_tie : Rows.fillWordsRow.laidByTextAt .later Tryd.pinned [.widerDeep, .widerDeep, .data] true :=
  OpenClaim.laidByTextAt_later rfl rfl tie noOwnUnsafe
theorem fillLines_row_tie : Rows.fillLinesRow.laidByTextAt .later Tryd.pinned [.widerDeep, .widerDeep, .data] true :=
  OpenClaim.laidByTextAt_later rfl rfl tie noOwnUnsafe
theorem fillKeeps_row_tie : Rows.fillKeepsRow.laidByTextAt .later Tryd.pinned [.widerDeep, .widerDeep, .data] true :=
  OpenClaim.laidByTextAt_later rfl rfl tie noOwnUnsafe
theorem fillTexts_row_tie : Rows.fillTextsRow.laidByTextAt .later Tryd.pinned [.widerDeep, .widerDeep, .data] true :=
  OpenClaim.laidByTextAt_later rfl rfl tie noOwnUnsafe
theorem fillWider_row_tie : Rows.fillWiderRow.laidByTextAt .later Tryd.pinned [.widerDeep, .widerDeep, .data] true :=
  OpenClaim.laidByTextAt_later rfl rfl tie noOwnUnsafe
theorem fillWordsUpto_row_tie : Rows.fillWordsUptoRow.laidByTextAt .later Tryd.pinned [.widerDeep, .widerDeep, .data] true :=
  OpenClaim.laidByTextAt_later rfl rfl tie noOwnUnsafe
theorem fillLinesUpto_row_tie : Rows.fillLinesUptoRow.laidByTextAt .later Tryd.pinned [.widerDeep, .widerDeep, .data] true :=
  OpenClaim.laidByTextAt_later rfl rfl tie noOwnUnsafe
theorem fillKeepsUpto_row_tie : Rows.fillKeepsUptoRow.laidByTextAt .later Tryd.pinned [.widerDeep, .widerDeep, .data] true :=
  OpenClaim.laidByTextAt_later rfl rfl tie noOwnUnsafe
theorem fillTextsUpto_row_tie : Rows.fillTextsUptoRow.laidByTextAt .later Tryd.pinned [.widerDeep, .widerDeep, .data] true :=
  OpenClaim.laidByTextAt_later rfl rfl tie noOwnUnsafe
theorem fillWiderUpto_row_tie : Rows.fillWiderUptoRow.laidByTextAt .later Tryd.pinned [.widerDeep, .widerDeep, .data] true :=
  OpenClaim.laidByTextAt_later rfl rfl tie noOwnUnsafe
end Go.Proofs.YtfdfjlichpjobaaDoorRR
