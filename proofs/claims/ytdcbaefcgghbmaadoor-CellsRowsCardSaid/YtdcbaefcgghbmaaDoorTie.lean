/-
  DERIVED. GIVEN WITH THE SEED: THE PROGRAM's TIES (one call each: nine closed facts by the kernel) AND EACH ROW's TIE, after the 31st guide's Derived/Test/Toyas{Tie, Card}.lean. No idea stands in it: it is a product of the set-up. Laid BY PROGRAM, IN A SANDBOX (cutbox-door.mjs). By AI agents, Wed Nov 11 2026. No macro, syntax, notation, axiom, sorry.
-/
import Derived.Test.YtdcbaefcgghbmaaDoorRows
import Derived.LaidByTextLater
import Derived.SevenTiedAt
import Derived.LaidSub
import Derived.LaidOnce
namespace Go.Proofs.YtdcbaefcgghbmaaDoor
open Go
set_option maxRecDepth 100000
theorem seatTie1 : Tryd.prog.laidByTextLater [("flong/runes.none", Rows.laid_flong_runes_none), ("flong/runes.wide", Rows.laid_flong_runes_wide), ("flong/cells.blank", Rows.laid_flong_cells_blank)] [.widerDeep, .widerDeep, .data] true :=
  Program.laidByTextLater_by_one 52 8 33 (by kernel_rfl) (by kernel_rfl) (by kernel_rfl) (by kernel_rfl) (by kernel_rfl) (by kernel_rfl) (fun _ _ => by kernel_rfl)
theorem noOwnUnsafe : Tryd.pinned.checked.prog.headLifts.contains "ownunsafe" = false := by kernel_rfl
theorem tie : Tryd.prog.laidByTextLater [("flong/runes.none", Rows.laid_flong_runes_none), ("flong/runes.wide", Rows.laid_flong_runes_wide)] [.widerDeep, .widerDeep] true :=
  Program.laidByTextLater.sub seatTie1 ["flong/runes.none", "flong/runes.wide"] (by kernel_rfl) (by kernel_rfl)
theorem cellsClean_row_tie : Rows.cellsCleanRow.laidByTextAt .later Tryd.pinned [.widerDeep, .widerDeep] true :=
  OpenClaim.laidByTextAt_later rfl rfl tie noOwnUnsafe
theorem cellsSame_row_tie : Rows.cellsSameRow.laidByTextAt .later Tryd.pinned [.widerDeep, .widerDeep] true :=
  OpenClaim.laidByTextAt_later rfl rfl tie noOwnUnsafe
theorem cellsTexts_row_tie : Rows.cellsTextsRow.laidByTextAt .later Tryd.pinned [.widerDeep, .widerDeep] true :=
  OpenClaim.laidByTextAt_later rfl rfl tie noOwnUnsafe
theorem cellsJoins_row_tie : Rows.cellsJoinsRow.laidByTextAt .later Tryd.pinned [.widerDeep, .widerDeep] true :=
  OpenClaim.laidByTextAt_later rfl rfl tie noOwnUnsafe
theorem tie2 : Tryd.prog.laidByTextLater [("flong/runes.none", Rows.laid_flong_runes_none), ("flong/runes.wide", Rows.laid_flong_runes_wide), ("flong/cells.blank", Rows.laid_flong_cells_blank)] [.widerDeep, .widerDeep, .data] true :=
  Program.laidByTextLater.sub seatTie1 ["flong/runes.none", "flong/runes.wide", "flong/cells.blank"] (by kernel_rfl) (by kernel_rfl)
theorem cellsWhole_row_tie : Rows.cellsWholeRow.laidByTextAt .later Tryd.pinned [.widerDeep, .widerDeep, .data] true :=
  OpenClaim.laidByTextAt_later rfl rfl tie2 noOwnUnsafe
theorem cellsTrims_row_tie : Rows.cellsTrimsRow.laidByTextAt .later Tryd.pinned [.widerDeep, .widerDeep, .data] true :=
  OpenClaim.laidByTextAt_later rfl rfl tie2 noOwnUnsafe
theorem cellsRows_row_tie : Rows.cellsRowsRow.laidByTextAt .later Tryd.pinned [.widerDeep, .widerDeep, .data] true :=
  OpenClaim.laidByTextAt_later rfl rfl tie2 noOwnUnsafe
theorem cellsCleanUpto_row_tie : Rows.cellsCleanUptoRow.laidByTextAt .later Tryd.pinned [.widerDeep, .widerDeep] true :=
  OpenClaim.laidByTextAt_later rfl rfl tie noOwnUnsafe
theorem cellsSameUpto_row_tie : Rows.cellsSameUptoRow.laidByTextAt .later Tryd.pinned [.widerDeep, .widerDeep] true :=
  OpenClaim.laidByTextAt_later rfl rfl tie noOwnUnsafe
theorem cellsWholeUpto_row_tie : Rows.cellsWholeUptoRow.laidByTextAt .later Tryd.pinned [.widerDeep, .widerDeep, .data] true :=
  OpenClaim.laidByTextAt_later rfl rfl tie2 noOwnUnsafe
theorem cellsTrimsUpto_row_tie : Rows.cellsTrimsUptoRow.laidByTextAt .later Tryd.pinned [.widerDeep, .widerDeep, .data] true :=
  OpenClaim.laidByTextAt_later rfl rfl tie2 noOwnUnsafe
theorem cellsTextsUpto_row_tie : Rows.cellsTextsUptoRow.laidByTextAt .later Tryd.pinned [.widerDeep, .widerDeep] true :=
  OpenClaim.laidByTextAt_later rfl rfl tie noOwnUnsafe
theorem cellsJoinsUpto_row_tie : Rows.cellsJoinsUptoRow.laidByTextAt .later Tryd.pinned [.widerDeep, .widerDeep] true :=
  OpenClaim.laidByTextAt_later rfl rfl tie noOwnUnsafe
theorem cellsRowsUpto_row_tie : Rows.cellsRowsUptoRow.laidByTextAt .later Tryd.pinned [.widerDeep, .widerDeep, .data] true :=
  OpenClaim.laidByTextAt_later rfl rfl tie2 noOwnUnsafe
end Go.Proofs.YtdcbaefcgghbmaaDoor
