/-
  DERIVED. GIVEN WITH THE SEED: THE PROGRAM's TIES (one call each: nine closed facts by the kernel) AND EACH ROW's TIE, after the 31st guide's Derived/Test/Toyas{Tie, Card}.lean. No idea stands in it: it is a product of the set-up. Laid BY PROGRAM, IN A SANDBOX (cutbox-door.mjs). By AI agents, Wed Nov 11 2026. No macro, syntax, notation, axiom, sorry.
-/
import Derived.Test.YtdjepocklmlnbaaDoorRows
import Derived.LaidByTextLater
import Derived.SevenTiedAt
import Derived.LaidSub
import Derived.LaidOnce
namespace Go.Proofs.YtdjepocklmlnbaaDoor
open Go
set_option maxRecDepth 100000
theorem seatTie1 : Tryd.prog.laidByTextLater [("flong/runes.none", Rows.laid_flong_runes_none), ("flong/runes.wide", Rows.laid_flong_runes_wide), ("unicode/utf8.acceptRanges", Rows.laid_unicode_utf8_acceptRanges), ("flong/cells.blank", Rows.laid_flong_cells_blank), ("flong/ansi.signs", Rows.laid_flong_ansi_signs)] [.widerDeep, .widerDeep, .data, .data, .data] true :=
  Program.laidByTextLater_by_one 67 8 33 (by kernel_rfl) (by kernel_rfl) (by kernel_rfl) (by kernel_rfl) (by kernel_rfl) (by kernel_rfl) (fun _ _ => by kernel_rfl)
theorem pin_laid_unicode_utf8_first : Tryd.pinned.checked.prog.pinnedFits "unicode/utf8.first" = true := by kernel_rfl
theorem noOwnUnsafe : Tryd.pinned.checked.prog.headLifts.contains "ownunsafe" = false := by kernel_rfl
theorem tie : Tryd.prog.laidByTextLater [("flong/runes.none", Rows.laid_flong_runes_none), ("flong/runes.wide", Rows.laid_flong_runes_wide), ("flong/cells.blank", Rows.laid_flong_cells_blank), ("flong/ansi.signs", Rows.laid_flong_ansi_signs)] [.widerDeep, .widerDeep, .data, .data] true :=
  Program.laidByTextLater.sub seatTie1 ["flong/runes.none", "flong/runes.wide", "flong/cells.blank", "flong/ansi.signs"] (by kernel_rfl) (by kernel_rfl)
theorem ansiSigns_row_tie : Rows.ansiSignsRow.laidByTextAt .later Tryd.pinned [.widerDeep, .widerDeep, .data, .data] true :=
  OpenClaim.laidByTextAt_later rfl rfl tie noOwnUnsafe
theorem ansiWrites_row_tie : Rows.ansiWritesRow.laidByTextAt .later Tryd.pinned [.widerDeep, .widerDeep, .data, .data] true :=
  OpenClaim.laidByTextAt_later rfl rfl tie noOwnUnsafe
theorem ansiSafe_row_tie : Rows.ansiSafeRow.laidByTextAt .later Tryd.pinned [.widerDeep, .widerDeep, .data, .data] true :=
  OpenClaim.laidByTextAt_later rfl rfl tie noOwnUnsafe
theorem ansiJoins_row_tie : Rows.ansiJoinsRow.laidByTextAt .later Tryd.pinned [.widerDeep, .widerDeep, .data, .data] true :=
  OpenClaim.laidByTextAt_later rfl rfl tie noOwnUnsafe
theorem fits2 : Tryd.pinned.checked.prog.listedFits [("flong/runes.none", Rows.laid_flong_runes_none), ("flong/runes.wide", Rows.laid_flong_runes_wide), ("unicode/utf8.acceptRanges", Rows.laid_unicode_utf8_acceptRanges), ("flong/cells.blank", Rows.laid_flong_cells_blank), ("flong/ansi.signs", Rows.laid_flong_ansi_signs), ("unicode/utf8.first", Rows.laid_unicode_utf8_first)] = true := by
  unfold Program.listedFits
  rw [noOwnUnsafe]
  kernel_rfl
theorem tie2 : Tryd.prog.laidByTextLater [("flong/runes.none", Rows.laid_flong_runes_none), ("flong/runes.wide", Rows.laid_flong_runes_wide), ("unicode/utf8.acceptRanges", Rows.laid_unicode_utf8_acceptRanges), ("flong/cells.blank", Rows.laid_flong_cells_blank), ("flong/ansi.signs", Rows.laid_flong_ansi_signs)] [.widerDeep, .widerDeep, .data, .data, .data] true :=
  Program.laidByTextLater.sub seatTie1 ["flong/runes.none", "flong/runes.wide", "unicode/utf8.acceptRanges", "flong/cells.blank", "flong/ansi.signs"] (by kernel_rfl) (by kernel_rfl)
theorem ansiOnes_row_tie : Rows.ansiOnesRow.laidByTextAt .later Tryd.pinned [.widerDeep, .widerDeep, .data, .data, .data, .pinned] true :=
  OpenClaim.laidByTextAt_pinned rfl rfl tie2 rfl rfl rfl rfl (fun y hy _e => by
    simp only [Rows.ansiOnesRow, List.zip_cons_cons, List.zip_nil_right, List.mem_cons, List.mem_nil_iff, or_false] at hy
    rcases hy with rfl | rfl | rfl | rfl | rfl | rfl
    · cases _e
    · cases _e
    · cases _e
    · cases _e
    · cases _e
    · exact ⟨pin_laid_unicode_utf8_first, by kernel_rfl⟩) fits2
theorem ansiReads_row_tie : Rows.ansiReadsRow.laidByTextAt .later Tryd.pinned [.widerDeep, .widerDeep, .data, .data, .data, .pinned] true :=
  OpenClaim.laidByTextAt_pinned rfl rfl tie2 rfl rfl rfl rfl (fun y hy _e => by
    simp only [Rows.ansiReadsRow, List.zip_cons_cons, List.zip_nil_right, List.mem_cons, List.mem_nil_iff, or_false] at hy
    rcases hy with rfl | rfl | rfl | rfl | rfl | rfl
    · cases _e
    · cases _e
    · cases _e
    · cases _e
    · cases _e
    · exact ⟨pin_laid_unicode_utf8_first, by kernel_rfl⟩) fits2
theorem ansiBack_row_tie : Rows.ansiBackRow.laidByTextAt .later Tryd.pinned [.widerDeep, .widerDeep, .data, .data, .data, .pinned] true :=
  OpenClaim.laidByTextAt_pinned rfl rfl tie2 rfl rfl rfl rfl (fun y hy _e => by
    simp only [Rows.ansiBackRow, List.zip_cons_cons, List.zip_nil_right, List.mem_cons, List.mem_nil_iff, or_false] at hy
    rcases hy with rfl | rfl | rfl | rfl | rfl | rfl
    · cases _e
    · cases _e
    · cases _e
    · cases _e
    · cases _e
    · exact ⟨pin_laid_unicode_utf8_first, by kernel_rfl⟩) fits2
theorem ansiSignsUpto_row_tie : Rows.ansiSignsUptoRow.laidByTextAt .later Tryd.pinned [.widerDeep, .widerDeep, .data, .data] true :=
  OpenClaim.laidByTextAt_later rfl rfl tie noOwnUnsafe
theorem ansiWritesUpto_row_tie : Rows.ansiWritesUptoRow.laidByTextAt .later Tryd.pinned [.widerDeep, .widerDeep, .data, .data] true :=
  OpenClaim.laidByTextAt_later rfl rfl tie noOwnUnsafe
theorem ansiSafeUpto_row_tie : Rows.ansiSafeUptoRow.laidByTextAt .later Tryd.pinned [.widerDeep, .widerDeep, .data, .data] true :=
  OpenClaim.laidByTextAt_later rfl rfl tie noOwnUnsafe
theorem ansiJoinsUpto_row_tie : Rows.ansiJoinsUptoRow.laidByTextAt .later Tryd.pinned [.widerDeep, .widerDeep, .data, .data] true :=
  OpenClaim.laidByTextAt_later rfl rfl tie noOwnUnsafe
theorem ansiOnesUpto_row_tie : Rows.ansiOnesUptoRow.laidByTextAt .later Tryd.pinned [.widerDeep, .widerDeep, .data, .data, .data, .pinned] true :=
  OpenClaim.laidByTextAt_pinned rfl rfl tie2 rfl rfl rfl rfl (fun y hy _e => by
    simp only [Rows.ansiOnesUptoRow, List.zip_cons_cons, List.zip_nil_right, List.mem_cons, List.mem_nil_iff, or_false] at hy
    rcases hy with rfl | rfl | rfl | rfl | rfl | rfl
    · cases _e
    · cases _e
    · cases _e
    · cases _e
    · cases _e
    · exact ⟨pin_laid_unicode_utf8_first, by kernel_rfl⟩) fits2
theorem ansiReadsUpto_row_tie : Rows.ansiReadsUptoRow.laidByTextAt .later Tryd.pinned [.widerDeep, .widerDeep, .data, .data, .data, .pinned] true :=
  OpenClaim.laidByTextAt_pinned rfl rfl tie2 rfl rfl rfl rfl (fun y hy _e => by
    simp only [Rows.ansiReadsUptoRow, List.zip_cons_cons, List.zip_nil_right, List.mem_cons, List.mem_nil_iff, or_false] at hy
    rcases hy with rfl | rfl | rfl | rfl | rfl | rfl
    · cases _e
    · cases _e
    · cases _e
    · cases _e
    · cases _e
    · exact ⟨pin_laid_unicode_utf8_first, by kernel_rfl⟩) fits2
theorem ansiBackUpto_row_tie : Rows.ansiBackUptoRow.laidByTextAt .later Tryd.pinned [.widerDeep, .widerDeep, .data, .data, .data, .pinned] true :=
  OpenClaim.laidByTextAt_pinned rfl rfl tie2 rfl rfl rfl rfl (fun y hy _e => by
    simp only [Rows.ansiBackUptoRow, List.zip_cons_cons, List.zip_nil_right, List.mem_cons, List.mem_nil_iff, or_false] at hy
    rcases hy with rfl | rfl | rfl | rfl | rfl | rfl
    · cases _e
    · cases _e
    · cases _e
    · cases _e
    · cases _e
    · exact ⟨pin_laid_unicode_utf8_first, by kernel_rfl⟩) fits2
end Go.Proofs.YtdjepocklmlnbaaDoor
