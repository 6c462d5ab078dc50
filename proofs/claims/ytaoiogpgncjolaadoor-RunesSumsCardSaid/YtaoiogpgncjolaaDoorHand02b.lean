/- How wide a rune is: package runes' Width, walked by hand, under the hypothesis that its two tables lie in memory as the program's text lays them. -/
import Derived.Test.YtaoiogpgncjolaaDoorHand02a
namespace Go.Proofs.YtaoiogpgncjolaaDoor.Hand
open Go.RowKit Go.Proofs.YtaoiogpgncjolaaDoorW.PrintWords Go.Proofs.YtaoiogpgncjolaaDoorW.PrintLast Go.Proofs.YtaoiogpgncjolaaDoorW.PrintMore
set_option linter.unusedSimpArgs false

def noneL : List Int := [768, 879, 1155, 1161, 1425, 1469, 1552, 1562, 1611, 1631, 6832, 6911, 7616, 7679, 8203, 8207, 8400, 8447, 65024, 65039, 65056, 65071, 917760, 917999]
def wideL : List Int := [4352, 4447, 9001, 9002, 11904, 12350, 12353, 13311, 13312, 19903, 19968, 42191, 43360, 43391, 44032, 55203, 63744, 64255, 65072, 65135, 65280, 65376, 65504, 65510, 127744, 128591, 129280, 129535, 131072, 196605, 196608, 262141]

theorem rises_of {ls : List Int} {n : Nat} (h : ((List.range n).all fun k => (List.range n).all fun j => (decide (j ≤ k → highAt ls j ≤ highAt ls k)) && decide (j < k → highAt ls j < lowAt ls k)) = true) : Rises ls n := by
  simp only [List.all_eq_true, List.mem_range, Bool.and_eq_true, decide_eq_true_eq] at h
  exact ⟨fun j k hjk hk => (h k hk j (by omega)).1 hjk, fun j k hjk hk => (h k hk j (by omega)).2 hjk⟩
theorem none_rises : Rises noneL 12 := rises_of (by decide +kernel)
theorem wide_rises : Rises wideL 16 := rises_of (by decide +kernel)

/-- The variables that the program's functions read, as its text lays them. -/
structure GOK (w : World) : Prop where
  tabNone : ∀ j, j < 24 → w.cell? ⟨0, j, none⟩ = some (.int .i32 (noneL.getD j 0))
  tabWide : ∀ j, j < 32 → w.cell? ⟨1, j, none⟩ = some (.int .i32 (wideL.getD j 0))
theorem GOK.of_below {w w1 : World} (h : GOK w) (hb : Below w.heap.size w w1) : GOK w1 :=
  ⟨fun j hj => pw_cell_below hb (h.tabNone j hj), fun j hj => pw_cell_below hb (h.tabWide j hj)⟩
theorem GOK.of_drawn {w w1 : World} (h : GOK w) (hb : Drawn0 w w1) : GOK w1 := h.of_below hb.below

def inRange (ls : List Int) (n : Nat) (r : Int) : Bool := (List.range n).any fun j => decide (lowAt ls j ≤ r) && decide (r ≤ highAt ls j)
theorem inRange_true (ls : List Int) (n : Nat) (r : Int) : inRange ls n r = true ↔ InRange ls n r := by
  simp only [inRange, InRange, List.any_eq_true, List.mem_range, Bool.and_eq_true, decide_eq_true_eq]
def validB (r : Int) : Bool := decide (0 ≤ r) && (decide (r ≤ 1114111) && (decide (r < 55296) || decide (57343 < r)))
def controlB (r : Int) : Bool := (decide (0 ≤ r) && decide (r < 32)) || ((decide (127 ≤ r) && decide (r ≤ 159)) || (decide (r = 8232) || decide (r = 8233)))
def wid (r : Int) : Int := if validB r = false then 0 else if controlB r = true then 0 else if inRange noneL 12 r = true then 0 else if inRange wideL 16 r = true then 2 else 1
def runes_Width.f (a0 : Int) : Option Int := some (wid a0)

theorem valid_calls (a0 : Int) (w : World) : Calls Tryd.prog 11 #[.int .i32 a0] w fun e w' => e = .returned (.bool (validB a0)) ∧ w' = w := by
  by_cases h1 : 0 ≤ a0
  · by_cases h2 : a0 ≤ 1114111
    · by_cases h3 : a0 < 55296
      · go_enter Tryd.func11, Tryd.ntmps11
        go_wp2
        go_ret
        exact ⟨ret_bool (by rw [Bool.eq_iff_iff]; simp [validB]; omega), rfl⟩
      · go_enter Tryd.func11, Tryd.ntmps11
        go_wp2
        go_ret
        exact ⟨ret_bool (by rw [Bool.eq_iff_iff]; simp [validB]; omega), rfl⟩
    · go_enter Tryd.func11, Tryd.ntmps11
      go_wp2
      go_ret
      exact ⟨ret_bool (by rw [Bool.eq_iff_iff]; simp [validB]; omega), rfl⟩
  · go_enter Tryd.func11, Tryd.ntmps11
    go_wp2
    go_ret
    exact ⟨ret_bool (by rw [Bool.eq_iff_iff]; simp [validB]; omega), rfl⟩

theorem control_calls (a0 : Int) (w : World) : Calls Tryd.prog 12 #[.int .i32 a0] w fun e w' => e = .returned (.bool (controlB a0)) ∧ w' = w := by
  by_cases h1 : 0 ≤ a0 <;> by_cases h2 : a0 < 32 <;> by_cases h3 : 127 ≤ a0 <;> by_cases h4 : a0 ≤ 159
  all_goals first
    | (exfalso; omega)
    | (by_cases h5 : a0 = 8232
       · have e5 : (a0 == 8232) = true := by simpa using h5
         have H5 := Lib.hid h5
         clear h5
         go_enter Tryd.func12, Tryd.ntmps12
         go_wp2
         go_ret
         exact ⟨ret_bool (by simp [controlB, h1, h2, h3, h4, H5.out]), rfl⟩
       · have e5 : (a0 == 8232) = false := by simpa using h5
         by_cases h6 : a0 = 8233
         · have e6 : (a0 == 8233) = true := by simpa using h6
           have H6 := Lib.hid h6
           clear h6
           go_enter Tryd.func12, Tryd.ntmps12
           go_wp2
           go_ret
           exact ⟨ret_bool (by simp [controlB, h1, h2, h3, h4, H6.out]), rfl⟩
         · have e6 : (a0 == 8233) = false := by simpa using h6
           go_enter Tryd.func12, Tryd.ntmps12
           go_wp2
           go_ret
           exact ⟨ret_bool (by simp [controlB, h1, h2, h3, h4, h5, h6]), rfl⟩)

theorem none_cells {w : World} (h : GOK w) : ∀ j, j < 12 → w.cell? ⟨0, j * 2, none⟩ = some (.int .i32 (lowAt noneL j)) ∧ w.cell? ⟨0, j * 2 + 1, none⟩ = some (.int .i32 (highAt noneL j)) :=
  fun j hj => ⟨h.tabNone (j * 2) (by omega), h.tabNone (j * 2 + 1) (by omega)⟩
theorem wide_cells {w : World} (h : GOK w) : ∀ j, j < 16 → w.cell? ⟨1, j * 2, none⟩ = some (.int .i32 (lowAt wideL j)) ∧ w.cell? ⟨1, j * 2 + 1, none⟩ = some (.int .i32 (highAt wideL j)) :=
  fun j hj => ⟨h.tabWide (j * 2) (by omega), h.tabWide (j * 2 + 1) (by omega)⟩

set_option maxHeartbeats 1000000 in
theorem runes_Width.calls (a0 : Int) (r : Int) (w : World) (hG : GOK w) (h : runes_Width.f a0 = some r) :
    Calls Tryd.prog 13 #[.int .i32 a0] w fun e w' => e = .returned (.int .i64 r) ∧ Drawn0 w w' := by
  obtain rfl := Option.some.inj h
  clear h
  have HN := Lib.hid (none_cells hG)
  have HW := Lib.hid (wide_cells hG)
  clear hG
  by_cases h1 : validB a0 = true
  · by_cases h2 : controlB a0 = true
    · go_enter Tryd.func13, Tryd.ntmps13
      go_wp2_with (first | (go_at_call 11; refine (valid_calls _ _).mono ?_; rintro e w' ⟨rfl, rfl⟩) | (go_at_call 12; refine (control_calls _ _).mono ?_; rintro e w' ⟨rfl, rfl⟩))
      go_ret
      exact ⟨by simp [wid, h1, h2], Drawn0.refl _⟩
    · by_cases h3 : inRange noneL 12 a0 = true
      · go_enter Tryd.func13, Tryd.ntmps13
        go_wp2_with (first | (go_at_call 11; refine (valid_calls _ _).mono ?_; rintro e w' ⟨rfl, rfl⟩) | (go_at_call 12; refine (control_calls _ _).mono ?_; rintro e w' ⟨rfl, rfl⟩) | (go_at_call 29; refine (runes_in.calls _ _ _ noneL _ _ (inRange_true _ _ _) (by omega) none_rises HN.out).mono ?_; rintro e w' ⟨rfl, rfl⟩))
        go_ret
        exact ⟨by simp [wid, h1, h2, h3], Drawn0.refl _⟩
      · by_cases h4 : inRange wideL 16 a0 = true
        · go_enter Tryd.func13, Tryd.ntmps13
          go_wp2_with (first | (go_at_call 11; refine (valid_calls _ _).mono ?_; rintro e w' ⟨rfl, rfl⟩) | (go_at_call 12; refine (control_calls _ _).mono ?_; rintro e w' ⟨rfl, rfl⟩) | (go_at_call 29; with_reducible refine (runes_in.calls _ 0 12 noneL _ _ (inRange_true _ _ _) (by omega) none_rises HN.out).mono ?_; rintro e w' ⟨rfl, rfl⟩) | (go_at_call 29; with_reducible refine (runes_in.calls _ 1 16 wideL _ _ (inRange_true _ _ _) (by omega) wide_rises HW.out).mono ?_; rintro e w' ⟨rfl, rfl⟩))
          go_ret
          exact ⟨by simp [wid, h1, h2, h3, h4], Drawn0.refl _⟩
        · go_enter Tryd.func13, Tryd.ntmps13
          go_wp2_with (first | (go_at_call 11; refine (valid_calls _ _).mono ?_; rintro e w' ⟨rfl, rfl⟩) | (go_at_call 12; refine (control_calls _ _).mono ?_; rintro e w' ⟨rfl, rfl⟩) | (go_at_call 29; with_reducible refine (runes_in.calls _ 0 12 noneL _ _ (inRange_true _ _ _) (by omega) none_rises HN.out).mono ?_; rintro e w' ⟨rfl, rfl⟩) | (go_at_call 29; with_reducible refine (runes_in.calls _ 1 16 wideL _ _ (inRange_true _ _ _) (by omega) wide_rises HW.out).mono ?_; rintro e w' ⟨rfl, rfl⟩))
          go_ret
          exact ⟨by simp [wid, h1, h2, h3, h4], Drawn0.refl _⟩
  · go_enter Tryd.func13, Tryd.ntmps13
    go_wp2_with (first | (go_at_call 11; refine (valid_calls _ _).mono ?_; rintro e w' ⟨rfl, rfl⟩) | (go_at_call 12; refine (control_calls _ _).mono ?_; rintro e w' ⟨rfl, rfl⟩))
    go_ret
    exact ⟨by simp [wid, h1], Drawn0.refl _⟩
end Go.Proofs.YtaoiogpgncjolaaDoor.Hand
