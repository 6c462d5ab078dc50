/- The two tables of package runes, and what a binary search over a table of ranges answers: the hand-proved half of runes.in. -/
import Derived.Test.YtaoiogpgncjolaaDoorProg
import Derived.Test.YtaoiogpgncjolaaDoorWMore
import Derived.WalkKit
import Derived.Lib.Hide
namespace Go.Proofs.YtaoiogpgncjolaaDoor.Hand
open Go.RowKit Go.Proofs.YtaoiogpgncjolaaDoorW.PrintWords Go.Proofs.YtaoiogpgncjolaaDoorW.PrintLast Go.Proofs.YtaoiogpgncjolaaDoorW.PrintMore

/-- A range's begin, and its end. -/
def lowAt (ls : List Int) (j : Nat) : Int := ls.getD (j * 2) 0
def highAt (ls : List Int) (j : Nat) : Int := ls.getD (j * 2 + 1) 0
/-- Ranges, two numbers each, that rise. -/
structure Rises (ls : List Int) (n : Nat) : Prop where
  ends : ∀ j k, j ≤ k → k < n → highAt ls j ≤ highAt ls k
  next : ∀ j k, j < k → k < n → highAt ls j < lowAt ls k

/-- A number lies in a range. -/
def InRange (ls : List Int) (n : Nat) (r : Int) : Prop := ∃ j, j < n ∧ lowAt ls j ≤ r ∧ r ≤ highAt ls j

theorem inRange_iff {ls : List Int} {n lo : Nat} {r : Int} (hr : Rises ls n) (h1 : ∀ j, j < lo → highAt ls j < r) (h2 : ∀ j, lo ≤ j → j < n → r ≤ highAt ls j) :
    InRange ls n r ↔ lo < n ∧ lowAt ls lo ≤ r := by
  constructor
  · rintro ⟨j, hj, ha, hb⟩
    have hlo : lo ≤ j := by
      rcases Nat.lt_or_ge j lo with h | h
      · have := h1 j h
        omega
      · exact h
    rcases Nat.lt_or_ge lo j with h | h
    · have h3 := hr.next lo j h hj
      have h4 := h2 lo (Nat.le_refl _) (by omega)
      omega
    · obtain rfl : lo = j := by omega
      exact ⟨hj, ha⟩
  · rintro ⟨h3, h4⟩
    exact ⟨lo, h3, h4, h2 lo (Nat.le_refl _) h3⟩

theorem ret_bool {a b : Bool} (h : a = b) : Ending.returned (.bool a) = .returned (.bool b) := by rw [h]

set_option maxHeartbeats 1000000 in
theorem runes_in.calls (a0 : Int) (g n : Nat) (ls : List Int) (r : Bool) (w : World) (hb : r = true ↔ InRange ls n a0) (hn : n ≤ 1000000) (hr : Rises ls n)
    (hc : ∀ j, j < n → w.cell? ⟨g, j * 2, none⟩ = some (.int .i32 (lowAt ls j)) ∧ w.cell? ⟨g, j * 2 + 1, none⟩ = some (.int .i32 (highAt ls j))) :
    Calls Tryd.prog 29 #[.int .i32 a0, .slice (some ⟨g, 0, none⟩) n n] w fun e w' => e = .returned (.bool r) ∧ w' = w := by
  have HR := Lib.hid hr
  have HC := Lib.hid hc
  have HB := Lib.hid hb
  clear hr hc hb
  go_enter Tryd.func29, Tryd.ntmps29
  go_wp2
  go_loop [5, 6] (fun lo hi => ∃ l h : Nat, l ≤ h ∧ h ≤ n ∧ lo = .int .i64 l ∧ hi = .int .i64 h ∧ Aside0 (∀ j, j < l → highAt ls j < a0) ∧ Aside0 (∀ j, h ≤ j → j < n → a0 ≤ highAt ls j))
    (fun lo hi => (intOf hi).toNat - (intOf lo).toNat)
  case atStart => exact ⟨0, n, Nat.zero_le _, Nat.le_refl _, rfl, rfl, ⟨fun j h => absurd h (Nat.not_lt_zero _)⟩, ⟨fun j h1 h2 => by omega⟩⟩
  case round =>
    obtain ⟨l, h, hlh, hh, rfl, rfl, h1, h2⟩ := hrel
    by_cases hlt : l < h
    · have hm : (l + h) / 2 < n := by omega
      have hcell := (HC.out ((l + h) / 2) hm).2
      by_cases hq : highAt ls ((l + h) / 2) < a0
      · go_wp2
        go_round
        case rel => exact ⟨(l + h) / 2 + 1, h, by omega, hh, by go_num, rfl, ⟨fun j hj => Int.lt_of_le_of_lt (HR.out.ends j ((l + h) / 2) (by omega) hm) hq⟩, h2⟩
        case measure => simp only [intOf]; omega
      · go_wp2
        go_round
        case rel => exact ⟨l, (l + h) / 2, by omega, by omega, rfl, by go_num, h1, ⟨fun j hj hj2 => Int.le_trans (by omega) (HR.out.ends ((l + h) / 2) j hj hj2)⟩⟩
        case measure => simp only [intOf]; omega
    · obtain rfl : l = h := by omega
      have HI := Lib.hid (HB.out.trans (inRange_iff HR.out h1.out h2.out))
      by_cases hl : l < n
      · have hcell := (HC.out l hl).1
        go_wp2
        go_ret
        exact ⟨ret_bool (by rw [Bool.eq_iff_iff, HI.out]; simp [hl]), rfl⟩
      · go_wp2
        go_ret
        exact ⟨ret_bool (by rw [Bool.eq_iff_iff, HI.out]; simp [hl]), rfl⟩
end Go.Proofs.YtaoiogpgncjolaaDoor.Hand
