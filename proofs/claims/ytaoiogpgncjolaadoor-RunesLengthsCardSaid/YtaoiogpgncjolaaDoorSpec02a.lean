/- What package runes computes of one rune: its printed functions answer by plain functions. -/
import Derived.Test.YtaoiogpgncjolaaDoorEvKit
import Derived.Test.YtaoiogpgncjolaaDoorX1
namespace Go.Proofs.YtaoiogpgncjolaaDoor.Pure
open Go.RowKit Go.Proofs.YtaoiogpgncjolaaDoorW.PrintWords Go.Proofs.YtaoiogpgncjolaaDoorW.PrintLast Go.Proofs.YtaoiogpgncjolaaDoorW.PrintMore Go.Proofs.YtaoiogpgncjolaaDoor.X Go.Proofs.YtaoiogpgncjolaaDoor.Hand
set_option linter.unusedSimpArgs false

theorem valid_eq (a : Int) : runes_Valid.f a = some (validB a) := by
  unfold runes_Valid.f
  by_cases h1 : a ≥ 0 <;> by_cases h2 : a ≤ 1114111 <;> by_cases h3 : a < 55296 <;> simp only [h1, h2, h3, if_true, if_false] <;> congr 1 <;> (rw [Bool.eq_iff_iff]; simp [validB]; omega)

theorem validB_iff (a : Int) : validB a = true ↔ 0 ≤ a ∧ a ≤ 1114111 ∧ (a < 55296 ∨ 57343 < a) := by
  simp [validB]
theorem controlB_iff (a : Int) : controlB a = true ↔ (0 ≤ a ∧ a < 32) ∨ (127 ≤ a ∧ a ≤ 159) ∨ a = 8232 ∨ a = 8233 := by
  simp [controlB]

theorem control_ev (a : Int) : Ev (fun k => runes_Control.f k a) (controlB a) := by
  have j1 : ∀ x : Bool, Ev (fun k => runes_Control.j1 k a x) (x || (decide (a = 8232) || decide (a = 8233))) := by
    intro x
    refine Ev.step (f := fun _ => if x = true then some true else if a = 8232 then some true else if a = 8233 then some true else some false) (fun k => by simp only [runes_Control.j1]) ?_
    refine ev_one ?_
    cases x <;> simp
    split <;> simp_all
    split <;> simp_all
  have j0 : ∀ x : Bool, Ev (fun k => runes_Control.j0 k a x) (x || ((decide (127 ≤ a) && decide (a ≤ 159)) || (decide (a = 8232) || decide (a = 8233)))) := by
    intro x
    refine Ev.step (f := fun k => if x = true then runes_Control.j1 k a x else if a ≥ 127 then runes_Control.j1 k a (decide (a ≤ 159)) else runes_Control.j1 k a false) (fun k => by simp only [runes_Control.j0]) ?_
    refine ev_ite (fun h => ev_eq (j1 _) (by simp [h])) (fun h => ev_ite (fun h2 => ev_eq (j1 _) (by simp_all <;> omega)) (fun h2 => ev_eq (j1 _) (by simp_all <;> omega)))
  unfold runes_Control.f
  exact ev_ite (fun h => ev_eq (j0 _) (by simp_all [controlB] <;> omega)) (fun h => ev_eq (j0 _) (by simp_all [controlB] <;> omega))

/-- What may be written in a rune's place. -/
def safe (a : Int) : Int := if validB a = true ∧ controlB a = false then a else 65533
theorem safe_ev (a : Int) : Ev (fun k => runes_Safe.f k a) (safe a) := by
  unfold runes_Safe.f
  refine ev_bind1 (valid_eq a) ?_
  refine ev_ite (fun h => ?_) (fun h => ev_eq (Ev.now _) (by simp_all [safe]))
  refine Ev.bind (control_ev a) ?_
  refine ev_ite (fun h2 => ev_eq (Ev.now _) (by simp_all [safe])) (fun h2 => ev_eq (Ev.now _) (by simp_all [safe]))

theorem safe_valid (a : Int) : validB (safe a) = true := by
  unfold safe
  split
  · rename_i h
    exact h.1
  · decide +kernel
theorem safe_control (a : Int) : controlB (safe a) = false := by
  unfold safe
  split
  · rename_i h
    exact h.2
  · decide +kernel
theorem safe_safe (a : Int) : safe (safe a) = safe a := by
  have h1 := safe_valid a
  have h2 := safe_control a
  generalize safe a = b at h1 h2
  simp [safe, h1, h2]
theorem wid_range (a : Int) : 0 ≤ wid a ∧ wid a ≤ 2 := by
  unfold wid
  split
  · omega
  · split
    · omega
    · split
      · omega
      · split <;> omega
theorem wid_odd : wid 65533 = 1 := by decide +kernel
theorem safe_other {a : Int} (h : safe a ≠ a) : wid a = 0 ∧ safe a = 65533 := by
  unfold safe at h ⊢
  by_cases hv : validB a = true
  · cases hc : controlB a
    · simp [hv, hc] at h
    · simp [hv, hc, wid]
  · simp [hv, wid]
end Go.Proofs.YtaoiogpgncjolaaDoor.Pure
