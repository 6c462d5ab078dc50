/- SpecA: several of this session's texts in one. -/
import Derived.Test.YtaoiogpgncjolaaDoorWMore
import Derived.Test.YtaoiogpgncjolaaDoorHandA
import Derived.Test.YtaoiogpgncjolaaDoorX1
/- Plain lemmas on printed functions: what holds from some number of rounds on. -/
namespace Go.Proofs.YtaoiogpgncjolaaDoor.Pure
open Go.RowKit Go.Proofs.YtaoiogpgncjolaaDoorW.PrintWords Go.Proofs.YtaoiogpgncjolaaDoorW.PrintLast

theorem ev_pos {α : Type} {c : Prop} [Decidable c] {f g : Nat → Option α} {r : α} (h : c) (k : Ev f r) : Ev (fun n => if c then f n else g n) r := by
  obtain ⟨K, k⟩ := k
  exact ⟨K, fun n hn => by simp only [if_pos h]; exact k n hn⟩
theorem ev_neg {α : Type} {c : Prop} [Decidable c] {f g : Nat → Option α} {r : α} (h : ¬ c) (k : Ev g r) : Ev (fun n => if c then f n else g n) r := by
  obtain ⟨K, k⟩ := k
  exact ⟨K, fun n hn => by simp only [if_neg h]; exact k n hn⟩
theorem ev_ite {α : Type} {c : Prop} [Decidable c] {f g : Nat → Option α} {r : α} (h : c → Ev f r) (k : ¬ c → Ev g r) : Ev (fun n => if c then f n else g n) r := by
  by_cases hc : c
  · exact ev_pos hc (h hc)
  · exact ev_neg hc (k hc)
theorem ev_eq {α : Type} {g : Nat → Option α} {r r' : α} (h : Ev g r) (e : r = r') : Ev g r' := e ▸ h
/-- What answers at once. -/
theorem ev_bind1 {α β : Type} {g : Option α} {f : Nat → α → Option β} {a : α} {r : β} (h : g = some a) (k : Ev (fun n => f n a) r) : Ev (fun n => g.bind (f n)) r := by
  subst h
  exact k
theorem ev_one {α : Type} {g : Option α} {r : α} (h : g = some r) : Ev (fun _ => g) r := ⟨0, fun _ _ => h⟩
theorem ev_unique {α : Type} {g : Nat → Option α} {r r' : α} (h : Ev g r) (h' : Ev g r') : r = r' := by
  obtain ⟨K, h⟩ := h
  obtain ⟨K', h'⟩ := h'
  have h1 := h (max K K') (Nat.le_max_left _ _)
  have h2 := h' (max K K') (Nat.le_max_right _ _)
  exact Option.some.inj (h1.symm.trans h2)
theorem wrap_of {x : Int} (h0 : -9223372036854775808 ≤ x) (h1 : x ≤ 9223372036854775807) : wrap64 x = x := by
  unfold wrap64
  omega
theorem wrap32_of {x : Int} (h0 : -2147483648 ≤ x) (h1 : x ≤ 2147483647) : wrap32 x = x := by
  unfold wrap32
  omega
theorem wf_i32 {x : Int} (h : (Lit.int .i32 x).wf = true) : -2147483648 ≤ x ∧ x ≤ 2147483647 := by
  have h' : (decide (IntKind.min .i32 ≤ x) && decide (x ≤ IntKind.max .i32)) = true := h
  rw [Bool.and_eq_true, decide_eq_true_eq, decide_eq_true_eq, show IntKind.min .i32 = -2147483648 from rfl, show IntKind.max .i32 = 2147483647 from rfl] at h'
  exact h'
theorem wf_u8 {x : Int} (h : (Lit.int .u8 x).wf = true) : 0 ≤ x ∧ x ≤ 255 := by
  have h' : (decide (IntKind.min .u8 ≤ x) && decide (x ≤ IntKind.max .u8)) = true := h
  rw [Bool.and_eq_true, decide_eq_true_eq, decide_eq_true_eq, show IntKind.min .u8 = 0 from rfl, show IntKind.max .u8 = 255 from rfl] at h'
  exact h'
theorem wf_u16 {x : Int} (h : (Lit.int .u16 x).wf = true) : 0 ≤ x ∧ x ≤ 65535 := by
  have h' : (decide (IntKind.min .u16 ≤ x) && decide (x ≤ IntKind.max .u16)) = true := h
  rw [Bool.and_eq_true, decide_eq_true_eq, decide_eq_true_eq, show IntKind.min .u16 = 0 from rfl, show IntKind.max .u16 = 65535 from rfl] at h'
  exact h'
theorem wf_i64 {x : Int} (h : (Lit.int .i64 x).wf = true) : -9223372036854775808 ≤ x ∧ x ≤ 9223372036854775807 := by
  have h' : (decide (IntKind.min .i64 ≤ x) && decide (x ≤ IntKind.max .i64)) = true := h
  rw [Bool.and_eq_true, decide_eq_true_eq, decide_eq_true_eq, show IntKind.min .i64 = -9223372036854775808 from rfl, show IntKind.max .i64 = 9223372036854775807 from rfl] at h'
  exact h'
end Go.Proofs.YtaoiogpgncjolaaDoor.Pure

/- A list of numbers, read at a place. -/
namespace Go.Proofs.YtaoiogpgncjolaaDoor.Pure
open Go.RowKit Go.Proofs.YtaoiogpgncjolaaDoorW.PrintWords Go.Proofs.YtaoiogpgncjolaaDoorW.PrintLast Go.Proofs.YtaoiogpgncjolaaDoorW.PrintMore
set_option linter.unusedSimpArgs false
set_option linter.unusedVariables false
theorem rd_nat (l : List Int) (i : Nat) (h : i < l.length) : rd l (i : Int) = l[i] := by
  simp [rd, List.getD_eq_getElem?_getD, List.getElem?_eq_getElem h]
end Go.Proofs.YtaoiogpgncjolaaDoor.Pure

/- What package runes computes of one rune: its printed functions answer by plain functions. -/
namespace Go.Proofs.YtaoiogpgncjolaaDoor.Pure
open Go.RowKit Go.Proofs.YtaoiogpgncjolaaDoorW.PrintWords Go.Proofs.YtaoiogpgncjolaaDoorW.PrintLast Go.Proofs.YtaoiogpgncjolaaDoorW.PrintMore Go.Proofs.YtaoiogpgncjolaaDoor.X Go.Proofs.YtaoiogpgncjolaaDoor.Hand
set_option linter.unusedSimpArgs false

theorem valid_eq (a : Int) : runes_Valid.f a = some (validB a) := by
  unfold runes_Valid.f
  by_cases h1 : a ≥ 0 <;> by_cases h2 : a ≤ 1114111 <;> by_cases h3 : a < 55296 <;> simp only [h1, h2, h3, if_true, if_false] <;> congr 1 <;> (rw [Bool.eq_iff_iff]; simp [validB]; omega)

theorem validB_iff (a : Int) : validB a = true ↔ 0 ≤ a ∧ a ≤ 1114111 ∧ (a < 55296 ∨ 57343 < a) := by
  simp [validB]
theorem controlB_iff (a : Int) : controlB a = true ↔ (0 ≤ a ∧ a < 32) ∨ (127 ≤ a ∧ a ≤ 159) ∨ a = 8232 ∨ a = 8233 := by
  simp [controlB]

theorem control_ev (a : Int) : Ev (fun k => runes_Control.f k a) (controlB a) := by
  have j1 : ∀ x : Bool, Ev (fun k => runes_Control.j1 k a x) (x || (decide (a = 8232) || decide (a = 8233))) := by
    intro x
    refine Ev.step (f := fun _ => if x = true then some true else if a = 8232 then some true else if a = 8233 then some true else some false) (fun k => by simp only [runes_Control.j1]) ?_
    refine ev_one ?_
    cases x <;> simp
    split <;> simp_all
    split <;> simp_all
  have j0 : ∀ x : Bool, Ev (fun k => runes_Control.j0 k a x) (x || ((decide (127 ≤ a) && decide (a ≤ 159)) || (decide (a = 8232) || decide (a = 8233)))) := by
    intro x
    refine Ev.step (f := fun k => if x = true then runes_Control.j1 k a x else if a ≥ 127 then runes_Control.j1 k a (decide (a ≤ 159)) else runes_Control.j1 k a false) (fun k => by simp only [runes_Control.j0]) ?_
    refine ev_ite (fun h => ev_eq (j1 _) (by simp [h])) (fun h => ev_ite (fun h2 => ev_eq (j1 _) (by simp_all <;> omega)) (fun h2 => ev_eq (j1 _) (by simp_all <;> omega)))
  unfold runes_Control.f
  exact ev_ite (fun h => ev_eq (j0 _) (by simp_all [controlB] <;> omega)) (fun h => ev_eq (j0 _) (by simp_all [controlB] <;> omega))

/-- What may be written in a rune's place. -/
def safe (a : Int) : Int := if validB a = true ∧ controlB a = false then a else 65533
theorem safe_ev (a : Int) : Ev (fun k => runes_Safe.f k a) (safe a) := by
  unfold runes_Safe.f
  refine ev_bind1 (valid_eq a) ?_
  refine ev_ite (fun h => ?_) (fun h => ev_eq (Ev.now _) (by simp_all [safe]))
  refine Ev.bind (control_ev a) ?_
  refine ev_ite (fun h2 => ev_eq (Ev.now _) (by simp_all [safe])) (fun h2 => ev_eq (Ev.now _) (by simp_all [safe]))

theorem safe_valid (a : Int) : validB (safe a) = true := by
  unfold safe
  split
  · rename_i h
    exact h.1
  · decide +kernel
theorem safe_control (a : Int) : controlB (safe a) = false := by
  unfold safe
  split
  · rename_i h
    exact h.2
  · decide +kernel
theorem safe_safe (a : Int) : safe (safe a) = safe a := by
  have h1 := safe_valid a
  have h2 := safe_control a
  generalize safe a = b at h1 h2
  simp [safe, h1, h2]
theorem wid_range (a : Int) : 0 ≤ wid a ∧ wid a ≤ 2 := by
  unfold wid
  split
  · omega
  · split
    · omega
    · split
      · omega
      · split <;> omega
theorem wid_odd : wid 65533 = 1 := by decide +kernel
theorem safe_other {a : Int} (h : safe a ≠ a) : wid a = 0 ∧ safe a = 65533 := by
  unfold safe at h ⊢
  by_cases hv : validB a = true
  · cases hc : controlB a
    · simp [hv, hc] at h
    · simp [hv, hc, wid]
  · simp [hv, wid]
end Go.Proofs.YtaoiogpgncjolaaDoor.Pure

/- How wide a row of runes is. -/
namespace Go.Proofs.YtaoiogpgncjolaaDoor.Pure
open Go.RowKit Go.Proofs.YtaoiogpgncjolaaDoorW.PrintWords Go.Proofs.YtaoiogpgncjolaaDoorW.PrintLast Go.Proofs.YtaoiogpgncjolaaDoorW.PrintMore Go.Proofs.YtaoiogpgncjolaaDoor.X Go.Proofs.YtaoiogpgncjolaaDoor.Hand
set_option linter.unusedSimpArgs false
set_option linter.unusedVariables false
/-- How wide a row is. -/
def sum (l : List Int) : Int := (l.map wid).sum
theorem sum_nil : sum [] = 0 := rfl
theorem sum_cons (r : Int) (l : List Int) : sum (r :: l) = wid r + sum l := by simp [sum]
theorem sum_append (a b : List Int) : sum (a ++ b) = sum a + sum b := by simp [sum]
theorem sum_range (l : List Int) : 0 ≤ sum l ∧ sum l ≤ 2 * l.length := by
  induction l with
  | nil => simp [sum_nil]
  | cons r l ih =>
    have := wid_range r
    rw [sum_cons, List.length_cons]
    omega
end Go.Proofs.YtaoiogpgncjolaaDoor.Pure
