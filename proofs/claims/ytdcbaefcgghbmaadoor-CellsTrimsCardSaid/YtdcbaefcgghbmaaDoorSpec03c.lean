/- Blanks, a row filled up, a row trimmed. -/
import Derived.Test.YtdcbaefcgghbmaaDoorSpecB
import Derived.Test.YtdcbaefcgghbmaaDoorX9
import Derived.Test.YtdcbaefcgghbmaaDoorX10
import Derived.Test.YtdcbaefcgghbmaaDoorX12
import Derived.Test.YtdcbaefcgghbmaaDoorHandR
namespace Go.Proofs.YtdcbaefcgghbmaaDoor.Pure
open Go.RowKit Go.Proofs.YtdcbaefcgghbmaaDoorW.PrintWords Go.Proofs.YtdcbaefcgghbmaaDoorW.PrintLast Go.Proofs.YtdcbaefcgghbmaaDoorW.PrintMore Go.Proofs.YtdcbaefcgghbmaaDoor.X Go.Proofs.YtdcbaefcgghbmaaDoor.Hand
set_option linter.unusedSimpArgs false
set_option linter.unusedVariables false
def sp : Gl := ⟨32, 0⟩
theorem wid_sp : wid sp.f0 = 1 := by decide +kernel
theorem mx_mn (a : Int) : mx 0 (mn a 65535) = max 0 (min a 65535) := by
  unfold mx mn
  omega
theorem blank_eq (a : Int) : cells_Blank.f a = some (List.replicate (max 0 (min a 65535)).toNat sp) := by
  unfold cells_Blank.f repeat_G.f
  rw [mx_mn, if_pos ⟨rfl, by omega, by omega⟩, Option.bind_some]
  rfl
theorem clone_eq {l : List Gl} (h : l.length < 17592186044416) : clone_G.f l = some l := by
  unfold clone_G.f
  rw [if_pos h]
/-- How many blanks fill a row up. -/
def lack (l : List Gl) (w : Int) : Nat := (max 0 (min w 65535) - width l).toNat
theorem lack_le (l : List Gl) (w : Int) : lack l w ≤ 65535 := by
  have := width_range l
  unfold lack
  omega
theorem fill_ev (l : List Gl) (w : Int) (h : l.length < 1000000000) : Ev (fun k => cells_Fill.f k l w) (l ++ List.replicate (lack l w) sp) := by
  have hw := width_range l
  unfold cells_Fill.f
  refine ev_bind1 (clone_eq (by omega)) (Ev.bind (width_ev l (by omega)) ?_)
  rw [mx_mn, wrap_of (by omega) (by omega)]
  refine ev_bind1 (blank_eq _) ?_
  have e : (max 0 (min (max 0 (min w 65535) - width l) 65535)).toNat = lack l w := by
    unfold lack
    omega
  rw [e]
  have := lack_le l w
  exact ev_pos (by rw [List.length_replicate]; omega) (Ev.now _)
theorem width_blanks (n : Nat) : width (List.replicate n sp) = n := by
  induction n with
  | zero => rfl
  | succ n ih =>
    rw [List.replicate_succ, width_cons, ih, wid_sp]
    omega
/-- So many are left of a row trimmed. -/
structure IsTrim (l : List Gl) (m : Nat) : Prop where
  le : m ≤ l.length
  last : ∀ g : Gl, 0 < m → l[m - 1]? = some g → g.f0 ≠ 32
  rest : ∀ (i : Nat) (g : Gl), m ≤ i → l[i]? = some g → g.f0 = 32
theorem exists_trim (l : List Gl) : ∃ m, IsTrim l m := by
  have h : ∀ n, n ≤ l.length → ∃ m, m ≤ n ∧ (∀ g : Gl, 0 < m → l[m - 1]? = some g → g.f0 ≠ 32) ∧ ∀ (i : Nat) (g : Gl), m ≤ i → i < n → l[i]? = some g → g.f0 = 32 := by
    intro n
    induction n with
    | zero => exact fun _ => ⟨0, Nat.le_refl _, fun g h => absurd h (by omega), fun i g _ h => absurd h (by omega)⟩
    | succ n ih =>
      intro hn
      by_cases hc : (l[n]'(by omega)).f0 = 32
      · obtain ⟨m, h1, h2, h3⟩ := ih (by omega)
        refine ⟨m, by omega, h2, fun i g hi hlt hg => ?_⟩
        by_cases e : i = n
        · subst e
          rw [List.getElem?_eq_getElem (by omega)] at hg
          obtain rfl := Option.some.inj hg
          exact hc
        · exact h3 i g hi (by omega) hg
      · refine ⟨n + 1, Nat.le_refl _, fun g _ hg => ?_, fun i g hi hlt => by omega⟩
        rw [Nat.add_sub_cancel, List.getElem?_eq_getElem (by omega)] at hg
        obtain rfl := Option.some.inj hg
        exact hc
  obtain ⟨m, h1, h2, h3⟩ := h l.length (Nat.le_refl _)
  exact ⟨m, h1, h2, fun i g hi hg => h3 i g hi (List.getElem?_eq_some_iff.1 hg).1 hg⟩
theorem IsTrim.more {l : List Gl} {m : Nat} (h : IsTrim l m) (n : Nat) : IsTrim (l ++ List.replicate n sp) m := by
  refine ⟨by have := h.le; rw [List.length_append]; omega, fun g hm hg => ?_, fun i g hi hg => ?_⟩
  · rw [List.getElem?_append_left (by have := h.le; omega)] at hg
    exact h.last g hm hg
  · by_cases hl : i < l.length
    · rw [List.getElem?_append_left hl] at hg
      exact h.rest i g hi hg
    · rw [List.getElem?_append_right (by omega)] at hg
      obtain ⟨hlt, e⟩ := List.getElem?_eq_some_iff.1 hg
      rw [List.getElem_replicate] at e
      rw [← e]
      rfl
theorem trim_ev {l : List Gl} {m : Nat} (hm : IsTrim l m) (h : l.length < 17592186044416) : Ev (fun k => cells_Trim.f k l) (l.take m) := by
  have hle := hm.le
  have hend : (if 0 ≤ (m : Int) then (if (m : Int) ≤ (l.length : Int) then ((clone_G.f (l.take (m : Int).toNat)).bind fun t286 => (some t286)) else (none)) else (none)) = some (l.take m) := by
    rw [if_pos (by omega), if_pos (by omega), Int.toNat_natCast, clone_eq (by rw [List.length_take]; omega), Option.bind_some]
  have key : ∀ d n, n - m = d → m ≤ n → n ≤ l.length → Ev (fun k => cells_Trim.l0 k l (n : Int)) (l.take m) := by
    intro d
    induction d with
    | zero =>
      intro n hd h1 h2
      obtain rfl : n = m := by omega
      refine Ev.step (f := fun _ => some (l.take n)) (fun k => ?_) (Ev.now _)
      simp only [cells_Trim.l0]
      by_cases hp : 0 < n
      · have hg := hm.last l[n - 1] hp (List.getElem?_eq_getElem (by omega))
        rw [if_pos (by omega), wrap_of (by omega) (by omega), show (n : Int) - 1 = ((n - 1 : Nat) : Int) by omega, if_pos (by omega), if_pos (by omega), rdG l (n - 1) (by omega), if_neg hg, hend]
      · rw [if_neg (by omega), hend]
    | succ d ih =>
      intro n hd h1 h2
      have hg := hm.rest (n - 1) (l[n - 1]'(by omega)) (by omega) (List.getElem?_eq_getElem (by omega))
      refine Ev.step (f := fun k => cells_Trim.l0 k l ((n - 1 : Nat) : Int)) (fun k => ?_) (ih (n - 1) (by omega) (by omega) (by omega))
      simp only [cells_Trim.l0]
      rw [if_pos (by omega), wrap_of (by omega) (by omega), show (n : Int) - 1 = ((n - 1 : Nat) : Int) by omega, if_pos (by omega), if_pos (by omega), rdG l (n - 1) (by omega), if_pos hg]
  unfold cells_Trim.f
  exact key (l.length - m) l.length rfl hle (Nat.le_refl _)
theorem front_fits (w : Int) : ∀ (l : List Gl) (n : Int), n ≤ w → n + width (l.take (front w n l)) ≤ w
  | [], n, h => by simpa [front, width_nil] using h
  | g :: t, n, h => by
    rw [front]
    split
    · simpa [width_nil] using h
    · rename_i hc
      have := front_fits w t (n + wid g.f0) (by omega)
      rw [List.take_succ_cons, width_cons]
      omega
theorem front_next (w : Int) : ∀ (l : List Gl) (n : Int) (g : Gl), l[front w n l]? = some g → n + width (l.take (front w n l)) + wid g.f0 > w
  | [], n, g, h => by simp [front] at h
  | x :: t, n, g, h => by
    rw [front] at h ⊢
    split at h
    · rename_i hc
      rw [if_pos hc]
      simp at h
      subst h
      simpa [width_nil] using hc
    · rename_i hc
      rw [if_neg hc]
      rw [List.getElem?_cons_succ] at h
      have := front_next w t (n + wid x.f0) g h
      rw [List.take_succ_cons, width_cons]
      omega
end Go.Proofs.YtdcbaefcgghbmaaDoor.Pure
