/- A row trimmed. -/
import Derived.Test.YtdcbaefcgghbmaaDoorSpecB
import Derived.Test.YtdcbaefcgghbmaaDoorX12
namespace Go.Proofs.YtdcbaefcgghbmaaDoor.Pure
open Go.RowKit Go.Proofs.YtdcbaefcgghbmaaDoorW.PrintWords Go.Proofs.YtdcbaefcgghbmaaDoorW.PrintLast Go.Proofs.YtdcbaefcgghbmaaDoorW.PrintMore Go.Proofs.YtdcbaefcgghbmaaDoor.X Go.Proofs.YtdcbaefcgghbmaaDoor.Hand
set_option linter.unusedSimpArgs false
set_option linter.unusedVariables false
theorem clone_eq {l : List Gl} (h : l.length < 17592186044416) : clone_G.f l = some l := by
  unfold clone_G.f
  rw [if_pos h]
/-- So many are left of a row trimmed. -/
structure IsTrim (l : List Gl) (m : Nat) : Prop where
  le : m ≤ l.length
  last : ∀ g : Gl, 0 < m → l[m - 1]? = some g → g.f0 ≠ 32
  rest : ∀ (i : Nat) (g : Gl), m ≤ i → l[i]? = some g → g.f0 = 32
theorem exists_trim (l : List Gl) : ∃ m, IsTrim l m := by
  have h : ∀ n, n ≤ l.length → ∃ m, m ≤ n ∧ (∀ g : Gl, 0 < m → l[m - 1]? = some g → g.f0 ≠ 32) ∧ ∀ (i : Nat) (g : Gl), m ≤ i → i < n → l[i]? = some g → g.f0 = 32 := by
    intro n
    induction n with
    | zero => exact fun _ => ⟨0, Nat.le_refl _, fun g h => absurd h (by omega), fun i g _ h => absurd h (by omega)⟩
    | succ n ih =>
      intro hn
      by_cases hc : (l[n]'(by omega)).f0 = 32
      · obtain ⟨m, h1, h2, h3⟩ := ih (by omega)
        refine ⟨m, by omega, h2, fun i g hi hlt hg => ?_⟩
        by_cases e : i = n
        · subst e
          rw [List.getElem?_eq_getElem (by omega)] at hg
          obtain rfl := Option.some.inj hg
          exact hc
        · exact h3 i g hi (by omega) hg
      · refine ⟨n + 1, Nat.le_refl _, fun g _ hg => ?_, fun i g hi hlt => by omega⟩
        rw [Nat.add_sub_cancel, List.getElem?_eq_getElem (by omega)] at hg
        obtain rfl := Option.some.inj hg
        exact hc
  obtain ⟨m, h1, h2, h3⟩ := h l.length (Nat.le_refl _)
  exact ⟨m, h1, h2, fun i g hi hg => h3 i g hi (List.getElem?_eq_some_iff.1 hg).1 hg⟩
theorem trim_ev {l : List Gl} {m : Nat} (hm : IsTrim l m) (h : l.length < 17592186044416) : Ev (fun k => cells_Trim.f k l) (l.take m) := by
  have hle := hm.le
  have hend : (if 0 ≤ (m : Int) then (if (m : Int) ≤ (l.length : Int) then ((clone_G.f (l.take (m : Int).toNat)).bind fun t286 => (some t286)) else (none)) else (none)) = some (l.take m) := by
    rw [if_pos (by omega), if_pos (by omega), Int.toNat_natCast, clone_eq (by rw [List.length_take]; omega), Option.bind_some]
  have key : ∀ d n, n - m = d → m ≤ n → n ≤ l.length → Ev (fun k => cells_Trim.l0 k l (n : Int)) (l.take m) := by
    intro d
    induction d with
    | zero =>
      intro n hd h1 h2
      obtain rfl : n = m := by omega
      refine Ev.step (f := fun _ => some (l.take n)) (fun k => ?_) (Ev.now _)
      simp only [cells_Trim.l0]
      by_cases hp : 0 < n
      · have hg := hm.last l[n - 1] hp (List.getElem?_eq_getElem (by omega))
        rw [if_pos (by omega), wrap_of (by omega) (by omega), show (n : Int) - 1 = ((n - 1 : Nat) : Int) by omega, if_pos (by omega), if_pos (by omega), rdG l (n - 1) (by omega), if_neg hg, hend]
      · rw [if_neg (by omega), hend]
    | succ d ih =>
      intro n hd h1 h2
      have hg := hm.rest (n - 1) (l[n - 1]'(by omega)) (by omega) (List.getElem?_eq_getElem (by omega))
      refine Ev.step (f := fun k => cells_Trim.l0 k l ((n - 1 : Nat) : Int)) (fun k => ?_) (ih (n - 1) (by omega) (by omega) (by omega))
      simp only [cells_Trim.l0]
      rw [if_pos (by omega), wrap_of (by omega) (by omega), show (n : Int) - 1 = ((n - 1 : Nat) : Int) by omega, if_pos (by omega), if_pos (by omega), rdG l (n - 1) (by omega), if_pos hg]
  unfold cells_Trim.f
  exact key (l.length - m) l.length rfl hle (Nat.le_refl _)
end Go.Proofs.YtdcbaefcgghbmaaDoor.Pure
