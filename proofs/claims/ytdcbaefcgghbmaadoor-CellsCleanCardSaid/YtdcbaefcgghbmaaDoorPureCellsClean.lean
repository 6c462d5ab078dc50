/- CellsClean: what may be written may be written again, as it is: no control, nothing of no width at its begin. The plain law. -/
import Derived.Test.YtdcbaefcgghbmaaDoorSpecB
import Derived.Test.YtdcbaefcgghbmaaDoorSpecU
import Derived.Test.YtdcbaefcgghbmaaDoorSaidCellsClean
namespace Go.Proofs.YtdcbaefcgghbmaaDoor.Pure
open Go.RowKit Go.Proofs.YtdcbaefcgghbmaaDoorW.PrintWords Go.Proofs.YtdcbaefcgghbmaaDoorW.PrintLast Go.Proofs.YtdcbaefcgghbmaaDoor.X Go.Proofs.YtdcbaefcgghbmaaDoor.Hand
theorem safe_160 {x : Int} (h : x ≠ 160) : safe x ≠ 160 := by
  unfold safe
  split
  · exact h
  · decide
theorem and3 {x : Int} (h : 0 ≤ x ∧ x ≤ 255) : 0 ≤ Go.bits .and .u8 x 3 ∧ Go.bits .and .u8 x 3 ≤ 3 ∧ Go.bits .and .u8 (Go.bits .and .u8 x 3) 3 = Go.bits .and .u8 x 3 := by
  have h1 : ∀ n : Nat, n < 256 → 0 ≤ Go.bits .and .u8 (n : Int) 3 ∧ Go.bits .and .u8 (n : Int) 3 ≤ 3 ∧ Go.bits .and .u8 (Go.bits .and .u8 (n : Int) 3) 3 = Go.bits .and .u8 (n : Int) 3 := by decide +kernel
  obtain ⟨n, rfl⟩ := Int.eq_ofNat_of_zero_le h.1
  exact h1 n (by omega)
/-- Cleaned: what it is. -/
def Cl (g : Gl) : Prop := safe g.f0 = g.f0 ∧ g.f0 ≠ 160 ∧ 0 ≤ g.f1 ∧ g.f1 ≤ 3 ∧ Go.bits .and .u8 g.f1 3 = g.f1
theorem cleanG_Cl (g : Gl) (h : 0 ≤ g.f1 ∧ g.f1 ≤ 255) : Cl (cleanG g) := by
  have h3 := and3 h
  refine ⟨safe_safe _, safe_160 ?_, h3.1, h3.2.1, h3.2.2⟩
  split
  · decide
  · assumption
theorem cleanG_self {g : Gl} (h : Cl g) : cleanG g = g := by
  unfold cleanG
  rw [if_neg h.2.1, h.1, h.2.2.2.2]
theorem map_self {l : List Gl} (h : ∀ g ∈ l, Cl g) : l.map cleanG = l := by
  induction l with
  | nil => rfl
  | cons g l ih => rw [List.map_cons, cleanG_self (h g (by simp)), ih (fun x hx => h x (by simp [hx]))]
theorem clean_Cl (l : List Gl) (h : ∀ g ∈ l, 0 ≤ g.f1 ∧ g.f1 ≤ 255) : ∀ g ∈ clean l, Cl g := by
  intro g hg
  have := (List.dropWhile_sublist _).subset hg
  obtain ⟨x, hx, rfl⟩ := List.mem_map.1 this
  exact cleanG_Cl x (h x hx)
theorem dropWhile_twice {α : Type} (p : α → Bool) : ∀ l : List α, (l.dropWhile p).dropWhile p = l.dropWhile p
  | [] => rfl
  | a :: l => by
    rw [List.dropWhile_cons]
    split
    · exact dropWhile_twice p l
    · rename_i h
      rw [List.dropWhile_cons, if_neg h]
theorem dropWhile_head {α : Type} (p : α → Bool) : ∀ l : List α, ∀ h : 0 < (l.dropWhile p).length, p (l.dropWhile p)[0] = false
  | [], h => by simp at h
  | a :: l, h => by
    by_cases hp : p a = true
    · have e : (a :: l).dropWhile p = l.dropWhile p := by rw [List.dropWhile_cons, if_pos hp]
      simp only [e] at h ⊢
      exact dropWhile_head p l h
    · have e : (a :: l).dropWhile p = a :: l := by rw [List.dropWhile_cons, if_neg hp]
      simp only [e]
      simpa using hp
theorem clean_clean (l : List Gl) (h : ∀ g ∈ l, 0 ≤ g.f1 ∧ g.f1 ≤ 255) : clean (clean l) = clean l := by
  show ((clean l).map cleanG).dropWhile (fun g => !decide (wid g.f0 > 0)) = clean l
  rw [map_self (clean_Cl l h)]
  unfold clean
  exact dropWhile_twice _ _
theorem clean_length (l : List Gl) : (clean l).length ≤ l.length := by
  have := (List.dropWhile_sublist (fun g : Gl => !decide (wid g.f0 > 0)) (l := l.map cleanG)).length_le
  simpa [clean] using this
theorem clean_head (l : List Gl) (h : 0 < (clean l).length) : wid ((clean l)[0]).f0 ≠ 0 := by
  have := dropWhile_head (fun g : Gl => !decide (wid g.f0 > 0)) (l.map cleanG) h
  simp at this
  have h2 : 0 < wid ((clean l)[0]).f0 := this
  omega
theorem CellsClean : flonglaw03_CellsClean.PureSaid := by
  intro l _ hf
  refine Ev.rounds (g := fun k => flonglaw03_CellsClean.f k l) ?_
  unfold flonglaw03_CellsClean.f
  refine ev_ite (fun _ => Ev.bind known_ev (Ev.now _)) (fun h => ?_)
  have h8 : ∀ g ∈ l, 0 ≤ g.f1 ∧ g.f1 ≤ 255 := fun g hg => wf_u8 (hf g hg).2
  have hl := clean_length l
  have hC := clean_Cl l h8
  have hh := clean_head l
  have hcc := clean_clean l h8
  refine Ev.bind (clean_ev l (by omega)) (Ev.bind (clean_ev _ (by omega)) (Ev.bind (gsame_true hcc (by rw [hcc]; omega)) (ev_pos rfl (ev_neg (by omega) ?_))))
  generalize clean l = c at *
  have hj : Ev (fun k => flonglaw03_CellsClean.j0 k c false) true := by
    refine Ev.step (f := fun k => flonglaw03_CellsClean.l0 k c 0) (fun k => by simp only [flonglaw03_CellsClean.j0]; rw [if_neg (by simp)]) ?_
    refine loop_up (σ := Unit) (fun k _ i => flonglaw03_CellsClean.l0 k c i) c.length (fun _ _ => true) (fun _ _ => True) ?_ ?_ () 0 (by omega) trivial
    · intro _ _
      refine Ev.step (f := fun k => (cells_Same.f k c c).bind fun t => (if t = true then ((flonglaw03_known.f k).bind fun t205 => (some t205)) else (some false))) (fun k => by simp only [flonglaw03_CellsClean.l0]; rw [if_neg (by omega)]) ?_
      exact Ev.bind (csame_ev c c (by omega)) (ev_pos (by simp) (Ev.bind known_ev (Ev.now _)))
    · intro _ i hi _ ih
      have hg := hC c[i] (List.getElem_mem hi)
      refine Ev.step (f := fun k => flonglaw03_CellsClean.l0 k c ((i + 1 : Nat) : Int)) (fun k => ?_) (ih () trivial)
      simp only [flonglaw03_CellsClean.l0]
      rw [if_pos (by omega), if_pos (by omega), rdG c i hi, rsafe_eq, Option.bind_some, if_pos hg.1, if_neg hg.2.1, if_neg (by have := hg.2.2.2.1; omega), wrap_up hi (by omega)]
  refine ev_ite (fun hp => ev_pos (by omega) ?_) (fun _ => hj)
  have h0 : 0 < c.length := by omega
  rw [show (0 : Int) = ((0 : Nat) : Int) from rfl, rdG c 0 h0]
  refine Ev.bind (rwidth_ev _) ?_
  rw [show (wid c[0].f0 == ((0 : Nat) : Int)) = false by simpa using hh h0]
  exact hj
end Go.Proofs.YtdcbaefcgghbmaaDoor.Pure
