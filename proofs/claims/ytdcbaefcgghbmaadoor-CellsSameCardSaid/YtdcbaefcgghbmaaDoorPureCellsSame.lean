/- CellsSame: whether any rows are the same is what the chapter says; runs, one behind the other, are the row; each is set in one way. The plain law. -/
import Derived.Test.YtdcbaefcgghbmaaDoorSpecB
import Derived.Test.YtdcbaefcgghbmaaDoorSpec03d
import Derived.Test.YtdcbaefcgghbmaaDoorSaidCellsSame
namespace Go.Proofs.YtdcbaefcgghbmaaDoor.Pure
open Go.RowKit Go.Proofs.YtdcbaefcgghbmaaDoorW.PrintWords Go.Proofs.YtdcbaefcgghbmaaDoorW.PrintLast Go.Proofs.YtdcbaefcgghbmaaDoor.X Go.Proofs.YtdcbaefcgghbmaaDoor.Hand
theorem rdL (l : List (List Gl)) (i : Nat) (h : i < l.length) : rd_L6 l (i : Int) = l[i] := by
  simp [rd_L6, List.getD_eq_getElem?_getD, List.getElem?_eq_getElem h]
theorem same_l0 (a b : List Gl) (rows : List (List Gl)) (hr : IsRuns rows a) (ha : a.length ≤ 300) : Ev (fun k => flonglaw03_CellsSame.l0 k a b rows [] 0) true := by
  have hn : rows.length ≤ 300 := by
    have h1 : ∀ rs : List (List Gl), (∀ r ∈ rs, 0 < r.length) → rs.length ≤ rs.flatten.length := by
      intro rs
      induction rs with
      | nil => simp
      | cons r rs ih =>
        intro h
        have h2 := ih (fun x hx => h x (by simp [hx]))
        have h3 := h r (by simp)
        simp only [List.flatten_cons, List.length_cons, List.length_append]
        omega
    have := h1 rows hr.pos
    rw [hr.flat] at this
    omega
  have hf : ∀ i, (rows.take i).flatten.length ≤ 300 := by
    intro i
    have h1 : (rows.take i).flatten ++ (rows.drop i).flatten = a := by rw [← List.flatten_append, List.take_append_drop, hr.flat]
    have h2 := congrArg List.length h1
    rw [List.length_append] at h2
    omega
  refine loop_up (fun k o i => flonglaw03_CellsSame.l0 k a b rows o i) rows.length (fun _ _ => true) (fun o i => o = (rows.take i).flatten) ?_ ?_ [] 0 (by omega) (by simp)
  · intro o ho
    rw [List.take_length, hr.flat] at ho
    subst ho
    refine Ev.step (f := fun k => ((flongref03_Same.f k o o).bind fun t224 => (if t224 = true then ((cells_Same.f k o b).bind fun t225 => ((flongref03_Same.f k o b).bind fun t226 => (if (t225 == t226) = true then ((flonglaw03_known.f k).bind fun t227 => (some t227)) else (some false)))) else (some false)))) (fun k => by simp only [flonglaw03_CellsSame.l0]; rw [if_neg (by omega)]) ?_
    exact Ev.bind (gsame_true rfl (by omega)) (ev_pos rfl (Ev.bind (csame_ev o b (by omega)) (Ev.bind (gsame_ev o b (by omega)) (ev_pos (by simp) (Ev.bind known_ev (Ev.now _))))))
  · intro o i hi ho ih
    have hp := hr.pos rows[i] (List.getElem_mem hi)
    have hih := ih (o ++ rows[i]) (by rw [ho, List.take_succ_eq_append_getElem hi, List.flatten_append]; simp)
    have hol : o.length + rows[i].length ≤ 300 := by
      have := hf (i + 1)
      rw [List.take_succ_eq_append_getElem hi, List.flatten_append, ← ho, List.length_append] at this
      simpa using this
    have h1 : Ev (fun k => flonglaw03_CellsSame.l1 k a b rows o (i : Int) 0) true := by
      refine loop_up (σ := Unit) (fun k _ j => flonglaw03_CellsSame.l1 k a b rows o (i : Int) j) rows[i].length (fun _ _ => true) (fun _ _ => True) ?_ ?_ () 0 (by omega) trivial
      · intro _ _
        refine Ev.step (f := fun k => flonglaw03_CellsSame.l0 k a b rows (o ++ rows[i]) ((i + 1 : Nat) : Int)) (fun k => ?_) hih
        simp only [flonglaw03_CellsSame.l1]
        rw [if_pos (by omega), if_pos (by omega), rdL rows i hi, if_neg (by omega), if_pos (by omega), wrap_up hi (by omega)]
      · intro _ j hj _ ih2
        refine Ev.step (f := fun k => flonglaw03_CellsSame.l1 k a b rows o (i : Int) ((j + 1 : Nat) : Int)) (fun k => ?_) (ih2 () trivial)
        simp only [flonglaw03_CellsSame.l1]
        have hs := hr.same rows[i] (List.getElem_mem hi) rows[i][j] (List.getElem_mem hj)
        rw [if_pos (by omega), if_pos (by omega), rdL rows i hi, if_pos (by omega), if_pos (by omega), if_pos (by omega), rdG rows[i] j hj, if_pos (show rows[i][j].f1 = (rd_T28 rows[i] 0).f1 from hs), wrap_up hj (by omega)]
    have h2 : Ev (fun k => flonglaw03_CellsSame.j2 k a b rows o (i : Int) false) true :=
      Ev.step (f := fun k => flonglaw03_CellsSame.l1 k a b rows o (i : Int) 0) (fun k => by simp only [flonglaw03_CellsSame.j2]; rw [if_neg (by simp)]) h1
    by_cases h0 : 0 < i
    · have hp1 := hr.pos (rows[i - 1]'(by omega)) (List.getElem_mem _)
      have ha1 := hr.alt (i - 1) (by omega)
      have e : rows[i - 1 + 1]'(by omega) = rows[i] := by
        congr 1
        omega
      rw [e] at ha1
      refine Ev.step (f := fun k => flonglaw03_CellsSame.j2 k a b rows o (i : Int) false) (fun k => ?_) h2
      simp only [flonglaw03_CellsSame.l0]
      rw [if_pos (by omega), if_pos (by omega), rdL rows i hi, if_neg (by omega), if_pos (by omega), if_pos (by omega), wrap_of (by omega) (by omega), show (i : Int) - 1 = ((i - 1 : Nat) : Int) by omega, if_pos (by omega), if_pos (by omega), rdL rows (i - 1) (by omega), if_pos (by omega)]
      rw [show ((rd_T28 rows[i] 0).f1 == (rd_T28 (rows[i - 1]'(by omega)) 0).f1) = false by simpa [hd] using ha1]
    · obtain rfl : i = 0 := by omega
      refine Ev.step (f := fun k => flonglaw03_CellsSame.j2 k a b rows o ((0 : Nat) : Int) false) (fun k => ?_) h2
      simp only [flonglaw03_CellsSame.l0]
      rw [if_pos (by omega), if_pos (by omega), rdL rows 0 hi, if_neg (by omega), if_neg (by omega)]
theorem CellsSame : flonglaw03_CellsSame.PureSaid := by
  intro a b _ _ _ _
  refine Ev.rounds (g := fun k => flonglaw03_CellsSame.f k a b) ?_
  have hk : Ev (fun k => flonglaw03_CellsSame.j0 k a b true) true :=
    Ev.step (f := fun k => (flonglaw03_known.f k).bind fun t => some t) (fun k => by simp only [flonglaw03_CellsSame.j0, if_true]) (Ev.bind known_ev (Ev.now _))
  unfold flonglaw03_CellsSame.f
  refine ev_ite (fun _ => hk) (fun h => ?_)
  by_cases h2 : (b.length : Int) > 300
  · simp only [h2, decide_true]
    exact hk
  · simp only [h2, decide_false]
    refine Ev.step (f := fun k => ((cells_Runs.f a).bind fun t207 => (flonglaw03_CellsSame.l0 k a b t207 ([] : List Gl) 0))) (fun k => by simp only [flonglaw03_CellsSame.j0]; rw [if_neg (by simp)]) ?_
    exact ev_bind1 (a := runs a) (by unfold cells_Runs.f; rw [if_pos (by omega)]) (same_l0 a b (runs a) (runs_IsRuns a) (by omega))
end Go.Proofs.YtdcbaefcgghbmaaDoor.Pure
