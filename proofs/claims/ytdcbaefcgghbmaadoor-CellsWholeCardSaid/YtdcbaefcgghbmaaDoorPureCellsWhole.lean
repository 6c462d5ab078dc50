/- CellsWhole: front and rest are the row; the front is no wider than it may be, and with the next one it would be; filled up it is as wide as it should be, or as it was. The plain law. -/
import Derived.Test.YtdcbaefcgghbmaaDoorSpecB
import Derived.Test.YtdcbaefcgghbmaaDoorSpec03c
import Derived.Test.YtdcbaefcgghbmaaDoorSaidCellsWhole
namespace Go.Proofs.YtdcbaefcgghbmaaDoor.Pure
open Go.RowKit Go.Proofs.YtdcbaefcgghbmaaDoorW.PrintWords Go.Proofs.YtdcbaefcgghbmaaDoorW.PrintLast Go.Proofs.YtdcbaefcgghbmaaDoor.X Go.Proofs.YtdcbaefcgghbmaaDoor.Hand
theorem whole_j2 (l : List Gl) (w : Int) (h0 : 0 ≤ w) (hw : w ≤ 2000) (h : l.length ≤ 200) : Ev (fun k => flonglaw03_CellsWhole.j2 k l w false) true := by
  have hr := width_range l
  refine Ev.step (f := fun k => ((cells_Fill.f k l w).bind fun t270 => ((cells_Width.f k t270).bind fun t273 => ((cells_Width.f k l).bind fun t274 => (if t273 = (mx w t274) then (if (t270.length : Int) ≥ (l.length : Int) then (if 0 ≤ (l.length : Int) then (if (l.length : Int) ≤ (t270.length : Int) then ((flongref03_Same.f k (t270.take ((l.length : Int) : Int).toNat) l).bind fun t279 => (if t279 = true then ((flonglaw03_known.f k).bind fun t280 => (some t280)) else (some false))) else (none)) else (none)) else (some false)) else (some false)))))) (fun k => by simp only [flonglaw03_CellsWhole.j2]; rw [if_neg (by simp)]) ?_
  have hk := lack_le l w
  have hlen : (l ++ List.replicate (lack l w) sp).length = l.length + lack l w := by rw [List.length_append, List.length_replicate]
  refine Ev.bind (fill_ev l w (by omega)) (Ev.bind (width_ev _ (by omega)) (Ev.bind (width_ev _ (by omega)) (ev_pos ?_ (ev_pos (by omega) (ev_pos (by omega) (ev_pos (by omega) (Ev.bind (gsame_true ?_ ?_) (ev_pos rfl (Ev.bind known_ev (Ev.now _))))))))))
  · rw [width_append, width_blanks]
    unfold lack mx
    split <;> omega
  · rw [Int.toNat_natCast, List.take_left']
    rfl
  · rw [List.length_take]
    omega
theorem whole_j1 (l : List Gl) (w : Int) (h0 : 0 ≤ w) (hw : w ≤ 2000) (h : l.length ≤ 200) : Ev (fun k => flonglaw03_CellsWhole.j1 k l w (l.take (front w 0 l)) (l.drop (front w 0 l)) false) true := by
  have hj := whole_j2 l w h0 hw h
  have hle := front_le w l 0
  have hr := width_range (l.take (front w 0 l))
  rw [List.length_take] at hr
  refine Ev.step (f := fun k => if ((l.drop (front w 0 l)).length : Int) > 0 then ((cells_Width.f k (l.take (front w 0 l))).bind fun t264 => (if 0 < ((l.drop (front w 0 l)).length : Int) then ((cells_Width.f k (([(⟨(rd_T28 (l.drop (front w 0 l)) 0).f0, (rd_T28 (l.drop (front w 0 l)) 0).f1⟩ : Gl)] : List Gl))).bind fun t269 => (flonglaw03_CellsWhole.j2 k l w (decide ((wrap64 (t264 + t269)) ≤ w)))) else (none))) else (flonglaw03_CellsWhole.j2 k l w false)) (fun k => by simp only [flonglaw03_CellsWhole.j1]; rw [if_neg (by simp)]) ?_
  refine ev_ite (fun hb => Ev.bind (width_ev _ (by rw [List.length_take]; omega)) (ev_pos hb (Ev.bind (width_ev _ (by simp)) ?_))) (fun _ => hj)
  have hb' : front w 0 l < l.length := by rw [List.length_drop] at hb; omega
  have hn := front_next w l 0 l[front w 0 l] (List.getElem?_eq_getElem hb')
  have hx := wid_range l[front w 0 l].f0
  have e0 : rd_T28 (l.drop (front w 0 l)) 0 = l[front w 0 l] := by
    have := rdG (l.drop (front w 0 l)) 0 (by rw [List.length_drop]; omega)
    simpa using this
  rw [e0]
  have e : width [(⟨l[front w 0 l].f0, l[front w 0 l].f1⟩ : Gl)] = wid l[front w 0 l].f0 := by
    rw [width_cons, width_nil, Int.add_zero]
  rw [e, wrap_of (by omega) (by omega), show decide (width (l.take (front w 0 l)) + wid l[front w 0 l].f0 ≤ w) = false by rw [decide_eq_false_iff_not]; omega]
  exact hj
theorem CellsWhole : flonglaw03_CellsWhole.PureSaid := by
  intro l w _ hf hw
  have h16 := wf_u16 hw
  refine Ev.rounds (g := fun k => flonglaw03_CellsWhole.f k l w) ?_
  have hk : Ev (fun k => flonglaw03_CellsWhole.j0 k l w true) true :=
    Ev.step (f := fun k => (flonglaw03_known.f k).bind fun t => some t) (fun k => by simp only [flonglaw03_CellsWhole.j0, if_true]) (Ev.bind known_ev (Ev.now _))
  unfold flonglaw03_CellsWhole.f
  rw [wrap_of (by omega) (by omega)]
  refine ev_ite (fun _ => hk) (fun h => ?_)
  by_cases h2 : w > 2000
  · simp only [h2, decide_true]
    exact hk
  · simp only [h2, decide_false]
    have hle := front_le w l 0
    refine Ev.step (f := fun k => ((cells_Cut.f k l w).bind fun bt253 => ((flongref03_Join.f bt253.1 bt253.2).bind fun t259 => ((flongref03_Same.f k t259 l).bind fun t262 => (if t262 = true then ((cells_Width.f k bt253.1).bind fun t263 => (flonglaw03_CellsWhole.j1 k l w bt253.1 bt253.2 (decide (t263 > w)))) else (flonglaw03_CellsWhole.j1 k l w bt253.1 bt253.2 true)))))) (fun k => by simp only [flonglaw03_CellsWhole.j0]; rw [if_neg (by simp)]) ?_
    have hff := front_fits w l 0 h16.1
    refine Ev.bind (cut_ev h16.1 (by omega)) (ev_bind1 (join_eq (by rw [List.length_take, List.length_drop]; omega)) (Ev.bind (gsame_true (List.take_append_drop _ _) (by rw [List.take_append_drop]; omega)) (ev_pos rfl (Ev.bind (width_ev _ (by rw [List.length_take]; omega)) ?_))))
    rw [show decide (width (l.take (front w 0 l)) > w) = false by rw [decide_eq_false_iff_not]; omega]
    exact whole_j1 l w h16.1 (by omega) (by omega)
end Go.Proofs.YtdcbaefcgghbmaaDoor.Pure
