/- CellsTrims: a row trimmed ends with no blank, and has lost nothing else; blanks behind it are lost again; filled up, and trimmed, it is what it was, trimmed. The plain law. -/
import Derived.Test.YtdcbaefcgghbmaaDoorSpecB
import Derived.Test.YtdcbaefcgghbmaaDoorSpec03c
import Derived.Test.YtdcbaefcgghbmaaDoorSaidCellsTrims
namespace Go.Proofs.YtdcbaefcgghbmaaDoor.Pure
open Go.RowKit Go.Proofs.YtdcbaefcgghbmaaDoorW.PrintWords Go.Proofs.YtdcbaefcgghbmaaDoorW.PrintLast Go.Proofs.YtdcbaefcgghbmaaDoor.X Go.Proofs.YtdcbaefcgghbmaaDoor.Hand
theorem trims_l0 (l : List Gl) (w n : Int) (m : Nat) (hm : IsTrim l m) (h : l.length ≤ 300) (h1 : 0 ≤ w ∧ w ≤ 65535) (h2 : 0 ≤ n ∧ n ≤ 255) : Ev (fun k => flonglaw03_CellsTrims.l0 k l w n (l.take m) (m : Int)) true := by
  have hle := hm.le
  refine loop_up (σ := Unit) (fun k _ i => flonglaw03_CellsTrims.l0 k l w n (l.take m) i) l.length (fun _ _ => true) (fun _ i => m ≤ i) ?_ ?_ () m hle (Nat.le_refl _)
  · intro _ _
    refine Ev.step (f := fun k => ((cells_Blank.f n).bind fun t307 => ((flongref03_Join.f l t307).bind fun t310 => ((cells_Fill.f k l w).bind fun t313 => ((cells_Trim.f k t310).bind fun t316 => ((flongref03_Same.f k t316 (l.take m)).bind fun t319 => (if t319 = true then ((cells_Trim.f k t313).bind fun t320 => ((flongref03_Same.f k t320 (l.take m)).bind fun t323 => (if t323 = true then ((cells_Blank.f n).bind fun t324 => (if (t324.length : Int) = n then ((flonglaw03_known.f k).bind fun t327 => (some t327)) else (some false))) else (some false)))) else (some false)))))))) (fun k => by simp only [flonglaw03_CellsTrims.l0]; rw [if_neg (by omega), wrap_of (x := n) (by omega) (by omega), wrap_of (x := w) (by omega) (by omega)]) ?_
    have hk := lack_le l w
    have hn : (max 0 (min n 65535)).toNat = n.toNat := by omega
    have ht : ∀ q : Nat, (l ++ List.replicate q sp).take m = l.take m := fun q => List.take_append_of_le_length hle
    have hlt : (l.take m).length ≤ 300 := by rw [List.length_take]; omega
    refine ev_bind1 (blank_eq n) ?_
    rw [hn]
    refine ev_bind1 (join_eq (by rw [List.length_replicate]; omega)) (Ev.bind (fill_ev l w (by omega)) (Ev.bind (trim_ev (hm.more _) (by rw [List.length_append, List.length_replicate]; omega)) (Ev.bind (gsame_true (ht _) (by rw [ht]; omega)) (ev_pos rfl (Ev.bind (trim_ev (hm.more _) (by rw [List.length_append, List.length_replicate]; omega)) (Ev.bind (gsame_true (ht _) (by rw [ht]; omega)) (ev_pos rfl (ev_bind1 (blank_eq n) (ev_pos (by rw [hn, List.length_replicate]; omega) (Ev.bind known_ev (Ev.now _)))))))))))
  · intro _ i hi hmi ih
    refine Ev.step (f := fun k => flonglaw03_CellsTrims.l0 k l w n (l.take m) ((i + 1 : Nat) : Int)) (fun k => ?_) (ih () (by omega))
    simp only [flonglaw03_CellsTrims.l0]
    rw [if_pos (by omega), if_pos (by omega), rdG l i hi, if_pos (hm.rest i l[i] hmi (List.getElem?_eq_getElem hi)), wrap_up hi (by omega)]
theorem CellsTrims : flonglaw03_CellsTrims.PureSaid := by
  intro l w n _ hf hw hn
  have h16 := wf_u16 hw
  have h8 := wf_u8 hn
  refine Ev.rounds (g := fun k => flonglaw03_CellsTrims.f k l w n) ?_
  have hk : Ev (fun k => flonglaw03_CellsTrims.j0 k l w n true) true :=
    Ev.step (f := fun k => (flonglaw03_known.f k).bind fun t => some t) (fun k => by simp only [flonglaw03_CellsTrims.j0, if_true]) (Ev.bind known_ev (Ev.now _))
  unfold flonglaw03_CellsTrims.f
  refine ev_ite (fun _ => hk) (fun h => ?_)
  by_cases h2 : w > 2000
  · simp only [h2, decide_true]
    exact hk
  · simp only [h2, decide_false]
    obtain ⟨m, hm⟩ := exists_trim l
    have hle := hm.le
    have hlen : (l.take m).length = m := by rw [List.length_take]; omega
    refine Ev.step (f := fun k => ((cells_Trim.f k l).bind fun t297 => (if (t297.length : Int) > (l.length : Int) then (flonglaw03_CellsTrims.j1 k l w n t297 true) else (if 0 ≤ (t297.length : Int) then (if (t297.length : Int) ≤ (l.length : Int) then ((flongref03_Same.f k (l.take ((t297.length : Int) : Int).toNat) t297).bind fun t304 => (if t304 = true then (if (t297.length : Int) > 0 then (if 0 ≤ (wrap64 ((t297.length : Int) - 1)) then (if (wrap64 ((t297.length : Int) - 1)) < (t297.length : Int) then (flonglaw03_CellsTrims.j1 k l w n t297 (((rd_T28 t297 (wrap64 ((t297.length : Int) - 1))).f0) == 32)) else (none)) else (none)) else (flonglaw03_CellsTrims.j1 k l w n t297 false)) else (flonglaw03_CellsTrims.j1 k l w n t297 true))) else (none)) else (none))))) (fun k => by simp only [flonglaw03_CellsTrims.j0]; rw [if_neg (by simp)]) ?_
    have hj : Ev (fun k => flonglaw03_CellsTrims.j1 k l w n (l.take m) false) true := by
      refine Ev.step (f := fun k => flonglaw03_CellsTrims.l0 k l w n (l.take m) (m : Int)) (fun k => by simp only [flonglaw03_CellsTrims.j1]; rw [if_neg (by simp), hlen]) (trims_l0 l w n m hm (by omega) h16 h8)
    refine Ev.bind (trim_ev hm (by omega)) (ev_neg (by rw [hlen]; omega) (ev_pos (by omega) (ev_pos (by rw [hlen]; omega) (Ev.bind (gsame_true (by rw [hlen, Int.toNat_natCast]) (by rw [List.length_take]; omega)) (ev_pos rfl (ev_ite (fun hp => ?_) (fun _ => hj)))))))
    rw [hlen] at hp ⊢
    rw [wrap_of (by omega) (by omega)]
    refine ev_pos (by omega) (ev_pos (by omega) ?_)
    rw [show (m : Int) - 1 = ((m - 1 : Nat) : Int) by omega, rdG (l.take m) (m - 1) (by rw [hlen]; omega)]
    have hne := hm.last l[m - 1] (by omega) (List.getElem?_eq_getElem (by omega))
    rw [List.getElem_take, show (l[m - 1].f0 == 32) = false by simpa using hne]
    exact hj
end Go.Proofs.YtdcbaefcgghbmaaDoor.Pure
