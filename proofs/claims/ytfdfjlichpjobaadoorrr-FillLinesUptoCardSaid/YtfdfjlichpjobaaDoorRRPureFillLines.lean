/- FillLines: any words, in lines of any room, and whether any one is forced, is what the chapter says. The plain law. -/
import Derived.Test.YtfdfjlichpjobaaDoorRRSpecG
import Derived.Test.YtfdfjlichpjobaaDoorRRSaidFillLines
namespace Go.Proofs.YtfdfjlichpjobaaDoorRR.Pure
open Go.RowKit Go.Proofs.YtfdfjlichpjobaaDoorRRW.PrintWords Go.Proofs.YtfdfjlichpjobaaDoorRRW.PrintLast Go.Proofs.YtfdfjlichpjobaaDoorRRW.PrintMore Go.Proofs.YtfdfjlichpjobaaDoorRR.X Go.Proofs.YtfdfjlichpjobaaDoorRR.Hand
set_option linter.unusedVariables false
set_option linter.unusedSimpArgs false
theorem FillLines : flonglaw12_FillLines.PureSaid := by
  intro W ws hW _ hf hb
  have ht : tot ws ≤ 1048576 := hb
  have hl := tot_length ws
  refine Ev.rounds (g := fun k => flonglaw12_FillLines.f k W ws) ?_
  unfold flonglaw12_FillLines.f
  refine loop_up (fun k n i => flonglaw12_FillLines.l0 k W ws n i) ws.length (fun _ _ => true) (fun n i => n + tot (ws.drop i) = (tot ws : Int)) ?_ ?_ 0 0 (by omega) (by simp)
  · intro n hn
    rw [List.drop_length, tot_nil] at hn
    refine Ev.step (f := fun k => if n > 300 then ((flonglaw12_known.f k).bind fun t => some t) else flonglaw12_FillLines.l1 k W ws 0) (fun k => by simp only [flonglaw12_FillLines.l0]; rw [if_neg (by omega)]) (ev_ite (fun _ => Ev.bind known_ev (Ev.now _)) (fun h => ?_))
    have ht3 : tot ws ≤ 300 := by omega
    have htl := fillL_tot W ws
    refine loop_up (σ := Unit) (fun k _ i => flonglaw12_FillLines.l1 k W ws i) ws.length (fun _ _ => true) (fun _ _ => True) ?_ ?_ () 0 (by omega) trivial
    · intro _ _
      refine Ev.step (f := fun k => (fill_Lines.f W ws).bind fun t => (flongref12_Lines.f k W ws).bind fun t2 => (flongref03_SameRows.f k t t2).bind fun t3 => if t3 = true then ((flonglaw12_known.f k).bind fun t4 => some t4) else some false) (fun k => by simp only [flonglaw12_FillLines.l1]; rw [if_neg (by omega)]) ?_
      exact ev_bind1 (lines_eq (by omega)) (Ev.bind (rlines_ev (by omega)) (Ev.bind (same_tot (by omega)) (ev_pos rfl (Ev.bind known_ev (Ev.now _)))))
    · intro _ i hi _ ih
      have hm := tot_mem (List.getElem_mem hi)
      refine Ev.step (f := fun k => (fill_Forced.f k W ws[i]).bind fun t => (flongref03_Width.f k ws[i]).bind fun t2 => if (t != (decide (t2 > W))) = true then some false else flonglaw12_FillLines.l1 k W ws ((i + 1 : Nat) : Int)) (fun k => ?_) (Ev.bind (forced_ev W ws[i] (by omega)) (Ev.bind (rgwidth_ev ws[i] (by omega)) (ev_neg (by simp) (ih () trivial))))
      simp only [flonglaw12_FillLines.l1]
      rw [if_pos (by omega), if_pos (by omega), rdL ws i hi, wrap_up hi (by omega)]
  · intro n i hi hn ih
    have hd := tot_take_drop ws i
    have h0 : 0 ≤ n := by omega
    rw [List.drop_eq_getElem_cons hi, tot_cons] at hn
    have hm := tot_mem (List.getElem_mem hi)
    refine Ev.step (f := fun k => flonglaw12_FillLines.l0 k W ws (n + 1 + (ws[i].length : Int)) ((i + 1 : Nat) : Int)) (fun k => ?_) (ih (n + 1 + (ws[i].length : Int)) (by omega))
    simp only [flonglaw12_FillLines.l0]
    rw [if_pos (by omega), if_pos (by omega), rdL ws i hi, wrap_up hi (by omega), wrap_of (x := n + 1) (by omega) (by omega), wrap_of (x := n + 1 + ((ws[i].length : Nat) : Int)) (by omega) (by omega)]
end Go.Proofs.YtfdfjlichpjobaaDoorRR.Pure
