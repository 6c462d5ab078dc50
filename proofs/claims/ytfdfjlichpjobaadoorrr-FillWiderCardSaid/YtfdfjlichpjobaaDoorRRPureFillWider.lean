/- FillWider: in more room no more lines; in room for the most one; in room for the least none is forced. The plain law. -/
import Derived.Test.YtfdfjlichpjobaaDoorRRSpecG
import Derived.Test.YtfdfjlichpjobaaDoorRRSaidFillWider
namespace Go.Proofs.YtfdfjlichpjobaaDoorRR.Pure
open Go.RowKit Go.Proofs.YtfdfjlichpjobaaDoorRRW.PrintWords Go.Proofs.YtfdfjlichpjobaaDoorRRW.PrintLast Go.Proofs.YtfdfjlichpjobaaDoorRRW.PrintMore Go.Proofs.YtfdfjlichpjobaaDoorRR.X Go.Proofs.YtfdfjlichpjobaaDoorRR.Hand
set_option linter.unusedVariables false
set_option linter.unusedSimpArgs false
theorem FillWider : flonglaw12_FillWider.PureSaid := by
  intro l a b _ hf ha hb
  have ha := wf_u16 ha
  have hb := wf_u16 hb
  refine Ev.rounds (g := fun k => flonglaw12_FillWider.f k l a b) ?_
  unfold flonglaw12_FillWider.f
  refine ev_ite (fun _ => Ev.bind known_ev (Ev.now _)) (fun h => ?_)
  have ht := words_tot l
  have hp : ∀ w ∈ words l, 0 < w.length := fun w hw => (words_pos hw).2
  rw [wrap_of (x := a) (by omega) (by omega), wrap_of (x := 1 + a) (by omega) (by omega), wrap_of (x := b) (by omega) (by omega), wrap_of (x := 1 + a + b) (by omega) (by omega)]
  have hmore := fillL_more (W := 1 + a) (W' := 1 + a + b) (by omega) (words l)
  have hone := fillL_most hp
  refine Ev.bind (text_ev12 _ l (by omega)) (Ev.bind (text_ev12 _ l (by omega)) (ev_neg (by omega) (Ev.bind (most_ev l (by omega)) (Ev.bind (text_ev12 _ l (by omega)) ?_))))
  rw [show decide (((fillL (width (joined (words l))) (words l)).length : Int) > 1) = false from decide_eq_false (by omega)]
  refine Ev.step (f := fun k => (fill_Least.f k l).bind fun t => (fill_Text.f k t l).bind fun t2 => flonglaw12_FillWider.l0 k l t2 0) (fun k => ?_) (Ev.bind (least_ev l (by omega)) (Ev.bind (text_ev12 _ l (by omega)) ?_))
  · simp only [flonglaw12_FillWider.j0]
    rw [if_neg (by simp)]
  have hr := fillL_least hp
  have hlt := fillL_tot (widest 0 (words l)) (words l)
  revert hr hlt
  generalize fillL (widest 0 (words l)) (words l) = ls
  intro hr hlt
  have hll := tot_length ls
  refine loop_up (σ := Unit) (fun k _ i => flonglaw12_FillWider.l0 k l ls i) ls.length (fun _ _ => true) (fun _ _ => True) ?_ ?_ () 0 (by omega) trivial
  · intro _ _
    refine Ev.step (f := fun k => (fill_Least.f k l).bind fun t => (fill_Most.f k l).bind fun t2 => if t ≤ t2 then ((flonglaw12_known.f k).bind fun t3 => some t3) else some false) (fun k => ?_) (Ev.bind (least_ev l (by omega)) (Ev.bind (most_ev l (by omega)) (ev_pos (least_most _) (Ev.bind known_ev (Ev.now _)))))
    simp only [flonglaw12_FillWider.l0]
    rw [if_neg (by omega)]
  · intro _ i hi _ ih
    have hm := tot_mem (List.getElem_mem hi)
    refine Ev.step (f := fun k => (fill_Least.f k l).bind fun t => (fill_Forced.f k t ls[i]).bind fun t2 => if t2 = true then some false else flonglaw12_FillWider.l0 k l ls ((i + 1 : Nat) : Int)) (fun k => ?_) (Ev.bind (least_ev l (by omega)) (Ev.bind (forced_ev _ ls[i] (by omega)) (ev_neg ?_ (ih () trivial))))
    · have e1 : (0 : Int) ≤ (i : Int) := by omega
      simp only [flonglaw12_FillWider.l0]
      rw [if_pos (by omega), wrap_up hi (by omega), rdL ls i hi]
      simp only [e1, if_true]
    · have := hr ls[i] (List.getElem_mem hi)
      simp
      omega
end Go.Proofs.YtfdfjlichpjobaaDoorRR.Pure
