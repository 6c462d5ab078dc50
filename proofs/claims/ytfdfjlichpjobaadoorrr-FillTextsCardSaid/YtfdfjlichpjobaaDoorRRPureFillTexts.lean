/- FillTexts: a text's words, its lines, its least and its most width are what the chapter says. The plain law. -/
import Derived.Test.YtfdfjlichpjobaaDoorRRSpecG
import Derived.Test.YtfdfjlichpjobaaDoorRRSaidFillTexts
namespace Go.Proofs.YtfdfjlichpjobaaDoorRR.Pure
open Go.RowKit Go.Proofs.YtfdfjlichpjobaaDoorRRW.PrintWords Go.Proofs.YtfdfjlichpjobaaDoorRRW.PrintLast Go.Proofs.YtfdfjlichpjobaaDoorRRW.PrintMore Go.Proofs.YtfdfjlichpjobaaDoorRR.X Go.Proofs.YtfdfjlichpjobaaDoorRR.Hand
set_option linter.unusedVariables false
set_option linter.unusedSimpArgs false
theorem FillTexts : flonglaw12_FillTexts.PureSaid := by
  intro l w _ hf hw
  have h8 : ∀ g ∈ l, 0 ≤ g.f1 ∧ g.f1 ≤ 255 := fun g hg => wf_u8 (hf g hg).2
  refine Ev.rounds (g := fun k => flonglaw12_FillTexts.f k l w) ?_
  unfold flonglaw12_FillTexts.f
  refine ev_ite (fun _ => Ev.bind known_ev (Ev.now _)) (fun h => ?_)
  have ht := words_tot l
  have ht2 := fillL_tot w (words l)
  refine Ev.bind (words_ev l (by omega)) (Ev.bind (rwords_ev l (by omega) h8) (Ev.bind (same_tot (by omega)) (ev_pos rfl ?_)))
  refine Ev.bind (text_ev12 w l (by omega)) (Ev.bind (rtext_ev12 w l (by omega) h8) (Ev.bind (same_tot (by omega)) (ev_pos rfl ?_)))
  refine Ev.bind (least_ev l (by omega)) (Ev.bind (rleast_ev l (by omega) h8) (ev_pos rfl ?_))
  exact Ev.bind (most_ev l (by omega)) (Ev.bind (rmost_ev l (by omega) h8) (ev_pos rfl (Ev.bind known_ev (Ev.now _))))
end Go.Proofs.YtfdfjlichpjobaaDoorRR.Pure
