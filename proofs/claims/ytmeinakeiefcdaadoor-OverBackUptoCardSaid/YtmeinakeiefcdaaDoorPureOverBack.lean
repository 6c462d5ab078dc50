/- OverBack: what is written is read, each glyph as it was set, of lines in which no line stands below. The plain law. -/
import Derived.Test.YtmeinakeiefcdaaDoorSpecQ
import Derived.Test.YtmeinakeiefcdaaDoorSaidOverBack
namespace Go.Proofs.YtmeinakeiefcdaaDoor.Pure
open Go Go.RowKit Go.Proofs.YtmeinakeiefcdaaDoorW.PrintWords Go.Proofs.YtmeinakeiefcdaaDoorW.PrintLast Go.Proofs.YtmeinakeiefcdaaDoorW.PrintMore Go.Proofs.YtmeinakeiefcdaaDoor.X Go.Proofs.YtmeinakeiefcdaaDoor.Hand
set_option linter.unusedVariables false
theorem OverBack : flonglaw18_OverBack.PureSaid := by
  intro l _ hf hs
  refine Ev.rounds (g := fun k => flonglaw18_OverBack.f k l) ?_
  have ht : Ev (fun k => flonglaw18_OverBack.j0 k l true) true := Ev.step (f := fun k => (flonglaw18_known.f k).bind fun t => some t) (fun k => by simp only [flonglaw18_OverBack.j0]; rw [if_pos trivial]) (Ev.bind known_ev (Ev.now _))
  unfold flonglaw18_OverBack.f
  refine Ev.bind (long_ev (l := l) hs) (ev_ite (fun _ => ht) (fun h => ?_))
  obtain ⟨h1, h2⟩ := longB_false l 0 (by omega) (by simpa using h)
  have hll := lsum_length l
  have hsm : ∀ x ∈ l, Small x := fun x hx => ⟨(h2 x hx).1, by have := (h2 x hx).2; omega, fun g hg => wf_u8 ((hf x hx).2 g hg).2⟩
  refine Ev.bind (strikes_ev (by omega) (fun x hx => by have := (h2 x hx).2; omega)) ?_
  cases hst : strB l with
  | true => exact ht
  | false =>
    have hrl := prows_length l
    have hr3 := prows_small hsm
    refine Ev.step (f := fun k => (over_Write.f k l).bind fun t594 => ((over_Read.f k t594).bind fun bt597 => (if bt597.2 = 0 then ((flongref17_Rows.f k l).bind fun t601 => ((flongref03_SameRows.f k bt597.1 t601).bind fun t604 => (if t604 = true then ((flonglaw18_known.f k).bind fun t605 => (some t605)) else (some false)))) else (some false)))) (fun k => by simp only [flonglaw18_OverBack.j0]; rw [if_neg (by simp)]) ?_
    exact Ev.bind (owrite_ev (by omega) hsm) (Ev.bind (oback_ev (by omega) hsm hst) (ev_pos rfl (Ev.bind (rrows_ev (by omega) hsm) (Ev.bind (samerows_true (prows l) (by omega) (fun r hr => by have := hr3 r hr; omega)) (ev_pos rfl (Ev.bind known_ev (Ev.now _)))))))
end Go.Proofs.YtmeinakeiefcdaaDoor.Pure
