/- RunesSafe: what may be written has no control in it, is so again, and has the width of what it was, but for those that may not be. The plain law. -/
import Derived.Test.YtaoiogpgncjolaaDoorSpec02a
import Derived.Test.YtaoiogpgncjolaaDoorKnown02
import Derived.Test.YtaoiogpgncjolaaDoorSaidRunesSafe
namespace Go.Proofs.YtaoiogpgncjolaaDoor.Pure
open Go.RowKit Go.Proofs.YtaoiogpgncjolaaDoorW.PrintWords Go.Proofs.YtaoiogpgncjolaaDoorW.PrintLast Go.Proofs.YtaoiogpgncjolaaDoor.X Go.Proofs.YtaoiogpgncjolaaDoor.Hand

theorem RunesSafe : flonglaw02_RunesSafe.PureSaid := by
  intro a _
  refine Ev.rounds (g := fun k => flonglaw02_RunesSafe.f k a) ?_
  have hj : Ev (fun k => flonglaw02_RunesSafe.j0 k a (safe a) false) true := by
    refine Ev.step (f := fun k => if false = true then some false else if safe a = a then ((runes_Width.f a).bind fun t => if t ≥ 0 then (if t ≤ 2 then (flonglaw02_known.f k).bind fun t => some t else some false) else some false)
      else ((runes_Width.f a).bind fun t => if t = 0 then ((runes_Width.f (safe a)).bind fun t => if t = 1 then (flonglaw02_known.f k).bind fun t => some t else some false) else some false)) (fun k => by simp only [flonglaw02_RunesSafe.j0]) ?_
    refine ev_neg (by simp) ?_
    have hw := wid_range a
    refine ev_ite (fun h => ?_) (fun h => ?_)
    · refine ev_bind1 (a := wid a) rfl (ev_pos hw.1 (ev_pos hw.2 (Ev.bind known_ev (Ev.now _))))
    · obtain ⟨h1, h2⟩ := safe_other h
      refine ev_bind1 (a := wid a) rfl (ev_pos h1 (ev_bind1 (a := wid (safe a)) rfl (ev_pos (by rw [h2]; exact wid_odd) (Ev.bind known_ev (Ev.now _)))))
  unfold flonglaw02_RunesSafe.f
  refine Ev.bind (safe_ev a) (ev_bind1 (valid_eq _) (ev_pos (safe_valid a) (Ev.bind (control_ev _) (ev_neg (by simp [safe_control]) (Ev.bind (safe_ev _) ?_)))))
  simp only [safe_safe, bne_self_eq_false]
  exact hj
end Go.Proofs.YtaoiogpgncjolaaDoor.Pure
