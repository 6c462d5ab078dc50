/- PlainReads: any bytes are the rows that the chapter says, or none. The plain law. -/
import Derived.Test.YtadejblahbebdaaDoorSpecR
import Derived.Test.YtadejblahbebdaaDoorSpecQ
import Derived.Test.YtadejblahbebdaaDoorSpecC
import Derived.Test.YtadejblahbebdaaDoorSpecA
import Derived.Test.YtadejblahbebdaaDoorSaidPlainReads
namespace Go.Proofs.YtadejblahbebdaaDoor.Pure
open Go Go.RowKit Go.Proofs.YtadejblahbebdaaDoorW.PrintWords Go.Proofs.YtadejblahbebdaaDoorW.PrintLast Go.Proofs.YtadejblahbebdaaDoorW.PrintMore Go.Proofs.YtadejblahbebdaaDoor.X Go.Proofs.YtadejblahbebdaaDoor.Hand
set_option linter.unusedVariables false
theorem PlainReads : flonglaw17_PlainReads.PureSaid := by
  intro b l _ hb0 _ hf
  have hb : Bytes b := fun x hx => wf_u8 (hb0 x hx)
  have h8 : ∀ g ∈ l, 0 ≤ g.f1 ∧ g.f1 ≤ 255 := fun g hg => wf_u8 (hf g hg).2
  refine Ev.rounds (g := fun k => flonglaw17_PlainReads.f k b l) ?_
  have ht : Ev (fun k => flonglaw17_PlainReads.j0 k b l true) true := Ev.step (f := fun k => (flonglaw17_known.f k).bind fun t => some t) (fun k => by simp only [flonglaw17_PlainReads.j0]; rw [if_pos trivial]) (Ev.bind known_ev (Ev.now _))
  unfold flonglaw17_PlainReads.f
  refine ev_ite (fun _ => ht) (fun h1 => ?_)
  by_cases h2 : (l.length : Int) > 300
  · rw [decide_eq_true h2]
    exact ht
  rw [decide_eq_false h2]
  obtain ⟨m, hm⟩ := exists_trim (clean l)
  obtain ⟨hr1, hr2⟩ := readV_small hb (by omega)
  have hnl : (normGo none ((clean l).take m)).length ≤ 300 := by
    have := clean_length l
    rw [normGo_length, List.length_take]
    omega
  have hel : (erase l).length ≤ 300 := by unfold erase; rw [List.length_map]; omega
  refine Ev.step (f := fun k => (plain_Read.f k b).bind fun bt585 => (flongref17_Read.f k b).bind fun bt589 => (flongref03_SameRows.f k bt585.1 bt589.1).bind fun t593 => if t593 = true then (if bt585.2 = bt589.2 then ((plain_Safe.f k b).bind fun t594 => ((flongref17_Safe.f k b).bind fun t595 => (if (t594 == t595) = true then ((plain_Normal.f k l).bind fun t596 => ((flongref17_Normal.f k l).bind fun t599 => ((flongref03_Same.f k t596 t599).bind fun t602 => (if t602 = true then ((plain_Erase.f k l).bind fun t603 => ((flongref17_Erase.f k l).bind fun t606 => ((flongref03_Same.f k t603 t606).bind fun t609 => (if t609 = true then ((flonglaw17_known.f k).bind fun t610 => (some t610)) else (some false))))) else (some false))))) else (some false)))) else (some false)) else (some false)) (fun k => by simp only [flonglaw17_PlainReads.j0]; rw [if_neg (by simp)]) ?_
  refine Ev.bind (read17_ev hb (by omega)) (Ev.bind (rread17_ev hb (by omega)) (Ev.bind (samerows_true _ (by omega) (fun r hr => by have := hr2 r hr; omega)) (ev_pos rfl (ev_pos rfl ?_))))
  refine Ev.bind (safe17_ev hb (by omega)) (Ev.bind (rsafe17_ev hb (by omega)) (ev_pos (by simp) ?_))
  refine Ev.bind (normal_ev l hm (by omega)) (Ev.bind (rnormal_ev l hm (by omega) h8) (Ev.bind (gsame_true rfl (by omega)) (ev_pos rfl ?_)))
  exact Ev.bind (erase_ev l (by omega)) (Ev.bind (rerase_ev l (by omega)) (Ev.bind (gsame_true rfl (by omega)) (ev_pos rfl (Ev.bind known_ev (Ev.now _)))))
end Go.Proofs.YtadejblahbebdaaDoor.Pure
