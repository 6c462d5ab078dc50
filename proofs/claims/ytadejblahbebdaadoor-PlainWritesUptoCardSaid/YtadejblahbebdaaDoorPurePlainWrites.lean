/- PlainWrites: any lines' rows, and bytes, are what the chapter says. The plain law. -/
import Derived.Test.YtadejblahbebdaaDoorSpecW
import Derived.Test.YtadejblahbebdaaDoorSaidPlainWrites
namespace Go.Proofs.YtadejblahbebdaaDoor.Pure
open Go.RowKit Go.Proofs.YtadejblahbebdaaDoorW.PrintWords Go.Proofs.YtadejblahbebdaaDoorW.PrintLast Go.Proofs.YtadejblahbebdaaDoorW.PrintMore Go.Proofs.YtadejblahbebdaaDoor.X Go.Proofs.YtadejblahbebdaaDoor.Hand
theorem PlainWrites : flonglaw17_PlainWrites.PureSaid := by
  intro l _ hf hs
  refine Ev.rounds (g := fun k => flonglaw17_PlainWrites.f k l) ?_
  unfold flonglaw17_PlainWrites.f
  refine Ev.bind (long_ev (l := l) hs) (ev_ite (fun _ => Ev.bind known_ev (Ev.now _)) (fun h => ?_))
  obtain ⟨h1, h2⟩ := longB_false l 0 (by omega) (by simpa using h)
  have hll := lsum_length l
  have hsm : ∀ x ∈ l, Small x := fun x hx => ⟨(h2 x hx).1, (h2 x hx).2, fun g hg => wf_u8 ((hf x hx).2 g hg).2⟩
  have hsame : Ev (fun _ => flongref00_Same.f (rowBytes (prows l)) (rowBytes (prows l))) true := ev_one (by unfold flongref00_Same.f; simp)
  refine Ev.bind (write_ev (by omega) hsm) (Ev.bind (rwrite_ev (by omega) hsm) (Ev.bind hsame (ev_pos rfl ?_)))
  refine Ev.bind (rows_ev (by omega) hsm) (Ev.bind (rrows_ev (by omega) hsm) (Ev.bind (samerows_true _ (by rw [prows_length]; omega) (fun r hr => by have := prows_small hsm r hr; omega)) (ev_pos rfl ?_)))
  exact Ev.bind known_ev (Ev.now _)
end Go.Proofs.YtadejblahbebdaaDoor.Pure
