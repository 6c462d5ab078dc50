/- PlainWidths: a row that is normal is no wider than it was, with what may not be shown counted as one cell; erased it is as wide. The plain law. -/
import Derived.Test.YtadejblahbebdaaDoorSpec17a
import Derived.Test.YtadejblahbebdaaDoorKnown17
import Derived.Test.YtadejblahbebdaaDoorSaidPlainWidths
namespace Go.Proofs.YtadejblahbebdaaDoor.Pure
open Go.RowKit Go.Proofs.YtadejblahbebdaaDoorW.PrintWords Go.Proofs.YtadejblahbebdaaDoorW.PrintLast Go.Proofs.YtadejblahbebdaaDoor.X Go.Proofs.YtadejblahbebdaaDoor.Hand
theorem width_of {a b : List Gl} (h : a.map (·.f0) = b.map (·.f0)) : width a = width b := by
  unfold width
  rw [h]
theorem PlainWidths : flonglaw17_PlainWidths.PureSaid := by
  intro l _ hf
  refine Ev.rounds (g := fun k => flonglaw17_PlainWidths.f k l) ?_
  unfold flonglaw17_PlainWidths.f
  refine ev_ite (fun _ => Ev.bind known_ev (Ev.now _)) (fun h => ?_)
  have h8 : ∀ g ∈ l, 0 ≤ g.f1 ∧ g.f1 ≤ 255 := fun g hg => wf_u8 (hf g hg).2
  have hcl := clean_length l
  obtain ⟨m, hm⟩ := exists_trim (clean l)
  have hc : ((clean l).take m).length ≤ l.length := by rw [List.length_take]; omega
  have hn : (normGo none ((clean l).take m)).length ≤ l.length := by rw [normGo_length]; exact hc
  have hw : width (normGo none ((clean l).take m)) = width ((clean l).take m) := width_of (normGo_runes _ _)
  have hw1 : width ((clean l).take m) ≤ width (clean l) := by
    have h1 := width_range ((clean l).drop m)
    have h2 := width_append ((clean l).take m) ((clean l).drop m)
    rw [List.take_append_drop] at h2
    omega
  have hw2 := width_range ((clean l).take m)
  have hel : (erase (normGo none ((clean l).take m))).length ≤ l.length := by unfold erase; rw [List.length_map]; exact hn
  have he : width (erase (normGo none ((clean l).take m))) = width (normGo none ((clean l).take m)) := width_of (erase_runes _)
  refine Ev.bind (rclean_ev l (by omega) h8) (Ev.bind (rgwidth_ev _ (by omega)) (Ev.bind (normal_ev l hm (by omega)) (Ev.bind (rgwidth_ev _ (by omega)) (ev_pos (by rw [hw]; exact hw1) (ev_pos (by rw [hw, wrap_of (by omega) (by omega)]; omega) (Ev.bind (erase_ev _ (by omega)) (Ev.bind (rgwidth_ev _ (by omega)) (ev_pos he (Ev.bind (rnormal_ev l hm (by omega) h8) (Ev.bind (gsame_true rfl (by omega)) (ev_pos rfl (Ev.bind known_ev (Ev.now _)))))))))))))
end Go.Proofs.YtadejblahbebdaaDoor.Pure
