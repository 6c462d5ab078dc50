/- LinesArgs: the arguments read, and a text in quotation marks, are the reference's. The plain law. -/
import Derived.Test.YtmfkokjbjmahkaaDoorSpecQ
import Derived.Test.YtmfkokjbjmahkaaDoorSaidLinesArgs
namespace Go.Proofs.YtmfkokjbjmahkaaDoor.Pure
open Go Go.RowKit Go.Proofs.YtmfkokjbjmahkaaDoorW.PrintWords Go.Proofs.YtmfkokjbjmahkaaDoorW.PrintLast Go.Proofs.YtmfkokjbjmahkaaDoorW.PrintMore Go.Proofs.YtmfkokjbjmahkaaDoor.X Go.Proofs.YtmfkokjbjmahkaaDoor.Hand
set_option linter.unusedVariables false
theorem LinesArgs : flonglaw05_LinesArgs.PureSaid := by
  intro a0 _
  refine Ev.rounds (g := fun k => flonglaw05_LinesArgs.f k a0) ?_
  unfold flonglaw05_LinesArgs.f
  refine ev_ite (fun _ => Ev.bind known_ev (Ev.now _)) (fun h => ?_)
  have hb := bytesOf_Bytes a0
  have hs : (bytesOf a0).length ≤ 1000000 := by rw [← numsStr_size, str_of]; omega
  rw [show a0 = strOfNums (bytesOf a0) from (str_of a0).symm]
  generalize bytesOf a0 = b at hb hs ⊢
  have hl := (argsN_length b.length b true).1
  refine Ev.bind (args_ev hb hs) (Ev.bind (rargs_ev hb hs) (Ev.bind (same_texts (by rw [List.length_map]; unfold argsV; omega)) (ev_pos rfl (ev_pos (by simp) ?_))))
  rw [quoted_eq hb hs]
  exact Ev.bind (Ev.now _) (Ev.bind (rquoted_ev hb hs) (ev_pos rfl (Ev.bind known_ev (Ev.now _))))
end Go.Proofs.YtmfkokjbjmahkaaDoor.Pure
