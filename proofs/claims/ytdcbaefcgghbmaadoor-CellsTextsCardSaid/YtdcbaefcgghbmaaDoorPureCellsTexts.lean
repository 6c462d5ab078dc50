/- CellsTexts: any text is the glyphs that the chapter says; their text, written, is the text, where all of it was right. The plain law. -/
import Derived.Test.YtdcbaefcgghbmaaDoorSpecB
import Derived.Test.YtdcbaefcgghbmaaDoorSaidCellsTexts
namespace Go.Proofs.YtdcbaefcgghbmaaDoor.Pure
open Go.RowKit Go.Proofs.YtdcbaefcgghbmaaDoorW.PrintWords Go.Proofs.YtdcbaefcgghbmaaDoorW.PrintLast Go.Proofs.YtdcbaefcgghbmaaDoor.X Go.Proofs.YtdcbaefcgghbmaaDoor.Hand
theorem CellsTexts : flonglaw03_CellsTexts.PureSaid := by
  intro s set _ _
  refine Ev.rounds (g := fun k => flonglaw03_CellsTexts.f k s set) ?_
  unfold flonglaw03_CellsTexts.f
  refine ev_ite (fun _ => Ev.bind known_ev (Ev.now _)) (fun h => ?_)
  have hb := bytesOf_Bytes s
  have hl := (decode_length _ hb).1
  rw [bytesOf_length] at hl
  refine Ev.bind (of_ev s set (by omega)) (ev_bind1 (a := bytesOf s) (by unfold conv_bytes.f; rw [if_pos (by omega)]) (Ev.bind (rdecode_ev hb (by rw [bytesOf_length]; omega)) (Ev.bind (rencode_ev _ (by omega)) (Ev.bind (rof_ev s set (by omega)) (Ev.bind (gsame_true rfl (by rw [ofRunes_length]; omega)) (ev_pos rfl (Ev.bind (text_ev _ (by rw [ofRunes_length]; omega)) (ev_pos ?_ (Ev.bind known_ev (Ev.now _))))))))))
  rw [runesOf_ofRunes]
  simp
end Go.Proofs.YtdcbaefcgghbmaaDoor.Pure
