/- RunesReads: any bytes are the runes that the chapter says; whether all of them were there, too. The plain law. -/
import Derived.Test.YtaoiogpgncjolaaDoorSpec02c
import Derived.Test.YtaoiogpgncjolaaDoorRef02b
import Derived.Test.YtaoiogpgncjolaaDoorKnown02
import Derived.Test.YtaoiogpgncjolaaDoorRight02
import Derived.Test.YtaoiogpgncjolaaDoorSaidRunesReads
namespace Go.Proofs.YtaoiogpgncjolaaDoor.Pure
open Go.RowKit Go.Proofs.YtaoiogpgncjolaaDoorW.PrintWords Go.Proofs.YtaoiogpgncjolaaDoorW.PrintLast Go.Proofs.YtaoiogpgncjolaaDoor.X Go.Proofs.YtaoiogpgncjolaaDoor.Hand
theorem RunesReads : flonglaw02_RunesReads.PureSaid := by
  intro l _ hw
  have hb : Bytes l := fun x hx => wf_u8 (hw x hx)
  refine Ev.rounds (g := fun k => flonglaw02_RunesReads.f k l) ?_
  unfold flonglaw02_RunesReads.f
  refine ev_ite (fun _ => Ev.bind known_ev (Ev.now _)) (fun h => ?_)
  have hl := (decode_length l hb).1
  refine Ev.bind (rdecode_ev hb (by omega)) (Ev.bind (decode_ev hb (by omega)) (Ev.bind (rsame_true rfl (by omega)) (ev_pos rfl (Ev.bind (right_ev hb (by omega)) (Ev.bind (rencode_ev _ (by omega)) (ev_bind1 (bsame_eq (encode_bytes _) hb) (ev_pos ?_ (Ev.bind known_ev (Ev.now _)))))))))
  simp
end Go.Proofs.YtaoiogpgncjolaaDoor.Pure
