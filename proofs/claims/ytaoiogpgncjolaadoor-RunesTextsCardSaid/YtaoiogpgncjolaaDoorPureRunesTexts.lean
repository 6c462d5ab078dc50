/- RunesTexts: a text of Go is read as Go reads it. The plain law. -/
import Derived.Test.YtaoiogpgncjolaaDoorGoUtf8
import Derived.Test.YtaoiogpgncjolaaDoorSpecStr
import Derived.Test.YtaoiogpgncjolaaDoorSpecU
import Derived.Test.YtaoiogpgncjolaaDoorKnown02
import Derived.Test.YtaoiogpgncjolaaDoorSaidRunesTexts
namespace Go.Proofs.YtaoiogpgncjolaaDoor.Pure
open Go Go.RowKit Go.Proofs.YtaoiogpgncjolaaDoorW.PrintWords Go.Proofs.YtaoiogpgncjolaaDoorW.PrintLast Go.Proofs.YtaoiogpgncjolaaDoorW.PrintMore Go.Proofs.YtaoiogpgncjolaaDoor.X Go.Proofs.YtaoiogpgncjolaaDoor.Hand
set_option linter.unusedVariables false
theorem str_back (t : ByteArray) : strOfNums (bytesOf t) = t := by
  apply ByteArray.ext
  apply Array.ext'
  rw [strOfNums_data]
  unfold bytesOf
  rw [List.map_map]
  conv => rhs; rw [← List.map_id t.data.toList]
  refine List.map_congr_left fun u _ => ?_
  simp
theorem RunesTexts : flonglaw02_RunesTexts.PureSaid := by
  intro s _
  refine Ev.rounds (g := fun k => flonglaw02_RunesTexts.f k s) ?_
  unfold flonglaw02_RunesTexts.f
  refine ev_ite (fun _ => Ev.bind known_ev (Ev.now _)) (fun h => ?_)
  have hb := goBytes s
  have hbl := bytesOf_length s
  have hdl := (decode_length _ hb).1
  have hr : conv_runes.f s = some (decode (bytesOf s)) := by
    unfold conv_runes.f
    rw [if_pos (by omega), goRunes_eq s s.size 0 (by omega), List.drop_zero]
  have hc : conv_bytes.f s = some (bytesOf s) := by unfold conv_bytes.f; rw [if_pos (by omega)]
  have hdec := decode_ev hb (by omega)
  have hright := right_ev hb (by omega)
  have hstr : ((strOfNums (encode (decode (bytesOf s)))).toList == s.toList) = decide (encode (decode (bytesOf s)) = bytesOf s) := by
    rw [← str_eq (encode_bytes _) hb, str_back]
  revert hr hdl hdec hright hstr
  generalize decode (bytesOf s) = l
  intro hdl hr hdec hright hstr
  have hel := encode_length l
  have hc2 : conv_bytes.f (runesBytes l) = some (encode l) := by
    rw [runesBytes_eq]
    unfold conv_bytes.f
    rw [if_pos (by rw [numsStr_size]; omega), numsStr_back (encode_bytes l)]
  refine ev_bind1 hr (ev_pos (by simp only [List.length_nil]; omega) (ev_bind1 rfl (ev_bind1 hc ?_)))
  simp only [List.nil_append]
  refine Ev.bind hdec (Ev.bind (rsame_true rfl (by omega)) (ev_pos rfl (ev_bind1 hc (Ev.bind hright (ev_pos ?_ ?_)))))
  · rw [runesBytes_eq, hstr]
    simp
  · refine Ev.bind (encode_ev l (by omega)) (ev_bind1 hc2 (ev_bind1 (bsame_eq (encode_bytes l) (encode_bytes l)) (ev_pos (by simp) (Ev.bind known_ev (Ev.now _)))))
end Go.Proofs.YtaoiogpgncjolaaDoor.Pure
