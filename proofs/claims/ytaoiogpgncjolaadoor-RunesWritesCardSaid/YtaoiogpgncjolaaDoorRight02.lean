/- Were all runes there: what was read, written again, is what was read. -/
import Derived.Test.YtaoiogpgncjolaaDoorSpec02c
import Derived.Test.YtaoiogpgncjolaaDoorRef02b
import Derived.Test.YtaoiogpgncjolaaDoorX11
namespace Go.Proofs.YtaoiogpgncjolaaDoor.Pure
open Go.RowKit Go.Proofs.YtaoiogpgncjolaaDoorW.PrintWords Go.Proofs.YtaoiogpgncjolaaDoorW.PrintLast Go.Proofs.YtaoiogpgncjolaaDoor.X Go.Proofs.YtaoiogpgncjolaaDoor.Hand
theorem right_ev {l : List Int} (hb : Bytes l) (h : l.length ≤ 1000000000) : Ev (fun k => runes_Right.f k l) (decide (encode (decode l) = l)) := by
  have hl := (decode_length l hb).1
  unfold runes_Right.f
  exact Ev.bind (decode_ev hb (by omega)) (Ev.bind (encode_ev _ (by omega)) (ev_eq (Ev.now _) (str_eq (encode_bytes _) hb)))
theorem bsame_eq {a b : List Int} (ha : Bytes a) (hb : Bytes b) : flongref00_Same.f a b = some (decide (a = b)) := by
  unfold flongref00_Same.f
  rw [str_eq ha hb]
end Go.Proofs.YtaoiogpgncjolaaDoor.Pure
