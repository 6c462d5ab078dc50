/- CellsJoins: two texts, the first of which is right, are the glyphs of both; two rows are as wide as both, and have the texts of both. The plain law. -/
import Derived.Test.YtdcbaefcgghbmaaDoorSpecB
import Derived.Test.YtdcbaefcgghbmaaDoorSaidCellsJoins
namespace Go.Proofs.YtdcbaefcgghbmaaDoor.Pure
open Go.RowKit Go.Proofs.YtdcbaefcgghbmaaDoorW.PrintWords Go.Proofs.YtdcbaefcgghbmaaDoorW.PrintLast Go.Proofs.YtdcbaefcgghbmaaDoor.X Go.Proofs.YtdcbaefcgghbmaaDoor.Hand
theorem strOfNums_append (a b : List Int) : strOfNums (a ++ b) = strOfNums a ++ strOfNums b := by
  apply ByteArray.ext
  apply Array.ext'
  rw [ByteArray.data_append, Array.toList_append, strOfNums_data, strOfNums_data, strOfNums_data, List.map_append]
theorem strOfNums_bytesOf (t : ByteArray) : strOfNums (bytesOf t) = t := by
  apply ByteArray.ext
  apply Array.ext'
  rw [strOfNums_data]
  unfold bytesOf
  rw [List.map_map]
  conv => rhs; rw [← List.map_id t.data.toList]
  apply List.map_congr_left
  intro x _
  simp
theorem j1_ev (s t : ByteArray) (set : Int) (h : s.size + t.size ≤ 800) : Ev (fun k => flonglaw03_CellsJoins.j1 k s t set false) true := by
  have hb := bytesOf_Bytes s
  have hl := (decode_length _ hb).1
  rw [bytesOf_length] at hl
  have hbt := bytesOf_Bytes t
  have hlt := (decode_length _ hbt).1
  rw [bytesOf_length] at hlt
  refine Ev.step (f := fun k => if false = true then (some false) else ((conv_bytes.f s).bind fun t451 => ((flongref02_Decode.f k t451).bind fun t454 => ((flongref02_Encode.f k t454).bind fun t457 => (if (strOfNums t457).toList = s.toList then (if s.size + t.size ≤ 9223372036854775807 then ((cells_Of.f k (s ++ t) set).bind fun t461 => ((cells_Of.f k s set).bind fun t464 => ((cells_Of.f k t set).bind fun t467 => ((flongref03_Join.f t464 t467).bind fun t470 => ((flongref03_Same.f k t461 t470).bind fun t473 => (if t473 = true then ((flonglaw03_known.f k).bind fun t474 => (some t474)) else (some false))))))) else (none)) else ((flonglaw03_known.f k).bind fun t460 => (some t460))))))) (fun k => by simp only [flonglaw03_CellsJoins.j1]) ?_
  refine ev_neg (by simp) (ev_bind1 (a := bytesOf s) (by unfold conv_bytes.f; rw [if_pos (by omega)]) (Ev.bind (rdecode_ev hb (by rw [bytesOf_length]; omega)) (Ev.bind (rencode_ev _ (by omega)) (ev_ite (fun hr => ?_) (fun _ => Ev.bind known_ev (Ev.now _))))))
  have hs : (s ++ t).size = s.size + t.size := by rw [ByteArray.size_append]
  have hr' : encode (decode (bytesOf s)) = bytesOf s := by
    have h1 := str_eq (encode_bytes (decode (bytesOf s))) hb
    rw [strOfNums_bytesOf] at h1
    rw [hr] at h1
    simpa using h1.symm
  have hd : decode (bytesOf (s ++ t)) = decode (bytesOf s) ++ decode (bytesOf t) := by
    rw [show bytesOf (s ++ t) = bytesOf s ++ bytesOf t by simp [bytesOf], decode_append hb hbt hr']
  refine ev_pos (by omega) (Ev.bind (of_ev (s ++ t) set (by omega)) (Ev.bind (of_ev s set (by omega)) (Ev.bind (of_ev t set (by omega)) (ev_bind1 (join_eq (by rw [ofRunes_length, ofRunes_length]; omega)) (Ev.bind (gsame_true (by rw [hd, ofRunes_append]) (by rw [hd, ofRunes_length, List.length_append]; omega)) (ev_pos rfl (Ev.bind known_ev (Ev.now _))))))))
theorem j0_ev (s t : ByteArray) (set : Int) (a b : List Gl) (h : s.size + t.size ≤ 800) (hab : a.length + b.length ≤ 400) : Ev (fun k => flonglaw03_CellsJoins.j0 k s t set a b false) true := by
  have ha := width_range a
  have hb := width_range b
  refine Ev.step (f := fun k => if false = true then ((flonglaw03_known.f k).bind fun t441 => (some t441)) else ((flongref03_Join.f a b).bind fun t442 => ((cells_Width.f k t442).bind fun t445 => ((cells_Width.f k a).bind fun t446 => ((cells_Width.f k b).bind fun t447 => (if t445 = (wrap64 (t446 + t447)) then ((cells_Text.f k t442).bind fun t448 => ((cells_Text.f k a).bind fun t449 => ((cells_Text.f k b).bind fun t450 => (if t449.size + t450.size ≤ 9223372036854775807 then (flonglaw03_CellsJoins.j1 k s t set (t448.toList != (t449 ++ t450).toList)) else (none))))) else (flonglaw03_CellsJoins.j1 k s t set true))))))) (fun k => by simp only [flonglaw03_CellsJoins.j0]) ?_
  refine ev_neg (by simp) (ev_bind1 (join_eq (by omega)) (Ev.bind (width_ev _ (by rw [List.length_append]; omega)) (Ev.bind (width_ev _ (by omega)) (Ev.bind (width_ev _ (by omega)) (ev_pos (by rw [width_append, wrap_of (by omega) (by omega)]) (Ev.bind (text_ev _ (by rw [List.length_append]; omega)) (Ev.bind (text_ev _ (by omega)) (Ev.bind (text_ev _ (by omega)) (ev_pos ?_ ?_)))))))))
  · have h1 := encode_length (runesOf a)
    have h2 := encode_length (runesOf b)
    rw [runesOf_length] at h1 h2
    rw [strOfNums_size, strOfNums_size]
    omega
  · rw [runesOf_append, encode_append, strOfNums_append]
    simp only [bne_self_eq_false]
    exact j1_ev s t set h
theorem CellsJoins : flonglaw03_CellsJoins.PureSaid := by
  intro s t set a b _ _ _ _ _ _ _
  refine Ev.rounds (g := fun k => flonglaw03_CellsJoins.f k s t set a b) ?_
  have hk : Ev (fun k => flonglaw03_CellsJoins.j0 k s t set a b true) true := by
    refine Ev.step (f := fun k => (flonglaw03_known.f k).bind fun t441 => (some t441)) (fun k => by simp only [flonglaw03_CellsJoins.j0, if_true]) (Ev.bind known_ev (Ev.now _))
  unfold flonglaw03_CellsJoins.f
  rw [wrap_of (by omega) (by omega), wrap_of (by omega) (by omega)]
  refine ev_ite (fun _ => hk) (fun h => ?_)
  by_cases h2 : (a.length : Int) + b.length > 400
  · simp only [h2, decide_true]
    exact hk
  · simp only [h2, decide_false]
    exact j0_ev s t set a b (by omega) (by omega)
end Go.Proofs.YtdcbaefcgghbmaaDoor.Pure
