/- RunesBack: runes that may be are read from their bytes as they were; what is read, written and read again, is the same; of two rows of which the first one's bytes are right, so is what is read of both. The plain law. -/
import Derived.Test.YtaoiogpgncjolaaDoorRight02
import Derived.Test.YtaoiogpgncjolaaDoorKnown02
import Derived.Test.YtaoiogpgncjolaaDoorSaidRunesBack
import Derived.Test.YtaoiogpgncjolaaDoorX11
namespace Go.Proofs.YtaoiogpgncjolaaDoor.Pure
open Go.RowKit Go.Proofs.YtaoiogpgncjolaaDoorW.PrintWords Go.Proofs.YtaoiogpgncjolaaDoorW.PrintLast Go.Proofs.YtaoiogpgncjolaaDoor.X Go.Proofs.YtaoiogpgncjolaaDoor.Hand
theorem encode_right (l : List Int) : encode (decode (encode l)) = encode l := by
  have e : encode l = encode (l.map fun r => if validB r = true then r else 65533) := by
    simp only [encode, List.flatMap_map]
    refine congrArg (fun f => l.flatMap f) (funext fun r => ?_)
    by_cases h : validB r = true
    · simp [one, h]
    · simp [one, h, valid_odd]
  rw [e, decode_encode']
  intro r hr
  obtain ⟨x, _, rfl⟩ := List.mem_map.1 hr
  by_cases h : validB x = true
  · simp [h]
  · simp [h, valid_odd]
theorem back_j2 (a b : List Int) (ha : Bytes a) (hb : Bytes b) (hal : a.length ≤ 1000) (hbl : b.length ≤ 1000) : Ev (fun k => flonglaw02_RunesBack.j2 k a b false) true := by
  have h1 := (decode_length a ha).1
  have h2 := (decode_length b hb).1
  have h3 := encode_length (decode a)
  refine Ev.step (fun k => by rw [flonglaw02_RunesBack.j2]) (ev_neg (by simp) ?_)
  refine Ev.bind (decode_ev ha (by omega)) (Ev.bind (encode_ev _ (by omega)) (Ev.bind (decode_ev (encode_bytes _) (by omega)) (Ev.bind (rsame_true (decode_again ha) (by rw [decode_again ha]; omega)) (ev_pos rfl (Ev.bind (right_ev ha (by omega)) (ev_ite (fun h => ?_) (fun _ => Ev.bind known_ev (Ev.now _))))))))
  have hr : encode (decode a) = a := by simpa using h
  have hcopy : flongref00_Copy.f a = some a := by
    unfold flongref00_Copy.f
    rw [if_pos (by simp; omega)]
    rfl
  refine ev_bind1 hcopy (ev_pos (by omega) (Ev.bind (decode_ev hb (by omega)) (ev_pos (by omega) (Ev.bind (decode_ev (bytes_append ha hb) (by rw [List.length_append]; omega)) (Ev.bind (rsame_true (decode_append ha hb hr) (by rw [decode_append ha hb hr, List.length_append]; omega)) (ev_pos rfl (Ev.bind known_ev (Ev.now _))))))))
theorem back_l (l a b : List Int) (ha : Bytes a) (hb : Bytes b) (hll : l.length ≤ 500) (hal : a.length ≤ 1000) (hbl : b.length ≤ 1000) : ∀ (d i : Nat) (x : Bool), l.length - i = d → i ≤ l.length → (x = true → ∀ r ∈ l.take i, validB r = true) →
    Ev (fun k => flonglaw02_RunesBack.l0 k l a b x (i : Int)) true := by
  intro d
  have hel := encode_length l
  have hr : Ev (fun k => runes_Right.f k (encode l)) true := ev_eq (right_ev (encode_bytes _) (by omega)) (by rw [encode_right]; simp)
  induction d with
  | zero =>
    intro i x hd hi hx
    refine Ev.step (fun k => by rw [flonglaw02_RunesBack.l0]) (ev_neg (by omega) (Ev.bind (encode_ev l (by omega)) ?_))
    refine ev_ite (fun h => ?_) (fun h => Ev.bind hr (back_j2 a b ha hb hal hbl))
    have hv : ∀ r ∈ l, validB r = true := by
      have := hx h
      rwa [List.take_of_length_le (by omega)] at this
    refine Ev.bind (decode_ev (encode_bytes _) (by omega)) (Ev.bind (rsame_true (decode_encode' hv) (by rw [decode_encode' hv]; omega)) (ev_pos rfl (Ev.bind hr (back_j2 a b ha hb hal hbl))))
  | succ d ih =>
    intro i x hd hi hx
    have hlt : i < l.length := by omega
    refine Ev.step (fun k => by rw [flonglaw02_RunesBack.l0]) (ev_pos (by omega) ?_)
    rw [wrap_of (x := (i : Int) + 1) (by omega) (by omega), rd_nat l i hlt]
    refine ev_ite (fun h => ev_pos (by omega) (ev_bind1 (valid_eq _) (ih (i + 1) _ (by omega) (by omega) ?_))) (fun h => ih (i + 1) _ (by omega) (by omega) (by simp))
    intro hv r hr
    rw [List.take_succ_eq_append_getElem hlt] at hr
    rcases List.mem_append.1 hr with h2 | h2
    · exact hx h r h2
    · rw [List.mem_singleton.1 h2]
      exact hv
theorem RunesBack : flonglaw02_RunesBack.PureSaid := by
  intro l a b _ _ _ ha _ hb
  have ha' : Bytes a := fun x hx => wf_u8 (ha x hx)
  have hb' : Bytes b := fun x hx => wf_u8 (hb x hx)
  refine Ev.rounds (g := fun k => flonglaw02_RunesBack.f k l a b) ?_
  have ht : Ev (fun k => flonglaw02_RunesBack.j0 k l a b true) true := Ev.step (fun k => by rw [flonglaw02_RunesBack.j0]) (ev_pos rfl (Ev.bind known_ev (Ev.now _)))
  unfold flonglaw02_RunesBack.f
  refine ev_ite (fun _ => ht) (fun h1 => ev_ite (fun _ => ht) (fun h2 => ?_))
  by_cases h3 : (b.length : Int) > 1000
  · rw [decide_eq_true h3]
    exact ht
  · rw [decide_eq_false h3]
    refine Ev.step (fun k => by rw [flonglaw02_RunesBack.j0]) (ev_neg (by simp) ?_)
    exact back_l l a b ha' hb' (by omega) (by omega) (by omega) _ 0 true rfl (by omega) (by simp)
end Go.Proofs.YtaoiogpgncjolaaDoor.Pure
