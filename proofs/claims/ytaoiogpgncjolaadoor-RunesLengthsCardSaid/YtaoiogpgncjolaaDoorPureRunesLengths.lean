/- RunesLengths: any bytes are no more runes than bytes; each rune has one to four bytes, no fewer than a lesser one; what begins with a byte of ASCII is read with it first. The plain law. -/
import Derived.Test.YtaoiogpgncjolaaDoorRight02
import Derived.Test.YtaoiogpgncjolaaDoorKnown02
import Derived.Test.YtaoiogpgncjolaaDoorSaidRunesLengths
namespace Go.Proofs.YtaoiogpgncjolaaDoor.Pure
open Go.RowKit Go.Proofs.YtaoiogpgncjolaaDoorW.PrintWords Go.Proofs.YtaoiogpgncjolaaDoorW.PrintLast Go.Proofs.YtaoiogpgncjolaaDoor.X Go.Proofs.YtaoiogpgncjolaaDoor.Hand
theorem encode_one (r : Int) : encode [r] = one r := by simp [encode]
theorem one_mono {r s : Int} (hr : validB r = true) (hs : validB s = true) (h : r < s) : (one r).length ≤ (one s).length := by
  rw [one_valid hr, one_valid hs]
  unfold enc
  repeat' split
  all_goals (simp; try omega)
theorem lengths_j (l : List Int) (c : Int) (hb : Bytes l) (hl : l.length ≤ 1000) (hc : 0 ≤ c ∧ c ≤ 255) : Ev (fun k => flonglaw02_RunesLengths.j0 k l c (decode l) false) true := by
  have h1 := (decode_length l hb).1
  refine Ev.step (fun k => by rw [flonglaw02_RunesLengths.j0]) (ev_neg (by simp) (ev_ite (fun _ => Ev.bind known_ev (Ev.now _)) (fun h => ?_)))
  have hcb : Bytes ([c] ++ l) := bytes_append (fun x hx => by rw [List.mem_singleton.1 hx]; exact hc) hb
  have hd : decode ([c] ++ l) = c :: decode l := by
    have hf : firstRune (c :: l) = (c, 1) := by simp only [firstRune]; rw [if_pos (by omega)]
    show decode (c :: l) = _
    rw [decode_cons (l := c :: l) hcb (by simp), hf]
    rfl
  refine ev_bind1 rfl (ev_pos (by simp; omega) (Ev.bind (decode_ev hcb (by simp; omega)) ?_))
  rw [hd]
  refine ev_pos ?_ (ev_pos ?_ (ev_pos ?_ (ev_pos ?_ (Ev.bind (rsame_true rfl (by simp; omega)) (ev_pos rfl (Ev.bind known_ev (Ev.now _)))))))
  · rw [wrap_of (by omega) (by omega), List.length_cons]
    omega
  · rw [List.length_cons]
    omega
  · rw [wrap32_of (by omega) (by omega)]
    rfl
  · rw [List.length_cons]
    omega
theorem RunesLengths : flonglaw02_RunesLengths.PureSaid := by
  intro l r s c _ hw _ _ hc
  have hb : Bytes l := fun x hx => wf_u8 (hw x hx)
  have hc' := wf_u8 hc
  refine Ev.rounds (g := fun k => flonglaw02_RunesLengths.f k l r s c) ?_
  unfold flonglaw02_RunesLengths.f
  refine ev_ite (fun _ => Ev.bind known_ev (Ev.now _)) (fun h => ?_)
  have hl : l.length ≤ 1000 := by omega
  have h1 := decode_length l hb
  have hr := one_len r
  have hs := one_len s
  have hj := lengths_j l c hb hl hc'
  refine Ev.bind (decode_ev hb (by omega)) (Ev.bind (encode_ev [r] (by simp)) (Ev.bind (encode_ev [s] (by simp)) ?_))
  rw [encode_one, encode_one]
  refine ev_neg (by omega) ?_
  have hrest : Ev (fun k => (runes_Valid.f r).bind fun t => if t = true then ((runes_Valid.f s).bind fun t => if t = true then (if r < s then flonglaw02_RunesLengths.j0 k l c (decode l) (decide (((one r).length : Int) > ((one s).length : Int))) else flonglaw02_RunesLengths.j0 k l c (decode l) false) else flonglaw02_RunesLengths.j0 k l c (decode l) false) else flonglaw02_RunesLengths.j0 k l c (decode l) false) true := by
    refine ev_bind1 (valid_eq r) (ev_ite (fun hv => ev_bind1 (valid_eq s) (ev_ite (fun hv2 => ev_ite (fun hlt => ?_) (fun _ => hj)) (fun _ => hj))) (fun _ => hj))
    have := one_mono hv hv2 hlt
    rw [decide_eq_false (by omega)]
    exact hj
  refine ev_ite (fun h2 => ev_neg ?_ (ev_neg (by omega) (ev_neg (by omega) hrest))) (fun _ => ev_neg (by omega) (ev_neg (by omega) hrest))
  have hne := h1.2 (fun e => by rw [e] at h2; simp at h2)
  have := List.length_pos_iff.2 hne
  omega
end Go.Proofs.YtaoiogpgncjolaaDoor.Pure
