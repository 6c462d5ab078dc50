/- RunesWrites: any runes have the bytes that the chapter says; how wide each is, all are, and what may be of each, too. The plain law. -/
import Derived.Test.YtaoiogpgncjolaaDoorSpec02c
import Derived.Test.YtaoiogpgncjolaaDoorRef02a
import Derived.Test.YtaoiogpgncjolaaDoorKnown02
import Derived.Test.YtaoiogpgncjolaaDoorRight02
import Derived.Test.YtaoiogpgncjolaaDoorSaidRunesWrites
namespace Go.Proofs.YtaoiogpgncjolaaDoor.Pure
open Go.RowKit Go.Proofs.YtaoiogpgncjolaaDoorW.PrintWords Go.Proofs.YtaoiogpgncjolaaDoorW.PrintLast Go.Proofs.YtaoiogpgncjolaaDoor.X Go.Proofs.YtaoiogpgncjolaaDoor.Hand
theorem rsum_l (l : List Int) (hl : l.length ≤ 4611686018427387904) : ∀ (d i : Nat) (n : Int), l.length - i = d → i ≤ l.length → 0 ≤ n → n + 2 * (l.length - i) ≤ 9223372036854775807 →
    Ev (fun k => flongref02_Sum.l0 k l n (i : Int)) (n + sum (l.drop i)) := by
  intro d
  induction d with
  | zero =>
    intro i n hd hi h0 hn
    refine Ev.step (fun k => by rw [flongref02_Sum.l0]) (ev_neg (by omega) (ev_eq (Ev.now _) ?_))
    rw [List.drop_eq_nil_of_le (by omega), sum_nil]
    omega
  | succ d ih =>
    intro i n hd hi h0 hn
    have hlt : i < l.length := by omega
    have hw := wid_range l[i]
    refine Ev.step (fun k => by rw [flongref02_Sum.l0]) (ev_pos (by omega) (ev_pos (by omega) ?_))
    rw [rd_nat l i hlt]
    refine Ev.bind (rwidth_ev _) ?_
    rw [wrap_of (x := n + wid l[i]) (by omega) (by omega), wrap_of (x := (i : Int) + 1) (by omega) (by omega)]
    refine ev_eq (ih (i + 1) (n + wid l[i]) (by omega) (by omega) (by omega) (by omega)) ?_
    rw [List.drop_eq_getElem_cons hlt, sum_cons]
    omega
theorem rsum_ev (l : List Int) (hl : l.length ≤ 4611686018427387903) : Ev (fun k => flongref02_Sum.f k l) (sum l) := by
  unfold flongref02_Sum.f
  exact ev_eq (rsum_l l (by omega) l.length 0 0 (by omega) (by omega) (by omega) (by omega)) (by simp)

theorem writes_l (l : List Int) (hl : l.length ≤ 1000) : ∀ (d i : Nat), l.length - i = d → i ≤ l.length → Ev (fun k => flonglaw02_RunesWrites.l0 k l (i : Int)) true := by
  intro d
  induction d with
  | zero =>
    intro i hd hi
    refine Ev.step (fun k => by rw [flonglaw02_RunesWrites.l0]) (ev_neg (by omega) ?_)
    refine Ev.bind (encode_ev l (by omega)) (Ev.bind (rencode_ev l (by omega)) (ev_bind1 (bsame_eq (encode_bytes _) (encode_bytes _)) (ev_pos (by simp) ?_)))
    exact Ev.bind (sum_ev l (by omega)) (Ev.bind (rsum_ev l (by omega)) (ev_pos rfl (Ev.bind known_ev (Ev.now _))))
  | succ d ih =>
    intro i hd hi
    have hlt : i < l.length := by omega
    refine Ev.step (fun k => by rw [flonglaw02_RunesWrites.l0]) (ev_pos (by omega) (ev_pos (by omega) ?_))
    rw [rd_nat l i hlt]
    refine ev_bind1 (valid_eq _) (ev_bind1 (rvalid_eq _) (ev_neg (by simp) (Ev.bind (control_ev _) (ev_bind1 (rcontrol_eq _) (ev_neg (by simp) (ev_bind1 (a := wid l[i]) rfl (Ev.bind (rwidth_ev _) (ev_pos rfl (Ev.bind (safe_ev _) (ev_bind1 (rsafe_eq _) (ev_pos rfl ?_)))))))))))
    rw [wrap_of (x := (i : Int) + 1) (by omega) (by omega)]
    exact ih (i + 1) (by omega) (by omega)
theorem RunesWrites : flonglaw02_RunesWrites.PureSaid := by
  intro l _ _
  refine Ev.rounds (g := fun k => flonglaw02_RunesWrites.f k l) ?_
  unfold flonglaw02_RunesWrites.f
  exact ev_ite (fun _ => Ev.bind known_ev (Ev.now _)) (fun h => writes_l l (by omega) l.length 0 (by omega) (by omega))
end Go.Proofs.YtaoiogpgncjolaaDoor.Pure
