/- RunesSums: two rows are as wide as both; a row is no wider than twice its runes; without what has no width it is as wide. The plain law. -/
import Derived.Test.YtaoiogpgncjolaaDoorSpec02c
import Derived.Test.YtaoiogpgncjolaaDoorKnown02
import Derived.Test.YtaoiogpgncjolaaDoorSaidRunesSums
namespace Go.Proofs.YtaoiogpgncjolaaDoor.Pure
open Go.RowKit Go.Proofs.YtaoiogpgncjolaaDoorW.PrintWords Go.Proofs.YtaoiogpgncjolaaDoorW.PrintLast Go.Proofs.YtaoiogpgncjolaaDoor.X Go.Proofs.YtaoiogpgncjolaaDoor.Hand
theorem sums_l (a b c : List Int) (ha : a.length ≤ 500) (hb : b.length ≤ 500) (hc : c = a ++ b) : ∀ (d i : Nat) (s : List Int), c.length - i = d → i ≤ c.length → s.length ≤ i → sum s + sum (c.drop i) = sum c →
    Ev (fun k => flonglaw02_RunesSums.l0 k a b c s (i : Int)) true := by
  have hcl : c.length = a.length + b.length := by rw [hc, List.length_append]
  have hs := sum_append a b
  rw [← hc] at hs
  have ra := sum_range a
  have rb := sum_range b
  have rc := sum_range c
  intro d
  induction d with
  | zero =>
    intro i s hd hi hsl hsum
    refine Ev.step (fun k => by rw [flonglaw02_RunesSums.l0]) (ev_neg (by omega) ?_)
    rw [List.drop_eq_nil_of_le (by omega), sum_nil] at hsum
    refine Ev.bind (sum_ev c (by omega)) (Ev.bind (sum_ev a (by omega)) (Ev.bind (sum_ev b (by omega)) (ev_pos ?_ (ev_pos ?_ (Ev.bind (sum_ev s (by omega)) (ev_pos (by omega) (Ev.bind known_ev (Ev.now _))))))))
    · rw [wrap_of (by omega) (by omega)]
      exact hs
    · rw [wrap_of (by omega) (by omega)]
      omega
  | succ d ih =>
    intro i s hd hi hsl hsum
    have hlt : i < c.length := by omega
    have hw := wid_range c[i]
    rw [List.drop_eq_getElem_cons hlt, sum_cons] at hsum
    refine Ev.step (fun k => by rw [flonglaw02_RunesSums.l0]) (ev_pos (by omega) (ev_pos (by omega) ?_))
    rw [rd_nat c i hlt, wrap_of (x := (i : Int) + 1) (by omega) (by omega)]
    refine ev_bind1 (a := wid c[i]) rfl (ev_ite (fun h => ev_pos (by omega) (ih (i + 1) _ (by omega) (by omega) ?_ ?_)) (fun h => ih (i + 1) _ (by omega) (by omega) (by omega) (by omega)))
    · rw [List.length_append, List.length_singleton]
      omega
    · rw [sum_append, sum_cons, sum_nil]
      omega
theorem RunesSums : flonglaw02_RunesSums.PureSaid := by
  intro a b _ _ _ _
  refine Ev.rounds (g := fun k => flonglaw02_RunesSums.f k a b) ?_
  have ht : Ev (fun k => flonglaw02_RunesSums.j0 k a b true) true := Ev.step (fun k => by rw [flonglaw02_RunesSums.j0]) (ev_pos rfl (Ev.bind known_ev (Ev.now _)))
  unfold flonglaw02_RunesSums.f
  refine ev_ite (fun _ => ht) (fun h => ?_)
  by_cases hb : (b.length : Int) > 500
  · rw [decide_eq_true hb]
    exact ht
  · rw [decide_eq_false hb]
    refine Ev.step (fun k => by rw [flonglaw02_RunesSums.j0]) ?_
    refine ev_neg (by simp) (ev_pos (by simp; omega) ?_)
    simp only [Option.bind_some, List.nil_append]
    refine ev_pos (by omega) ?_
    exact sums_l a b _ (by omega) (by omega) (by simp) _ 0 [] rfl (by omega) (by simp) (by simp [sum_nil])
end Go.Proofs.YtaoiogpgncjolaaDoor.Pure
