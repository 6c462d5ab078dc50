/- Whether two rows of glyphs are the same. -/
import Derived.Test.YtadejblahbebdaaDoorSpecA
import Derived.Test.YtadejblahbebdaaDoorX14
namespace Go.Proofs.YtadejblahbebdaaDoor.Pure
open Go.RowKit Go.Proofs.YtadejblahbebdaaDoorW.PrintWords Go.Proofs.YtadejblahbebdaaDoorW.PrintLast Go.Proofs.YtadejblahbebdaaDoorW.PrintMore Go.Proofs.YtadejblahbebdaaDoor.X
set_option linter.unusedSimpArgs false
set_option linter.unusedVariables false
theorem gsame_ev (a b : List Gl) (h : a.length ≤ 9223372036854775807) : Ev (fun k => flongref03_Same.f k a b) (decide (a = b)) := by
  unfold flongref03_Same.f
  refine ev_ite (fun hl => ?_) (fun hl => ev_eq (Ev.now _) (by symm; rw [decide_eq_false_iff_not]; intro e; exact hl (by rw [e])))
  have hl' : a.length = b.length := by omega
  refine ev_eq (loop_up (σ := Unit) (fun k _ i => flongref03_Same.l0 k a b i) a.length (fun _ i => decide (a.drop i = b.drop i)) (fun _ _ => True) ?_ ?_ () 0 (by omega) trivial) (by simp)
  · intro _ _
    exact Ev.step (f := fun _ => some true) (fun k => by simp only [flongref03_Same.l0]; rw [if_neg (by omega)]) (ev_eq (Ev.now _) (by simp [hl']))
  · intro _ i hi _ ih
    refine Ev.step (f := fun k => if (!((a[i].f0) == (b[i].f0)) || (!((a[i].f1) == (b[i].f1)))) = true then some false else flongref03_Same.l0 k a b ((i + 1 : Nat) : Int)) (fun k => ?_) ?_
    · simp only [flongref03_Same.l0]
      rw [if_pos (by omega), if_pos (by omega), if_pos (by omega), rdG a i hi, rdG b i (by omega), wrap_up hi h]
    · refine ev_ite (fun hc => ev_eq (Ev.now _) ?_) (fun hc => ev_eq (ih () trivial) ?_)
      · symm
        rw [decide_eq_false_iff_not, drop_ne hi (by omega)]
        exact fun e => (gl_ne _ _).1 hc e.1
      · have e : a[i] = b[i] := Decidable.of_not_not fun e => hc ((gl_ne _ _).2 e)
        simp only [drop_ne hi (show i < b.length by omega), e, true_and]
theorem gsame_true {a b : List Gl} (e : a = b) (h : a.length ≤ 9223372036854775807) : Ev (fun k => flongref03_Same.f k a b) true := ev_eq (gsame_ev a b h) (by simp [e])
end Go.Proofs.YtadejblahbebdaaDoor.Pure
