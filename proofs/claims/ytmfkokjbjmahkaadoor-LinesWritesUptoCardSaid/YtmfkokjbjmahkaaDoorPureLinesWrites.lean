/- LinesWrites: any rows' lines are what the chapter says; whether each may be written, too. The plain law. -/
import Derived.Test.YtmfkokjbjmahkaaDoorSpecQ
import Derived.Test.YtmfkokjbjmahkaaDoorHandC
import Derived.Test.YtmfkokjbjmahkaaDoorSaidLinesWrites
namespace Go.Proofs.YtmfkokjbjmahkaaDoor.Pure
open Go Go.RowKit Go.Proofs.YtmfkokjbjmahkaaDoorW.PrintWords Go.Proofs.YtmfkokjbjmahkaaDoorW.PrintLast Go.Proofs.YtmfkokjbjmahkaaDoorW.PrintMore Go.Proofs.YtmfkokjbjmahkaaDoor.X Go.Proofs.YtmfkokjbjmahkaaDoor.Hand Go.Proofs.YtmfkokjbjmahkaaDoor.Open
set_option linter.unusedVariables false
theorem argsLong_bulk : ∀ l : List ByteArray, argsLong l ≤ 3 * (l.map fun s => s.size + 1).sum
  | [] => by simp [argsLong]
  | s :: l => by
    have := argsLong_bulk l
    simp only [argsLong, List.map_cons, List.sum_cons] at this ⊢
    omega
theorem longL_bulk : ∀ l : List Rw, longL l ≤ 3 * (l.map fun x => rowBulk x).sum
  | [] => by simp [longL]
  | x :: l => by
    have h1 := longL_bulk l
    have h2 := argsLong_bulk x.f2
    have h3 : rowBulk x = x.f1.size + x.f3.size + (x.f2.map fun s => s.size + 1).sum + 1 := rfl
    have h4 : rowLong x = 2 + x.f1.size + x.f3.size + argsLong x.f2 := rfl
    rw [longL_cons, List.map_cons, List.sum_cons]
    omega
theorem same_self (l : List Rw) : lines_Same.f l l = some true := by
  unfold lines_Same.f
  rw [if_pos ⟨rfl, fun i h h' => ⟨rfl, rfl, ⟨rfl, fun j _ _ => rfl⟩, rfl⟩⟩]
theorem LinesWrites : flonglaw05_LinesWrites.PureSaid := by
  intro l hl _ hbulk
  have hlong := longL_bulk l
  refine Ev.rounds (g := fun k => flonglaw05_LinesWrites.f k l) ?_
  have hk : Ev (fun k => (flonglaw05_known.f k).bind fun t => some t) true := Ev.bind known_ev (Ev.now _)
  unfold flonglaw05_LinesWrites.f
  refine Ev.bind (long_ev (by omega)) (ev_ite (fun _ => hk) (fun h0 => ?_))
  have hlen := longL_len l
  refine loop_up (σ := Unit) (fun k _ i => flonglaw05_LinesWrites.l0 k l i) l.length (fun _ _ => true) (fun _ _ => True) ?_ ?_ () 0 (by omega) trivial
  · intro _ _
    refine Ev.step (f := fun k => (lines_Write.f k l).bind fun t205 => ((flongref05_Write.f k l).bind fun t206 => (if t205.toList = t206.toList then ((lines_Same.f l l).bind fun t207 => (if t207 = true then ((flonglaw05_known.f k).bind fun t208 => (some t208)) else (some false))) else (some false)))) (fun k => ?_) (Ev.bind (write_ev (by omega)) (Ev.bind (rwrite_ev (by omega)) (ev_pos rfl ?_)))
    · simp only [flonglaw05_LinesWrites.l0]
      rw [if_neg (by omega)]
    · rw [same_self]
      exact Ev.bind (Ev.now _) (ev_pos rfl hk)
  · intro _ i hi _ ih
    have hx := longL_mem (List.getElem_mem hi)
    refine Ev.step (f := fun k => (lines_Check.f k l[i].f0 l[i].f1 l[i].f2 l[i].f3).bind fun t202 => ((flongref05_Check.f k l[i].f0 l[i].f1 l[i].f2 l[i].f3).bind fun t204 => (if t202 = t204 then (flonglaw05_LinesWrites.l0 k l ((i + 1 : Nat) : Int)) else (some false)))) (fun k => ?_) (Ev.bind (check_row (x := l[i]) (by omega)) (Ev.bind (rcheck_row (x := l[i]) (by omega)) (ev_pos rfl (ih () trivial))))
    simp only [flonglaw05_LinesWrites.l0, rdRow l i hi]
    rw [if_pos (by omega), if_pos (by omega), wrap_up hi (by omega)]
end Go.Proofs.YtmfkokjbjmahkaaDoor.Pure
