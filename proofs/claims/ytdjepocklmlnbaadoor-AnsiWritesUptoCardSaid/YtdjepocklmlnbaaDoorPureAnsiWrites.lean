/- AnsiWrites: any lines' bytes, any row's, and any sign, are what the chapter says. The plain law. -/
import Derived.Test.YtdjepocklmlnbaaDoorSpecC
import Derived.Test.YtdjepocklmlnbaaDoorSaidAnsiWrites
namespace Go.Proofs.YtdjepocklmlnbaaDoor.Pure
open Go Go.RowKit Go.Proofs.YtdjepocklmlnbaaDoorW.PrintWords Go.Proofs.YtdjepocklmlnbaaDoorW.PrintLast Go.Proofs.YtdjepocklmlnbaaDoorW.PrintMore Go.Proofs.YtdjepocklmlnbaaDoor.X Go.Proofs.YtdjepocklmlnbaaDoor.Hand
set_option linter.unusedVariables false
theorem AnsiWrites : flonglaw19_AnsiWrites.PureSaid := by
  intro l s _ hf hw hs
  have h8 : 0 ≤ s ∧ s ≤ 255 := wf_u8 hw
  refine Ev.rounds (g := fun k => flonglaw19_AnsiWrites.f k l s) ?_
  unfold flonglaw19_AnsiWrites.f
  refine Ev.bind (long_ev (l := l) hs) (ev_ite (fun _ => Ev.bind known_ev (Ev.now _)) (fun h => ?_))
  obtain ⟨h1, h2⟩ := longB_false l 0 (by omega) (by simpa using h)
  have hll := lsum_length l
  have hsm : ∀ x ∈ l, Small x := fun x hx => ⟨(h2 x hx).1, by have := (h2 x hx).2; omega, fun g hg => wf_u8 ((hf x hx).2 g hg).2⟩
  have same : ∀ b : List Int, flongref00_Same.f b b = some true := fun b => by unfold flongref00_Same.f; simp
  refine loop_up (σ := Unit) (fun k _ i => flonglaw19_AnsiWrites.l0 k l s i) l.length (fun _ _ => true) (fun _ _ => True) ?_ ?_ () 0 (by omega) trivial
  · intro _ _
    refine Ev.step (f := fun k => (ansi_Write.f k l).bind fun t406 => ((flongref19_Write.f k l).bind fun t409 => ((flongref00_Same.f t406 t409).bind fun t412 => (if t412 = true then ((ansi_Sign.f s).bind fun t413 => ((flongref19_Sign.f s).bind fun t414 => (if t413.toList = t414.toList then ((flonglaw19_known.f k).bind fun t415 => (some t415)) else (some false)))) else (some false))))) (fun k => by simp only [flonglaw19_AnsiWrites.l0]; rw [if_neg (by omega)]) ?_
    exact Ev.bind (awrite_ev (by omega) hsm) (Ev.bind (rawrite_ev (by omega) hsm) (ev_bind1 (same _) (ev_pos rfl (ev_bind1 (sign_eq h8) (ev_bind1 (rsign_eq h8) (ev_pos rfl (Ev.bind known_ev (Ev.now _))))))))
  · intro _ i hi _ ih
    have hx := hsm l[i] (List.getElem_mem hi)
    refine Ev.step (f := fun k => (ansi_Row.f k l[i].f1).bind fun t398 => ((flongref19_Row.f k l[i].f1).bind fun t402 => ((flongref00_Same.f t398 t402).bind fun t405 => (if t405 = true then (flonglaw19_AnsiWrites.l0 k l s ((i + 1 : Nat) : Int)) else (some false))))) (fun k => ?_) ?_
    · simp only [flonglaw19_AnsiWrites.l0]
      rw [if_pos (by omega), if_pos (by omega), rdN l i hi, wrap_up hi (by omega)]
    · exact Ev.bind (row_ev (by have := hx.2.1; omega) hx.2.2) (Ev.bind (rrow_ev (by have := hx.2.1; omega) hx.2.2) (ev_bind1 (same _) (ev_pos rfl (ih () trivial))))
end Go.Proofs.YtdjepocklmlnbaaDoor.Pure
