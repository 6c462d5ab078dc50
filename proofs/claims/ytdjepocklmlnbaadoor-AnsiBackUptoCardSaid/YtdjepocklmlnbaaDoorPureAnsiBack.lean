/- AnsiBack: what is written is read, each glyph as it was set; without its signs it is what is written plain. The plain law. -/
import Derived.Test.YtdjepocklmlnbaaDoorSpecQ
import Derived.Test.YtdjepocklmlnbaaDoorSaidAnsiBack
namespace Go.Proofs.YtdjepocklmlnbaaDoor.Pure
open Go Go.RowKit Go.Proofs.YtdjepocklmlnbaaDoorW.PrintWords Go.Proofs.YtdjepocklmlnbaaDoorW.PrintLast Go.Proofs.YtdjepocklmlnbaaDoorW.PrintMore Go.Proofs.YtdjepocklmlnbaaDoor.X Go.Proofs.YtdjepocklmlnbaaDoor.Hand
set_option linter.unusedVariables false
theorem AnsiBack : flonglaw19_AnsiBack.PureSaid := by
  intro l _ hf hs
  refine Ev.rounds (g := fun k => flonglaw19_AnsiBack.f k l) ?_
  unfold flonglaw19_AnsiBack.f
  refine Ev.bind (long_ev (l := l) hs) (ev_ite (fun _ => Ev.bind known_ev (Ev.now _)) (fun h => ?_))
  obtain ⟨h1, h2⟩ := longB_false l 0 (by omega) (by simpa using h)
  have hll := lsum_length l
  have hsm : ∀ x ∈ l, Small x := fun x hx => ⟨(h2 x hx).1, by have := (h2 x hx).2; omega, fun g hg => wf_u8 ((hf x hx).2 g hg).2⟩
  have hrl := prows_length l
  have hr3 := prows_small hsm
  have hN := prows_Nrml hsm
  have hrw := rrows_ev (by omega) hsm
  have hpw := rwrite_ev (by omega) hsm
  refine Ev.bind (awrite_ev (by omega) hsm) ?_
  revert hrl hr3 hN hrw hpw
  generalize prows l = rs
  intro hrl hr3 hN hrw hpw
  have hbl := wB_length rs hr3
  have hb := wB_Bytes rs
  have hread := aread_ev hb (by omega) (by rw [cutC_wB rs hN, List.length_map]; omega) (fun y hy => by
    rw [cutC_wB rs hN] at hy
    obtain ⟨r, hr, rfl⟩ := List.mem_map.1 hy
    obtain ⟨hg, hn⟩ := hN r hr
    have h3 := refGo_length r 0
    have h4 := hr3 r hr
    exact ⟨refGo_Bytes r 0, by omega, fun q hq => by rw [(lineV_row hn hg).2 q hq]; exact h4⟩)
  rw [readA_wB hN] at hread
  have hst := strip_ev hb (by omega)
  rw [strip_wB rs hN] at hst
  refine Ev.bind hread (ev_pos rfl (Ev.bind hrw (Ev.bind (samerows_true rs (by omega) (fun r hr => by have := hr3 r hr; omega)) (ev_pos rfl ?_))))
  exact Ev.bind hst (Ev.bind hpw (ev_bind1 (by unfold flongref00_Same.f; simp) (ev_pos rfl (Ev.bind known_ev (Ev.now _)))))
end Go.Proofs.YtdjepocklmlnbaaDoor.Pure
