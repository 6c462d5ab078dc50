/- PlainBack: what is written is read: the rows, erased, line by line. The plain law. -/
import Derived.Test.YtadejblahbebdaaDoorSpecS
import Derived.Test.YtadejblahbebdaaDoorSpecA
import Derived.Test.YtadejblahbebdaaDoorSpecR
import Derived.Test.YtadejblahbebdaaDoorSaidPlainBack
namespace Go.Proofs.YtadejblahbebdaaDoor.Pure
open Go Go.RowKit Go.Proofs.YtadejblahbebdaaDoorW.PrintWords Go.Proofs.YtadejblahbebdaaDoorW.PrintLast Go.Proofs.YtadejblahbebdaaDoorW.PrintMore Go.Proofs.YtadejblahbebdaaDoor.X Go.Proofs.YtadejblahbebdaaDoor.Hand
set_option linter.unusedVariables false
theorem PlainBack : flonglaw17_PlainBack.PureSaid := by
  intro l _ hf hs
  refine Ev.rounds (g := fun k => flonglaw17_PlainBack.f k l) ?_
  unfold flonglaw17_PlainBack.f
  refine Ev.bind (long_ev (l := l) hs) (ev_ite (fun _ => Ev.bind known_ev (Ev.now _)) (fun h => ?_))
  obtain ⟨h1, h2⟩ := longB_false l 0 (by omega) (by simpa using h)
  have hll := lsum_length l
  have hsm : ∀ x ∈ l, Small x := fun x hx => ⟨(h2 x hx).1, by have := (h2 x hx).2; omega, fun g hg => wf_u8 ((hf x hx).2 g hg).2⟩
  have hg := prows_good l
  have hrl := prows_length l
  have hr3 := prows_small hsm
  have hw := write_ev (by omega) hsm
  have hrw := rows_ev (by omega) hsm
  revert hg hrl hr3 hw hrw
  generalize prows l = rs
  intro hg hrl hr3 hw hrw
  have hbl := rowBytes_length hr3
  have hb := rowBytes_Bytes rs
  have hsafe := rowBytes_safe hg
  have hlf := lfs_rows rs hg
  have heach := rowBytes_each hg
  have hread := read17_ev hb (by omega)
  have hsv := safe17_ev hb (by omega)
  rw [readV_rows hg] at hread
  rw [hsafe] at hsv
  refine Ev.bind hw (Ev.bind hread (Ev.bind hrw ?_))
  revert hb hbl hlf heach hsv
  generalize rowBytes rs = b
  intro hb hbl hlf heach hsv
  simp only
  have hl1 : Ev (fun k => flonglaw17_PlainBack.l1 k (rs.map erase) rs 0) true := by
    refine loop_up (σ := Unit) (fun k _ i => flonglaw17_PlainBack.l1 k (rs.map erase) rs i) rs.length (fun _ _ => true) (fun _ _ => True) ?_ ?_ () 0 (by omega) trivial
    · intro _ _
      exact Ev.step (f := fun k => (flonglaw17_known.f k).bind fun t => some t) (fun k => by simp only [flonglaw17_PlainBack.l1]; rw [if_neg (by rw [List.length_map]; omega)]) (Ev.bind known_ev (Ev.now _))
    · intro _ i hi _ ih
      have hri := hr3 rs[i] (List.getElem_mem hi)
      refine Ev.step (f := fun k => (flongref17_Erase.f k rs[i]).bind fun t535 => ((flongref03_Same.f k (erase rs[i]) t535).bind fun t538 => (if t538 = true then (flonglaw17_PlainBack.l1 k (rs.map erase) rs ((i + 1 : Nat) : Int)) else (some false)))) (fun k => ?_) ?_
      · simp only [flonglaw17_PlainBack.l1]
        rw [if_pos (by rw [List.length_map]; omega), if_pos (by omega), if_pos (by omega), rdL rs i hi, rdL (rs.map erase) i (by rw [List.length_map]; omega), List.getElem_map, wrap_up hi (by omega)]
      · exact Ev.bind (rerase_ev _ (by omega)) (Ev.bind (gsame_true rfl (by unfold erase; rw [List.length_map]; omega)) (ev_pos rfl (ih () trivial)))
  refine loop_up (σ := Int) (fun k n i => flonglaw17_PlainBack.l0 k l b (rs.map erase) 0 rs n i) b.length (fun _ _ => true) (fun n i => n + (lfs (b.drop i) : Int) = (rs.length : Int) ∧ 0 ≤ n) ?_ ?_ 0 0 (by omega) (by rw [List.drop_zero, hlf]; omega)
  · rintro n ⟨hn, _⟩
    rw [List.drop_length, show lfs [] = 0 from rfl] at hn
    refine Ev.step (f := fun k => (plain_Safe.f k b).bind fun t => flonglaw17_PlainBack.j1 k (rs.map erase) rs (!t)) (fun k => ?_) ?_
    · simp only [flonglaw17_PlainBack.l0]
      rw [if_neg (by omega), if_pos trivial, if_pos (by omega), if_pos (by rw [List.length_map]; omega), if_pos (by omega)]
    · exact Ev.bind hsv (Ev.step (f := fun k => flonglaw17_PlainBack.l1 k (rs.map erase) rs 0) (fun k => by simp only [flonglaw17_PlainBack.j1]; rw [if_neg (by simp)]) hl1)
  · rintro n i hi ⟨hn, hn0⟩ ih
    have hx := heach b[i] (List.getElem_mem hi)
    rw [List.drop_eq_getElem_cons hi] at hn
    unfold lfs at hn ih
    rw [List.countP_cons] at hn
    by_cases h10 : b[i] = 10
    · rw [if_pos (by simpa using h10)] at hn
      refine Ev.step (f := fun k => flonglaw17_PlainBack.l0 k l b (rs.map erase) 0 rs (n + 1) ((i + 1 : Nat) : Int)) (fun k => ?_) (ih _ ⟨by omega, by omega⟩)
      simp only [flonglaw17_PlainBack.l0]
      rw [if_pos (by omega), if_pos (by omega), rd_nat b i hi, if_pos h10, wrap_up hi (by omega), wrap_of (x := n + 1) (by omega) (by omega)]
    · rw [if_neg (by simpa using h10)] at hn
      refine Ev.step (f := fun k => flonglaw17_PlainBack.l0 k l b (rs.map erase) 0 rs n ((i + 1 : Nat) : Int)) (fun k => ?_) (ih _ ⟨by omega, by omega⟩)
      simp only [flonglaw17_PlainBack.l0]
      rw [if_pos (by omega), if_pos (by omega), rd_nat b i hi, if_neg h10, if_neg (by omega), if_neg (by omega), wrap_up hi (by omega)]
end Go.Proofs.YtadejblahbebdaaDoor.Pure
