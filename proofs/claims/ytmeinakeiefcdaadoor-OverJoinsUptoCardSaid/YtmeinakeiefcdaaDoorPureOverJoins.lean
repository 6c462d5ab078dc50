/- OverJoins: lines of two rows are written as one behind the other; a row as its glyphs, one by one, as they are, normal. The plain law. -/
import Derived.Test.YtmeinakeiefcdaaDoorSpecQ
import Derived.Test.YtmeinakeiefcdaaDoorSaidOverJoins
namespace Go.Proofs.YtmeinakeiefcdaaDoor.Pure
open Go Go.RowKit Go.Proofs.YtmeinakeiefcdaaDoorW.PrintWords Go.Proofs.YtmeinakeiefcdaaDoorW.PrintLast Go.Proofs.YtmeinakeiefcdaaDoorW.PrintMore Go.Proofs.YtmeinakeiefcdaaDoor.X Go.Proofs.YtmeinakeiefcdaaDoor.Hand
set_option linter.unusedVariables false
set_option linter.unusedSimpArgs false
theorem prows_app (a b : List Ln) : prows (a ++ b) = prows a ++ prows b := by simp [prows]
theorem OverJoins : flonglaw18_OverJoins.PureSaid := by
  intro a b l _ hfa _ hfb _ hfl hsa hsb
  have h8 : ∀ g ∈ l, 0 ≤ g.f1 ∧ g.f1 ≤ 255 := fun g hg => wf_u8 (hfl g hg).2
  have same : ∀ x : List Int, flongref00_Same.f x x = some true := fun x => by unfold flongref00_Same.f; simp
  refine Ev.rounds (g := fun k => flonglaw18_OverJoins.f k a b l) ?_
  have ht : Ev (fun k => flonglaw18_OverJoins.j0 k a b l true) true := Ev.step (f := fun k => (flonglaw18_known.f k).bind fun t => some t) (fun k => by simp only [flonglaw18_OverJoins.j0]; rw [if_pos trivial]) (Ev.bind known_ev (Ev.now _))
  unfold flonglaw18_OverJoins.f
  refine Ev.bind (long_ev (l := a) hsa) (ev_ite (fun _ => ht) (fun hna => Ev.bind (long_ev (l := b) hsb) (ev_ite (fun _ => ht) (fun hnb => ?_))))
  by_cases hll : (l.length : Int) > 200
  · rw [decide_eq_true hll]
    exact ht
  rw [decide_eq_false hll]
  obtain ⟨h1, h2⟩ := longB_false a 0 (by omega) (by simpa using hna)
  obtain ⟨h3, h4⟩ := longB_false b 0 (by omega) (by simpa using hnb)
  have hla := lsum_length a
  have hlb := lsum_length b
  have hsma : ∀ x ∈ a, Small x := fun x hx => ⟨(h2 x hx).1, by have := (h2 x hx).2; omega, fun g hg => wf_u8 ((hfa x hx).2 g hg).2⟩
  have hsmb : ∀ x ∈ b, Small x := fun x hx => ⟨(h4 x hx).1, by have := (h4 x hx).2; omega, fun g hg => wf_u8 ((hfb x hx).2 g hg).2⟩
  have hsm : ∀ x ∈ a ++ b, Small x := fun x hx => (List.mem_append.1 hx).elim (hsma x) (hsmb x)
  have hra := wO_length _ (prows_small hsma)
  have hrb := wO_length _ (prows_small hsmb)
  rw [prows_length] at hra hrb
  have hab : (a ++ b).length ≤ 1000 := by rw [List.length_append]; omega
  have hW : wO (prows (a ++ b)) = wO (prows a) ++ wO (prows b) := by rw [prows_app, wO_append]
  have hnl := rnormal_ev l (exists_trim (clean l)).choose_spec (by omega) h8
  change Ev _ (nrm l) at hnl
  have hle := nrm_length l
  have hni := nrm_is h8
  have hn8 : ∀ g ∈ nrm l, 0 ≤ g.f1 ∧ g.f1 ≤ 255 := fun g hg => ⟨(hni.cl g hg).2.2.1, by have := (hni.cl g hg).2.2.2.1; omega⟩
  have hrow := row18_ev (l := l) (by omega) h8
  have hrr := rrow18_ev (l := nrm l) (by omega) hn8
  rw [hni.self] at hrr
  have hwab := owrite_ev hab hsm
  rw [hW] at hwab
  refine Ev.step (f := fun k => (if ([] : List Ln).length + a.length < 3518437208883 then ((some (([] : List Ln) ++ a : List Ln)).bind fun y389 => (if y389.length + b.length < 3518437208883 then ((over_Write.f k a).bind fun t395 => ((over_Write.f k b).bind fun t398 => (if t395.length + t398.length < 140737488355328 then ((flongref17_Normal.f k l).bind fun t404 => (flonglaw18_OverJoins.l0 k l (y389 ++ b) (t395 ++ t398) t404 ([] : List Int) 0)) else (none)))) else (none))) else (none))) (fun k => by simp only [flonglaw18_OverJoins.j0]; rw [if_neg (by simp)]) ?_
  refine ev_pos (by simp only [List.length_nil]; omega) (ev_bind1 rfl (ev_pos (by simp only [List.nil_append]; omega) ?_))
  simp only [List.nil_append]
  refine Ev.bind (owrite_ev (by omega) hsma) (Ev.bind (owrite_ev (by omega) hsmb) (ev_pos (by omega) (Ev.bind hnl ?_)))
  revert hni hn8 hrow hrr hle
  generalize nrm l = c
  intro hle hni hn8 hrow hrr
  refine loop_up (fun k s i => flonglaw18_OverJoins.l0 k l (a ++ b) (wO (prows a) ++ wO (prows b)) c s i) c.length (fun _ _ => true) (fun s i => s = rowO (c.take i) ∧ s.length ≤ 20 * i) ?_ ?_ [] 0 (by omega) ⟨rfl, by simp⟩
  · rintro s ⟨hs, _⟩
    rw [List.take_length] at hs
    subst hs
    refine Ev.step (f := fun k => (over_Write.f k (a ++ b)).bind fun t414 => ((flongref00_Same.f t414 (wO (prows a) ++ wO (prows b))).bind fun t417 => (if t417 = true then ((over_Row.f k l).bind fun t418 => ((flongref00_Same.f t418 (rowO c)).bind fun t421 => (if t421 = true then ((flongref18_Row.f k c).bind fun t422 => ((flongref00_Same.f t422 (rowO c)).bind fun t425 => (if t425 = true then ((flonglaw18_known.f k).bind fun t426 => (some t426)) else (some false)))) else (some false)))) else (some false)))) (fun k => by simp only [flonglaw18_OverJoins.l0]; rw [if_neg (by omega)]) ?_
    exact Ev.bind hwab (ev_bind1 (same _) (ev_pos rfl (Ev.bind hrow (ev_bind1 (same _) (ev_pos rfl (Ev.bind hrr (ev_bind1 (same _) (ev_pos rfl (Ev.bind known_ev (Ev.now _))))))))))
  · rintro s i hi ⟨hs, hsl⟩ ih
    have hlen := oneV_length c[i]
    refine Ev.step (f := fun k => (over_One.f k c[i].f0 c[i].f1).bind fun t408 => (if s.length + t408.length < 140737488355328 then (flonglaw18_OverJoins.l0 k l (a ++ b) (wO (prows a) ++ wO (prows b)) c (s ++ t408) ((i + 1 : Nat) : Int)) else (none))) (fun k => ?_) ?_
    · simp only [flonglaw18_OverJoins.l0]
      rw [if_pos (by omega), if_pos (by omega), rdG c i hi, wrap_up hi (by omega)]
    · refine Ev.bind (over_one_ev c[i] (hn8 _ (List.getElem_mem hi))) (ev_pos (by omega) (ih _ ⟨?_, by rw [List.length_append]; omega⟩))
      rw [List.take_succ_eq_append_getElem hi, rowO_append, ← hs]
      simp [rowO]
end Go.Proofs.YtmeinakeiefcdaaDoor.Pure
