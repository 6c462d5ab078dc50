/- PlainJoins: lines of two rows are written as one behind the other. The plain law. -/
import Derived.Test.YtadejblahbebdaaDoorSpecS
import Derived.Test.YtadejblahbebdaaDoorSpecA
import Derived.Test.YtadejblahbebdaaDoorSpecR
import Derived.Test.YtadejblahbebdaaDoorSaidPlainJoins
namespace Go.Proofs.YtadejblahbebdaaDoor.Pure
open Go Go.RowKit Go.Proofs.YtadejblahbebdaaDoorW.PrintWords Go.Proofs.YtadejblahbebdaaDoorW.PrintLast Go.Proofs.YtadejblahbebdaaDoorW.PrintMore Go.Proofs.YtadejblahbebdaaDoor.X Go.Proofs.YtadejblahbebdaaDoor.Hand
set_option linter.unusedVariables false
theorem PlainJoins : flonglaw17_PlainJoins.PureSaid := by
  intro a b _ hfa _ hfb hsa hsb
  refine Ev.rounds (g := fun k => flonglaw17_PlainJoins.f k a b) ?_
  have ht : Ev (fun k => flonglaw17_PlainJoins.j0 k a b true) true := Ev.step (f := fun k => (flonglaw17_known.f k).bind fun t => some t) (fun k => by simp only [flonglaw17_PlainJoins.j0]; rw [if_pos trivial]) (Ev.bind known_ev (Ev.now _))
  unfold flonglaw17_PlainJoins.f
  refine Ev.bind (long_ev (l := a) hsa) (ev_ite (fun _ => ht) (fun hna => Ev.bind (long_ev (l := b) hsb) ?_))
  by_cases hnb : longB b 0 = true
  · rw [hnb]
    exact ht
  obtain ⟨h1, h2⟩ := longB_false a 0 (by omega) (by simpa using hna)
  obtain ⟨h3, h4⟩ := longB_false b 0 (by omega) (by simpa using hnb)
  rw [show longB b 0 = false by simpa using hnb]
  have hla := lsum_length a
  have hlb := lsum_length b
  have hsma : ∀ x ∈ a, Small x := fun x hx => ⟨(h2 x hx).1, by have := (h2 x hx).2; omega, fun g hg => wf_u8 ((hfa x hx).2 g hg).2⟩
  have hsmb : ∀ x ∈ b, Small x := fun x hx => ⟨(h4 x hx).1, by have := (h4 x hx).2; omega, fun g hg => wf_u8 ((hfb x hx).2 g hg).2⟩
  have hsm : ∀ x ∈ a ++ b, Small x := fun x hx => (List.mem_append.1 hx).elim (hsma x) (hsmb x)
  have hra := rowBytes_length (prows_small hsma)
  have hrb := rowBytes_length (prows_small hsmb)
  rw [prows_length] at hra hrb
  have hab : (a ++ b).length ≤ 1000 := by rw [List.length_append]; omega
  have hBs : rowBytes (prows a) ++ rowBytes (prows b) = rowBytes (prows (a ++ b)) := by rw [prows_append, rowBytes_append]
  have hrab := rowBytes_length (prows_small hsm)
  rw [prows_length] at hrab
  have hsame : Ev (fun _ => flongref00_Same.f (rowBytes (prows (a ++ b))) (rowBytes (prows a) ++ rowBytes (prows b))) true := ev_one (by rw [hBs]; unfold flongref00_Same.f; simp)
  have hsafe := safe17_ev (rowBytes_Bytes (prows (a ++ b))) (by omega)
  rw [rowBytes_safe (prows_good _), ← hBs] at hsafe
  have hrows := samerows_true (prows (a ++ b)) (by rw [prows_length]; omega) (fun r hr => by have := prows_small hsm r hr; omega)
  refine Ev.step (f := fun k => (if ([] : List Ln).length + a.length < 3518437208883 then ((some (([] : List Ln) ++ a : List Ln)).bind fun y465 => (if y465.length + b.length < 3518437208883 then ((some (y465 ++ b : List Ln)).bind fun y468 => ((plain_Write.f k a).bind fun t471 => ((plain_Write.f k b).bind fun t474 => (if t471.length + t474.length < 140737488355328 then ((some (t471 ++ t474 : List Int)).bind fun y477 => ((plain_Rows.f k a).bind fun t480 => ((plain_Rows.f k b).bind fun t483 => (if t480.length + t483.length < 5864062014805 then ((plain_Write.f k y468).bind fun t489 => ((flongref00_Same.f t489 y477).bind fun t492 => (if t492 = true then ((plain_Rows.f k y468).bind fun t493 => ((flongref03_SameRows.f k t493 (t480 ++ t483)).bind fun t496 => (if t496 = true then ((plain_Safe.f k y477).bind fun t497 => (if t497 = true then ((flonglaw17_known.f k).bind fun t498 => (some t498)) else (some false))) else (some false)))) else (some false)))) else (none))))) else (none))))) else (none))) else (none))) (fun k => by simp only [flonglaw17_PlainJoins.j0]; rw [if_neg (by simp)]) ?_
  refine ev_pos (by simp only [List.length_nil]; omega) (ev_bind1 rfl (ev_pos (by simp only [List.nil_append]; omega) (ev_bind1 rfl ?_)))
  simp only [List.nil_append]
  refine Ev.bind (write_ev (by omega) hsma) (Ev.bind (write_ev (by omega) hsmb) (ev_pos (by omega) (ev_bind1 rfl ?_)))
  refine Ev.bind (rows_ev (by omega) hsma) (Ev.bind (rows_ev (by omega) hsmb) (ev_pos (by rw [prows_length, prows_length]; omega) ?_))
  refine Ev.bind (write_ev hab hsm) (Ev.bind hsame (ev_pos rfl (Ev.bind (rows_ev hab hsm) ?_)))
  rw [← prows_append]
  exact Ev.bind hrows (ev_pos rfl (Ev.bind hsafe (ev_pos rfl (Ev.bind known_ev (Ev.now _)))))
end Go.Proofs.YtadejblahbebdaaDoor.Pure
