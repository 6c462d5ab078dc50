/- LinesQuoted: texts in quotation marks, read as arguments, are the texts. The plain law. -/
import Derived.Test.YtmfkokjbjmahkaaDoorSpecQ
import Derived.Test.YtmfkokjbjmahkaaDoorSaidLinesQuoted
namespace Go.Proofs.YtmfkokjbjmahkaaDoor.Pure
open Go Go.RowKit Go.Proofs.YtmfkokjbjmahkaaDoorW.PrintWords Go.Proofs.YtmfkokjbjmahkaaDoorW.PrintLast Go.Proofs.YtmfkokjbjmahkaaDoorW.PrintMore Go.Proofs.YtmfkokjbjmahkaaDoor.X Go.Proofs.YtmfkokjbjmahkaaDoor.Hand
set_option linter.unusedVariables false
theorem LinesQuoted : flonglaw05_LinesQuoted.PureSaid := by
  intro l hl hx
  have hl' : l.length ≤ 8796093022208 := by omega
  refine Ev.rounds (g := fun k => flonglaw05_LinesQuoted.f k l) ?_
  unfold flonglaw05_LinesQuoted.f
  refine loop_up (σ := Nat × List Int) (fun k s i => flonglaw05_LinesQuoted.l0 k l (s.1 : Int) (strOfNums s.2) i) l.length (fun _ _ => true)
    (fun s i => s.2 = 32 :: joinQ ((l.take i).map bytesOf) ∧ s.1 ≤ 800 ∧ s.2.length ≤ 1 + 2 * s.1 + 4 * i) ?_ ?_ (0, [32]) 0 (by omega) ⟨rfl, by simp, by simp⟩
  · rintro ⟨n, a⟩ ⟨ha, hn, hal⟩
    simp only at ha hn hal
    rw [List.take_length] at ha
    have hv := argsV_join (l.map bytesOf)
    rw [← ha] at hv
    have hb : Bytes a := by
      rw [ha]
      intro y hy
      rcases List.mem_cons.1 hy with rfl | hy
      · decide
      · exact joinQ_bytes (fun x hx => by obtain ⟨t, _, rfl⟩ := List.mem_map.1 hx; exact bytesOf_Bytes t) y hy
    have he : (l.map bytesOf).map strOfNums = l := by
      rw [List.map_map]
      exact (List.map_congr_left (fun t _ => str_of t)).trans (List.map_id l)
    have hargs := args_big hb (by omega) (by rw [hv]; simpa using hl')
    rw [hv] at hargs
    refine Ev.step (f := fun k => (lines_Args.f k (strOfNums a)).bind fun bt176 => (if bt176.2 = true then ((flongref05_SameTexts.f k bt176.1 l).bind fun t180 => (if t180 = true then ((flonglaw05_known.f k).bind fun t181 => (some t181)) else (some false))) else (some false))) (fun k => ?_) (Ev.bind hargs (ev_pos rfl ?_))
    · simp only [flonglaw05_LinesQuoted.l0]
      rw [if_neg (by omega)]
    · simp only [he]
      exact Ev.bind (same_texts hl') (ev_pos rfl (Ev.bind known_ev (Ev.now _)))
  · rintro ⟨n, a⟩ i hi ⟨ha, hn, hal⟩ ih
    simp only at ha hn hal
    have hsz := hx l[i] (List.getElem_mem hi)
    have hw : wrap64 ((n : Int) + (l[i].size : Int)) = ((n + l[i].size : Nat) : Int) := by rw [wrap_of (by omega) (by omega)]; omega
    have hbi := bytesOf_Bytes l[i]
    have hsi : (bytesOf l[i]).length = l[i].size := by rw [← numsStr_size, str_of]
    by_cases hbig : n + l[i].size > 800
    · refine Ev.step (f := fun k => (flonglaw05_known.f k).bind fun t183 => (some t183)) (fun k => ?_) (Ev.bind known_ev (Ev.now _))
      simp only [flonglaw05_LinesQuoted.l0]
      rw [if_pos (by omega), if_pos (by omega), rdOf_at l i hi, hw, if_pos (by omega)]
    · have hq := quoted_eq hbi (by omega)
      rw [str_of] at hq
      have hql : (quoB (bytesOf l[i])).length ≤ 2 * l[i].size + 2 := by
        have := twoB_length (bytesOf l[i])
        rw [quoB_eq]
        simp
        omega
      refine Ev.step (f := fun k => flonglaw05_LinesQuoted.l0 k l ((n + l[i].size : Nat) : Int) (strOfNums (a ++ quoB (bytesOf l[i]) ++ [32, 32])) ((i + 1 : Nat) : Int)) (fun k => ?_) (ih (n + l[i].size, a ++ quoB (bytesOf l[i]) ++ [32, 32]) ⟨?_, by simp only; omega, ?_⟩)
      · simp only [flonglaw05_LinesQuoted.l0]
        rw [if_pos (by omega), if_pos (by omega), rdOf_at l i hi, hw, if_neg (by omega), hq, Option.bind_some, if_pos (by rw [numsStr_size, numsStr_size]; omega), if_pos (by rw [← numsStr_append, numsStr_size, List.length_append]; omega), wrap_up hi (by omega), show (⟨#[32, 32]⟩ : ByteArray) = strOfNums [32, 32] from rfl, ← numsStr_append, ← numsStr_append]
      · simp only
        rw [ha, List.take_succ_eq_append_getElem hi, List.map_append, List.map_singleton, joinQ_snoc]
        simp
      · simp only [List.length_append, List.length_cons, List.length_nil]
        omega
end Go.Proofs.YtmfkokjbjmahkaaDoor.Pure
