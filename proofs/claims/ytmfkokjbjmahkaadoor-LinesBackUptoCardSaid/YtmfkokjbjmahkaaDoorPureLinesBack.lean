/- LinesBack: rows that may be written are read from their lines as they were, one line each, and nothing is wrong. The plain law. -/
import Derived.Test.YtmfkokjbjmahkaaDoorSpecQ
import Derived.Test.YtmfkokjbjmahkaaDoorSaidLinesBack
namespace Go.Proofs.YtmfkokjbjmahkaaDoor.Pure
open Go Go.RowKit Go.Proofs.YtmfkokjbjmahkaaDoorW.PrintWords Go.Proofs.YtmfkokjbjmahkaaDoorW.PrintLast Go.Proofs.YtmfkokjbjmahkaaDoorW.PrintMore Go.Proofs.YtmfkokjbjmahkaaDoor.X Go.Proofs.YtmfkokjbjmahkaaDoor.Hand Go.Proofs.YtmfkokjbjmahkaaDoor.Open
set_option linter.unusedVariables false
theorem argsLong_bulk : ∀ l : List ByteArray, argsLong l ≤ 3 * (l.map fun s => s.size + 1).sum
  | [] => by simp [argsLong]
  | s :: l => by
    have := argsLong_bulk l
    simp only [argsLong, List.map_cons, List.sum_cons] at this ⊢
    omega
theorem longL_bulk : ∀ l : List Rw, longL l ≤ 3 * (l.map fun x => rowBulk x).sum
  | [] => by simp [longL]
  | x :: l => by
    have h1 := longL_bulk l
    have h2 := argsLong_bulk x.f2
    have h3 : rowBulk x = x.f1.size + x.f3.size + (x.f2.map fun s => s.size + 1).sum + 1 := rfl
    have h4 : rowLong x = 2 + x.f1.size + x.f3.size + argsLong x.f2 := rfl
    rw [longL_cons, List.map_cons, List.sum_cons]
    omega
theorem LinesBack : flonglaw05_LinesBack.PureSaid := by
  intro l hl _ hbulk
  have hlong := longL_bulk l
  refine Ev.rounds (g := fun k => flonglaw05_LinesBack.f k l) ?_
  have hk : Ev (fun k => (flonglaw05_known.f k).bind fun t => some t) true := Ev.bind known_ev (Ev.now _)
  unfold flonglaw05_LinesBack.f
  refine Ev.bind (long_ev (by omega)) (ev_ite (fun _ => hk) (fun h0 => ?_))
  have hlen := longL_len l
  refine loop_up (σ := List Rw) (fun k s i => flonglaw05_LinesBack.l0 k l s i) l.length (fun _ _ => true) (fun s i => s = numV 0 ((l.take i).filter okR)) ?_ ?_ [] 0 (by omega) rfl
  · intro s hs
    rw [List.take_length] at hs
    have hr := read_ev (textV_bytes l) (by have := textV_len l; omega)
    rw [readV_back, ← hs] at hr
    have hsame := same_rows (l := s) (by
      rw [hs, numV_len]
      have := List.length_filter_le okR l
      omega) (fun r hr => by
      rw [hs] at hr
      obtain ⟨x, hx, e⟩ := numV_mem hr
      have h1 := longL_mem (List.mem_filter.1 hx).1
      have h2 := argsLong_len x.f2
      unfold rowLong at h1
      rw [e]
      omega)
    refine Ev.step (f := fun k => (lines_Write.f k l).bind fun t174 => ((lines_Read.f k t174).bind fun bt175 => ((flongref05_Same.f k bt175.1 s).bind fun t181 => (if t181 = true then (if (bt175.2.length : Int) = 0 then ((flonglaw05_known.f k).bind fun t182 => (some t182)) else (some false)) else (some false))))) (fun k => ?_) (Ev.bind (write_ev (by omega)) (Ev.bind hr (Ev.bind hsame (ev_pos rfl (ev_pos rfl hk)))))
    simp only [flonglaw05_LinesBack.l0]
    rw [if_neg (by omega)]
  · intro s i hi hs ih
    have hx := longL_mem (List.getElem_mem hi)
    have hc := check_row (x := l[i]) (by omega)
    have hsl : s.length ≤ 2000 := by
      rw [hs, numV_len]
      have := List.length_filter_le okR (l.take i)
      rw [List.length_take] at this
      omega
    have hf : (l.take (i + 1)).filter okR = (l.take i).filter okR ++ (if okR l[i] = true then [l[i]] else []) := by
      rw [List.take_succ_eq_append_getElem hi, List.filter_append]
      congr 1
      rw [List.filter_cons]
      rfl
    refine Ev.step (f := fun k => (lines_Check.f k l[i].f0 l[i].f1 l[i].f2 l[i].f3).bind fun t168 => (if t168 = 0 then (flonglaw05_LinesBack.l0 k l (s ++ [⟨(s.length : Int) + 1, l[i].f1, l[i].f2, l[i].f3⟩]) ((i + 1 : Nat) : Int)) else (flonglaw05_LinesBack.l0 k l s ((i + 1 : Nat) : Int)))) (fun k => ?_) (Ev.bind hc ?_)
    · simp only [flonglaw05_LinesBack.l0, rdRow l i hi]
      rw [if_pos (by omega), if_pos (by omega), if_pos (by omega), wrap_up hi (by omega), wrap_of (x := (s.length : Int) + 1) (by omega) (by omega)]
    · by_cases ho : okR l[i] = true
      · rw [if_pos ho]
        refine ev_pos rfl (ih _ ?_)
        rw [hf, if_pos ho, numV_snoc, ← hs]
        congr 3
        rw [hs, numV_len]
        omega
      · rw [if_neg ho]
        refine ev_neg (by decide) (ih _ ?_)
        rw [hf, if_neg ho, List.append_nil]
        exact hs
end Go.Proofs.YtmfkokjbjmahkaaDoor.Pure
