/- PlainKeeps: bytes that are rows are these rows' lines, written. The plain law. -/
import Derived.Test.YtadejblahbebdaaDoorSpecS
import Derived.Test.YtadejblahbebdaaDoorSpecR
import Derived.Test.YtadejblahbebdaaDoorSpecC
import Derived.Test.YtadejblahbebdaaDoorSpec03y
import Derived.Test.YtadejblahbebdaaDoorSaidPlainKeeps
namespace Go.Proofs.YtadejblahbebdaaDoor.Pure
open Go Go.RowKit Go.Proofs.YtadejblahbebdaaDoorW.PrintWords Go.Proofs.YtadejblahbebdaaDoorW.PrintLast Go.Proofs.YtadejblahbebdaaDoorW.PrintMore Go.Proofs.YtadejblahbebdaaDoor.X Go.Proofs.YtadejblahbebdaaDoor.Hand
set_option linter.unusedVariables false
/-- A row as a line of its own. -/
def lineOf (r : List Gl) : Ln := ⟨0, r, false⟩
theorem flat_lineOf (r : List Gl) : flat (lineOf r) = r := by
  unfold flat lineOf
  by_cases h : r.length = 0
  · rw [if_pos h]
    exact (List.eq_nil_of_length_eq_zero h).symm
  · rw [if_neg h]
    rfl
theorem prows_lineOf (rs : List (List Gl)) : prows (rs.map lineOf) = rs.map nrm := by
  unfold prows
  rw [List.map_map]
  exact List.map_congr_left fun r _ => by show nrm (flat (lineOf r)) = nrm r; rw [flat_lineOf]
theorem PlainKeeps : flonglaw17_PlainKeeps.PureSaid := by
  intro b _ hb0
  have hb : Bytes b := fun x hx => wf_u8 (hb0 x hx)
  refine Ev.rounds (g := fun k => flonglaw17_PlainKeeps.f k b) ?_
  unfold flonglaw17_PlainKeeps.f
  refine ev_ite (fun _ => Ev.bind known_ev (Ev.now _)) (fun h1 => Ev.bind (read17_ev hb (by omega)) ?_)
  obtain ⟨hr1, hr2⟩ := readV_small hb (by omega)
  unfold readV at hr1 hr2 ⊢
  split
  · rename_i hok
    rw [if_pos hok] at hr1 hr2
    have hz : ∀ r ∈ lns b, ∀ g ∈ r, g.f1 = 0 := by
      intro r hr
      obtain ⟨y, _, rfl⟩ := List.mem_map.1 hr
      exact ofL_zero y
    refine ev_pos rfl ?_
    revert hr1 hr2 hz
    show (lns b).length ≤ 1000 → (∀ r ∈ lns b, r.length ≤ 1000) → _
    generalize lns b = rs
    intro hr1 hr2 hz
    have hsm : ∀ x ∈ rs.map lineOf, Small x := by
      intro x hx
      obtain ⟨r, hr, rfl⟩ := List.mem_map.1 hx
      exact ⟨by show (0 : Int) ≤ 2000; omega, hr2 r hr, fun g hg => by rw [hz r hr g hg]; omega⟩
    refine loop_up (σ := List Ln × ByteArray) (fun k s i => flonglaw17_PlainKeeps.l0 k rs s.1 s.2 i) rs.length (fun _ _ => true) (fun s i => s.1 = (rs.take i).map lineOf ∧ s.2 = strOfNums (rowBytes ((rs.take i).map nrm))) ?_ ?_ ([], ⟨#[]⟩) 0 (by omega) (by simp; rfl)
    · rintro ⟨ls, s⟩ ⟨e1, e2⟩
      simp only [List.take_length] at e1 e2
      subst e1 e2
      refine Ev.step (f := fun k => (plain_Write.f k (rs.map lineOf)).bind fun t554 => (if (strOfNums t554).toList = (strOfNums (rowBytes (rs.map nrm))).toList then ((flonglaw17_known.f k).bind fun t557 => (some t557)) else (some false))) (fun k => by simp only [flonglaw17_PlainKeeps.l0]; rw [if_neg (by omega)]) ?_
      refine Ev.bind (write_ev (by rw [List.length_map]; omega) hsm) ?_
      rw [prows_lineOf]
      exact ev_pos rfl (Ev.bind known_ev (Ev.now _))
    · rintro ⟨ls, s⟩ i hi ⟨e1, e2⟩ ih
      simp only at e1 e2
      subst e1 e2
      have hri := hr2 rs[i] (List.getElem_mem hi)
      have hnl := nrm_length rs[i]
      have hlen := rowBytes_length (rs := (rs.take i).map nrm) (fun r hr => by
        obtain ⟨y, hy, rfl⟩ := List.mem_map.1 hr
        have := nrm_length y
        have := hr2 y (List.mem_of_mem_take hy)
        omega)
      rw [List.length_map, List.length_take] at hlen
      have hen := encode_length (runesOf (nrm rs[i]))
      rw [runesOf_length] at hen
      have e : (strOfNums (rowBytes ((rs.take i).map nrm)) ++ strOfNums (encode (runesOf (nrm rs[i])))) ++ (⟨#[10]⟩ : ByteArray) = strOfNums (rowBytes ((rs.take (i + 1)).map nrm)) := by
        rw [List.take_add_one, List.getElem?_eq_getElem hi, Option.toList_some, List.map_append, rowBytes_append, numsStr_append, ByteArray.append_assoc]
        show _ = _ ++ strOfNums (rowBytes [nrm rs[i]])
        rw [rowBytes_cons, lineBytes, List.append_assoc, numsStr_append]
        rfl
      refine Ev.step (f := fun k => (flongref17_Normal.f k rs[i]).bind fun t550 => ((flongref03_Text.f k t550).bind fun t553 => (if (strOfNums (rowBytes ((rs.take i).map nrm))).size + t553.size ≤ 9223372036854775807 then (if (strOfNums (rowBytes ((rs.take i).map nrm)) ++ t553).size + 1 ≤ 9223372036854775807 then (flonglaw17_PlainKeeps.l0 k rs ((rs.take i).map lineOf ++ [lineOf rs[i]]) ((strOfNums (rowBytes ((rs.take i).map nrm)) ++ t553) ++ (⟨#[10]⟩ : ByteArray)) ((i + 1 : Nat) : Int)) else (none)) else (none)))) (fun k => ?_) ?_
      · simp only [flonglaw17_PlainKeeps.l0]
        rw [if_pos (by omega), if_pos (by omega), if_pos (by rw [List.length_map, List.length_take]; omega), rdL rs i hi, wrap_up hi (by omega)]
        rfl
      · refine Ev.bind (rnormal_ev _ (exists_trim (clean rs[i])).choose_spec (by omega) (fun g hg => by rw [hz _ (List.getElem_mem hi) g hg]; omega)) ?_
        show Ev (fun k => (flongref03_Text.f k (nrm rs[i])).bind _) true
        refine Ev.bind (rgtext_ev _ (by omega)) (ev_pos (by rw [numsStr_size, numsStr_size]; omega) (ev_pos (by rw [← numsStr_append, numsStr_size, List.length_append]; omega) ?_))
        rw [e]
        exact ih ((rs.take i).map lineOf ++ [lineOf rs[i]], strOfNums (rowBytes ((rs.take (i + 1)).map nrm))) ⟨by show (rs.take i).map lineOf ++ [lineOf rs[i]] = (rs.take (i + 1)).map lineOf; rw [List.take_add_one, List.getElem?_eq_getElem hi, Option.toList_some, List.map_append]; rfl, rfl⟩
  · exact ev_neg (by decide) (ev_pos rfl (Ev.bind known_ev (Ev.now _)))
end Go.Proofs.YtadejblahbebdaaDoor.Pure
