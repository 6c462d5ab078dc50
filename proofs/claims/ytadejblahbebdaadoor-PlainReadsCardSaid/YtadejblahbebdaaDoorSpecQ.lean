/- SpecQ: several of this session's texts in one. -/
import Derived.Test.YtadejblahbebdaaDoorSpecA
import Derived.Test.YtadejblahbebdaaDoorX18
import Derived.Test.YtadejblahbebdaaDoorSpecR
import Derived.Test.YtadejblahbebdaaDoorSpecC
/- The references of layer 2: their printed functions answer by the same plain functions. -/
namespace Go.Proofs.YtadejblahbebdaaDoor.Pure
open Go.RowKit Go.Proofs.YtadejblahbebdaaDoorW.PrintWords Go.Proofs.YtadejblahbebdaaDoorW.PrintLast Go.Proofs.YtadejblahbebdaaDoorW.PrintMore Go.Proofs.YtadejblahbebdaaDoor.X Go.Proofs.YtadejblahbebdaaDoor.Hand
set_option linter.unusedSimpArgs false
set_option linter.unusedVariables false

theorem rencode_l (l : List Int) : ∀ (d i : Nat) (o : List Int), l.length - i = d → i ≤ l.length → o.length + 4 * (l.length - i) < 140737488355328 → l.length ≤ 9223372036854775807 →
  Ev (fun k => flongref02_Encode.l0 k l o (i : Int)) (o ++ encode (l.drop i)) := by
 intro d
 induction d with
 | zero =>
  intro i o hd hi ho hl
  refine Ev.step (f := fun _ => some o) (fun k => ?_) (ev_eq (Ev.now _) ?_)
  ·simp only [flongref02_Encode.l0]
   rw [if_neg (by omega)]
  ·rw [List.drop_eq_nil_of_le (by omega)]
   simp [encode_nil]
 | succ d ih =>
  intro i o hd hi ho hl
  have hlt : i < l.length := by omega
  have h1 := one_len l[i]
  refine Ev.step (f := fun k => (flongref02_One.f k l[i]).bind fun t => if o.length + t.length < 140737488355328 then flongref02_Encode.l0 k l (o ++ t) ((i + 1 : Nat) : Int) else none) (fun k => ?_) ?_
  ·simp only [flongref02_Encode.l0]
   rw [if_pos (by omega), if_pos (by omega), rd_nat l i hlt, wrap_of (by omega) (by omega)]
   rfl
  ·refine Ev.bind (rone_ev _) (ev_pos (by omega) (ev_eq (ih (i + 1) _ (by omega) (by omega) (by rw [List.length_append]; omega) hl) ?_))
   rw [List.drop_eq_getElem_cons hlt, encode_cons, List.append_assoc]
theorem rencode_ev (l : List Int) (h : 4 * l.length < 140737488355328) : Ev (fun k => flongref02_Encode.f k l) (encode l) := by
 unfold flongref02_Encode.f
 exact ev_eq (rencode_l l l.length 0 [] (by omega) (by omega) (by simpa using h) (by omega)) (by simp)

end Go.Proofs.YtadejblahbebdaaDoor.Pure

/- Bytes as lines: the reference's. -/
namespace Go.Proofs.YtadejblahbebdaaDoor.Pure
open Go Go.RowKit Go.Proofs.YtadejblahbebdaaDoorW.PrintWords Go.Proofs.YtadejblahbebdaaDoorW.PrintLast Go.Proofs.YtadejblahbebdaaDoorW.PrintMore Go.Proofs.YtadejblahbebdaaDoor.X Go.Proofs.YtadejblahbebdaaDoor.Hand
set_option linter.unusedSimpArgs false
set_option linter.unusedVariables false
theorem rsafe17_ev {b : List Int} (hb : Bytes b) (h : b.length ≤ 1000000000) : Ev (fun k => flongref17_Safe.f k b) (safeB b) := by
 unfold flongref17_Safe.f safeB
 refine Ev.bind (rdecode_ev hb h) ?_
 have hl := (decode_length b hb).1
 generalize decode b = l at hl
 refine ev_eq (loop_up (σ := Unit) (fun k _ i => flongref17_Safe.l0 k b l i) l.length (fun _ i => decide (encode l = b) && !((l.drop i).any badR)) (fun _ _ => True) ?_ ?_ () 0 (by omega) trivial) (by simp)
 ·intro _ _
  refine Ev.step (f := fun k => (flongref02_Encode.f k l).bind fun t => some ((strOfNums t).toList == (strOfNums b).toList)) (fun k => by simp only [flongref17_Safe.l0]; rw [if_neg (by omega)]) ?_
  exact Ev.bind (rencode_ev l (by omega)) (ev_eq (Ev.now _) (by rw [str_eq (encode_bytes l) hb, List.drop_length]; simp))
 ·intro _ i hi _ ih
  rw [List.drop_eq_getElem_cons hi, List.any_cons]
  refine Ev.step (f := fun k => if l[i] = 10 then flongref17_Safe.l0 k b l ((i + 1 : Nat) : Int) else (if controlB l[i] = true then some false else flongref17_Safe.l0 k b l ((i + 1 : Nat) : Int))) (fun k => ?_) ?_
  ·simp only [flongref17_Safe.l0]
   rw [if_pos (by omega), if_pos (by omega), rd_nat l i hi, wrap_up hi (by omega), rcontrol_eq, Option.bind_some]
  ·refine ev_ite (fun h10 => ev_eq (ih () trivial) ?_) (fun h10 => ev_ite (fun hc => ev_eq (Ev.now _) ?_) (fun hc => ev_eq (ih () trivial) ?_))
   ·simp [badR, h10]
   ·simp [badR, h10, hc]
   ·simp [badR, hc]
theorem rread17_ev {b : List Int} (hb : Bytes b) (h : b.length ≤ 100000000) : Ev (fun k => flongref17_Read.f k b) (readV b) := by
 have hloop : Ev (fun k => flongref17_Read.l0 k b [] 0 0) (lns b, 0) := by
  refine ev_eq (loop_up (σ := List (List Gl) × Nat) (fun k s i => flongref17_Read.l0 k b s.1 (s.2 : Int) i) b.length (fun s i => (s.1 ++ (cutC ((b.take i).drop s.2) (b.drop i)).map ofL, 0)) (fun s i => s.2 ≤ i ∧ s.1.length ≤ i) ?_ ?_ ([], 0) 0 (by omega) (by simp)) (by simp [lns])
  ·rintro ⟨o, fr⟩ ⟨h1, h2⟩
   exact Ev.step (f := fun _ => some (o, 0)) (fun k => by simp only [flongref17_Read.l0]; rw [if_neg (by omega)]) (ev_eq (Ev.now _) (by rw [List.drop_length]; simp [cutC]))
  ·rintro ⟨o, fr⟩ i hi ⟨h1, h2⟩ ih
   simp only at h1 h2
   have hbt : Bytes ((b.take i).drop fr) := fun x hx => hb x (List.mem_of_mem_take (List.mem_of_mem_drop hx))
   have hlt : ((b.take i).drop fr).length ≤ 100000000 := by
    rw [List.length_drop, List.length_take]
    omega
   rw [List.drop_eq_getElem_cons hi, cutC]
   by_cases h10 : b[i] = 10
   ·rw [if_pos h10, List.map_cons]
    refine Ev.step (f := fun k => (flongref03_Of.f k (strOfNums ((b.take i).drop fr)) 0).bind fun t => if o.length < 5864062014805 then flongref17_Read.l0 k b (o ++ [t]) ((i + 1 : Nat) : Int) ((i + 1 : Nat) : Int) else none) (fun k => ?_) ?_
    ·simp only [flongref17_Read.l0]
     rw [if_pos (by omega), if_pos (by omega), rd_nat b i hi, if_pos h10, if_pos (by omega), if_pos (by omega), if_pos (by omega), wrap_up hi (by omega)]
     rfl
    ·refine Ev.bind (ev_eq (rof_ev _ 0 (by rw [numsStr_size]; omega)) (r' := ofL ((b.take i).drop fr)) (by rw [numsStr_back hbt]; rfl)) (ev_pos (by omega) (ev_eq (ih (o ++ [ofL ((b.take i).drop fr)], i + 1) ⟨Nat.le_refl _, by simp only [List.length_append, List.length_singleton]; omega⟩) ?_))
     simp only [List.append_assoc, List.singleton_append, Prod.mk.injEq, and_true]
     have e3 : (b.take (i + 1)).drop (i + 1) = [] := List.drop_eq_nil_of_le (by rw [List.length_take]; omega)
     rw [e3]
   ·rw [if_neg h10]
    refine Ev.step (f := fun k => flongref17_Read.l0 k b o (fr : Int) ((i + 1 : Nat) : Int)) (fun k => ?_) (ev_eq (ih (o, fr) ⟨by show fr ≤ i + 1; omega, by show o.length ≤ i + 1; omega⟩) ?_)
    ·simp only [flongref17_Read.l0]
     rw [if_pos (by omega), if_pos (by omega), rd_nat b i hi, if_neg h10, wrap_up hi (by omega)]
    ·simp only
     rw [List.take_add_one, List.getElem?_eq_getElem hi, Option.toList_some, List.drop_append_of_le_length (by rw [List.length_take]; omega)]
 unfold flongref17_Read.f readV
 refine Ev.bind (rsafe17_ev hb (by omega)) (ev_ite (fun hs => ?_) (fun hs => ?_))
 ·rw [hs]
  cases hl : b.getLast? with
  | none =>
   rw [List.getLast?_eq_none_iff] at hl
   subst hl
   refine ev_neg (by simp) (Ev.step (f := fun k => flongref17_Read.l0 k [] [] 0 0) (fun k => by simp only [flongref17_Read.j0]; rw [if_neg (by simp)]) (ev_eq hloop (by simp)))
  | some y =>
   obtain ⟨c, rfl⟩ := List.getLast?_eq_some_iff.1 hl
   have hlc : (c ++ [y]).length = c.length + 1 := by simp
   have hw : wrap64 (((c.length + 1 : Nat) : Int) - 1) = (c.length : Int) := by
    rw [wrap_of (by omega) (by omega)]
    omega
   rw [hlc, hw]
   refine ev_pos (by omega) (ev_pos (by omega) (ev_pos (by omega) ?_))
   rw [rd_nat (c ++ [y]) c.length (by simp)]
   by_cases hy : y = 10
   ·subst hy
    refine Ev.step (f := fun k => flongref17_Read.l0 k (c ++ [10]) [] 0 0) (fun k => by simp only [flongref17_Read.j0]; rw [if_neg (by simp)]) (ev_eq hloop (by simp))
   ·refine Ev.step (f := fun _ => some ([], 5)) (fun k => by simp only [flongref17_Read.j0]; rw [if_pos (by simpa using hy)]) (ev_eq (Ev.now _) ?_)
    rw [if_neg]
    rintro ⟨_, h1 | h1⟩
    ·simp at h1
    ·exact hy (Option.some.inj h1)
 ·refine Ev.step (f := fun _ => some ([], 5)) (fun k => by simp only [flongref17_Read.j0]; rw [if_pos trivial]) (ev_eq (Ev.now _) (by rw [if_neg (fun e => hs e.1)]))
end Go.Proofs.YtadejblahbebdaaDoor.Pure
