/- SpecC: several of this session's texts in one. -/
import Derived.Test.YtadejblahbebdaaDoorSpecA
import Derived.Test.YtadejblahbebdaaDoorX5
/- The references of layer 2 that look at one rune. -/
namespace Go.Proofs.YtadejblahbebdaaDoor.Pure
open Go.RowKit Go.Proofs.YtadejblahbebdaaDoorW.PrintWords Go.Proofs.YtadejblahbebdaaDoorW.PrintLast Go.Proofs.YtadejblahbebdaaDoorW.PrintMore Go.Proofs.YtadejblahbebdaaDoor.X Go.Proofs.YtadejblahbebdaaDoor.Hand
set_option linter.unusedSimpArgs false
set_option linter.unusedVariables false
theorem rcontrol_eq (a : Int) : flongref02_Control.f a = some (controlB a) := by
 unfold flongref02_Control.f
 by_cases h1 : a ≥ 0 <;> by_cases h2 : a ≤ 31 <;> by_cases h3 : a ≥ 127 <;> by_cases h4 : a ≤ 159 <;> by_cases h5 : a = 8232 <;> simp only [h1, h2, h3, h4, h5, if_true, if_false] <;> congr 1 <;> (rw [Bool.eq_iff_iff]; simp [controlB]; omega)
theorem rsafe_eq (a : Int) : flongref02_Safe.f a = some (safe a) := by
 unfold flongref02_Safe.f
 rw [rvalid_eq, Option.bind_some]
 by_cases h1 : validB a = true
 ·rw [if_pos h1, rcontrol_eq, Option.bind_some]
  cases h2 : controlB a <;> simp [safe, h1, h2]
 ·rw [if_neg h1]
  simp [safe, h1]
theorem within_step (r : Int) (ls : List Int) (n : Nat) (hn : ls.length = 2 * n) (hs : n ≤ 1000) (i : Nat) (hlt : i < n) (k : Nat) : flongref02_within.l0 (k + 1) r ls ((2 * i : Nat) : Int) =
  if r ≥ lowAt ls i then (if r ≤ highAt ls i then some true else flongref02_within.l0 k r ls ((2 * (i + 1) : Nat) : Int)) else flongref02_within.l0 k r ls ((2 * (i + 1) : Nat) : Int) := by
 have e0 : rd ls ((2 * i : Nat) : Int) = lowAt ls i := by
  rw [rd_nat ls (2 * i) (by omega)]
  simp [lowAt, List.getD_eq_getElem?_getD, Nat.mul_comm i 2, List.getElem?_eq_getElem (show 2 * i < ls.length by omega)]
 have e1 : rd ls (((2 * i : Nat) : Int) + 1) = highAt ls i := by
  rw [show ((2 * i : Nat) : Int) + 1 = ((2 * i + 1 : Nat) : Int) from by omega, rd_nat ls (2 * i + 1) (by omega)]
  simp [highAt, List.getD_eq_getElem?_getD, Nat.mul_comm i 2, List.getElem?_eq_getElem (show 2 * i + 1 < ls.length by omega)]
 simp only [flongref02_within.l0]
 rw [wrap_of (x := ((2 * i : Nat) : Int) + 1) (by omega) (by omega), wrap_of (x := ((2 * i : Nat) : Int) + 2) (by omega) (by omega), if_pos (by omega), if_pos (by omega), if_pos (by omega), e0, e1, show ((2 * i : Nat) : Int) + 2 = ((2 * (i + 1) : Nat) : Int) from by omega]
 split
 ·rw [if_pos (by omega)]
 ·rfl
theorem within_end (r : Int) (ls : List Int) (n : Nat) (hn : ls.length = 2 * n) (hs : n ≤ 1000) (k : Nat) : flongref02_within.l0 (k + 1) r ls ((2 * n : Nat) : Int) = some false := by
 simp only [flongref02_within.l0]
 rw [wrap_of (by omega) (by omega), if_neg (by omega)]
theorem part_range (r : Int) (ls : List Int) (n i : Nat) (hlt : i < n) : (∃ j, i ≤ j ∧ j < n ∧ lowAt ls j ≤ r ∧ r ≤ highAt ls j) ↔ (lowAt ls i ≤ r ∧ r ≤ highAt ls i) ∨ ∃ j, i + 1 ≤ j ∧ j < n ∧ lowAt ls j ≤ r ∧ r ≤ highAt ls j := by
 constructor
 ·rintro ⟨j, h1, h2, h3⟩
  by_cases e : j = i
  ·subst e; exact .inl h3
  ·exact .inr ⟨j, by omega, h2, h3⟩
 ·rintro (h | ⟨j, h1, h2, h3⟩)
  ·exact ⟨i, Nat.le_refl _, hlt, h⟩
  ·exact ⟨j, by omega, h2, h3⟩
theorem within_l (r : Int) (ls : List Int) (n : Nat) (hn : ls.length = 2 * n) (hs : n ≤ 1000) : ∀ (d i : Nat), n - i = d → i ≤ n → ∀ b : Bool, (b = true ↔ ∃ j, i ≤ j ∧ j < n ∧ lowAt ls j ≤ r ∧ r ≤ highAt ls j) → Ev (fun k => flongref02_within.l0 k r ls ((2 * i : Nat) : Int)) b := by
 intro d
 induction d with
 | zero =>
  intro i hd hi b hb
  obtain rfl : i = n := by clear hb; omega
  refine Ev.step (f := fun _ => some false) (fun k => within_end r ls i hn hs k) (ev_eq (Ev.now _) ?_)
  cases b with
  | false => rfl
  | true =>
   obtain ⟨j, h1, h2, _⟩ := hb.1 rfl
   exact absurd h2 (Nat.not_lt.2 h1)
 | succ d ih =>
  intro i hd hi b hb
  have hlt : i < n := by clear hb; omega
  have hnext := ih (i + 1) (by clear hb; omega) (by clear hb; omega)
  refine Ev.step (within_step r ls n hn hs i hlt) ?_
  refine ev_ite (fun h => ev_ite (fun h' => ev_eq (Ev.now _) ?_) (fun h' => hnext b ?_)) (fun h => hnext b ?_)
  ·exact ((hb.trans (part_range r ls n i hlt)).2 (.inl ⟨h, h'⟩)).symm
  ·rw [hb, part_range r ls n i hlt]
   exact ⟨fun z => z.resolve_left (fun q => h' q.2), .inr⟩
  ·rw [hb, part_range r ls n i hlt]
   exact ⟨fun z => z.resolve_left (fun q => h q.1), .inr⟩
theorem within_ev (r : Int) (ls : List Int) (n : Nat) (hn : ls.length = 2 * n) (hs : n ≤ 1000) : Ev (fun k => flongref02_within.f k r ls) (inRange ls n r) := by
 unfold flongref02_within.f
 refine within_l r ls n hn hs n 0 (by omega) (by omega) _ ?_
 rw [inRange_true]
 constructor
 ·rintro ⟨j, h2, h3⟩; exact ⟨j, Nat.zero_le _, h2, h3⟩
 ·rintro ⟨j, _, h2, h3⟩; exact ⟨j, h2, h3⟩
theorem rwidth_ev (r : Int) : Ev (fun k => flongref02_Width.f k r) (wid r) := by
 have hj : ∀ b : Bool, Ev (fun k => flongref02_Width.j0 k r b) (if b = true then 0 else if inRange noneL 12 r = true then 0 else if inRange wideL 16 r = true then 2 else 1) := by
  intro b
  refine Ev.step (f := fun k => if b = true then some 0 else ((flongref02_within.f k r noneL).bind fun t => if t = true then some 0 else ((flongref02_within.f k r wideL).bind fun t => if t = true then some 2 else some 1))) (fun k => by simp only [flongref02_Width.j0, noneL, wideL]) ?_
  refine ev_ite (fun h => ev_eq (Ev.now _) (by simp [h])) (fun h => Ev.bind (within_ev r noneL 12 rfl (by omega)) (ev_ite (fun h1 => ev_eq (Ev.now _) (by simp [h, h1])) (fun h1 => Ev.bind (within_ev r wideL 16 rfl (by omega)) (ev_ite (fun h2 => ev_eq (Ev.now _) (by simp [h, h1, h2])) (fun h2 => ev_eq (Ev.now _) (by simp [h, h1, h2]))))))
 unfold flongref02_Width.f
 refine ev_bind1 (rvalid_eq r) (ev_ite (fun h => ev_bind1 (rcontrol_eq r) (ev_eq (hj _) ?_)) (fun h => ev_eq (hj _) ?_))
 ·simp [wid, h]
 ·simp [wid, h]
end Go.Proofs.YtadejblahbebdaaDoor.Pure

/- The reference: what may be written of a row. -/
namespace Go.Proofs.YtadejblahbebdaaDoor.Pure
open Go.RowKit Go.Proofs.YtadejblahbebdaaDoorW.PrintWords Go.Proofs.YtadejblahbebdaaDoorW.PrintLast Go.Proofs.YtadejblahbebdaaDoorW.PrintMore Go.Proofs.YtadejblahbebdaaDoor.X Go.Proofs.YtadejblahbebdaaDoor.Hand
set_option linter.unusedSimpArgs false
set_option linter.unusedVariables false
theorem tmod4 {x : Int} (h : 0 ≤ x ∧ x ≤ 255) : Int.tmod x 4 = Go.bits .and .u8 x 3 := by
 have h1 : ∀ n : Nat, n < 256 → Int.tmod (n : Int) 4 = Go.bits .and .u8 (n : Int) 3 := by decide +kernel
 obtain ⟨n, rfl⟩ := Int.eq_ofNat_of_zero_le h.1
 exact h1 n (by omega)
theorem safe_32 : safe 32 = 32 := by decide +kernel
theorem rclean_ev (l : List Gl) (h : l.length ≤ 5000) (h8 : ∀ g ∈ l, 0 ≤ g.f1 ∧ g.f1 ≤ 255) : Ev (fun k => flongref03_Clean.f k l) (clean l) := by
 unfold flongref03_Clean.f
 refine ev_eq (loop_up (fun k o i => flongref03_Clean.l0 k l o i) l.length (fun o i => if o = [] then clean (l.drop i) else o ++ (l.drop i).map cleanG) (fun o i => o.length ≤ i) ?_ ?_ [] 0 (by omega) (by simp)) (by simp)
 ·intro o _
  refine Ev.step (f := fun _ => some o) (fun k => by simp only [flongref03_Clean.l0]; rw [if_neg (by omega)]) (ev_eq (Ev.now _) ?_)
  rw [List.drop_length]
  split
  ·rename_i e
   rw [e]
   rfl
  ·simp
 ·intro o i hi ho ih
  have h1 : Ev (fun k => flongref03_Clean.l0 k l (o ++ [cleanG l[i]]) ((i + 1 : Nat) : Int)) (o ++ cleanG l[i] :: (l.drop (i + 1)).map cleanG) := by
   refine ev_eq (ih (o ++ [cleanG l[i]]) (by simp; omega)) ?_
   rw [if_neg (by simp), List.append_assoc]
   rfl
  have hst : Int.tmod l[i].f1 4 = Go.bits .and .u8 l[i].f1 3 := tmod4 (h8 l[i] (List.getElem_mem hi))
  have hj : ∀ x : Int, cleanG l[i] = ⟨x, Int.tmod l[i].f1 4⟩ → Ev (fun k => if (o.length : Int) > 0 then (if o.length < 17592186044416 then flongref03_Clean.l0 k l (o ++ [(⟨x, Int.tmod l[i].f1 4⟩ : Gl)]) ((i + 1 : Nat) : Int) else none) else ((flongref02_Width.f k x).bind fun t => if t > 0 then (if o.length < 17592186044416 then flongref03_Clean.l0 k l (o ++ [(⟨x, Int.tmod l[i].f1 4⟩ : Gl)]) ((i + 1 : Nat) : Int) else none) else flongref03_Clean.l0 k l o ((i + 1 : Nat) : Int))) (if o = [] then clean (l.drop i) else o ++ (l.drop i).map cleanG) := by
   intro x hx
   rw [← hx]
   refine ev_ite (fun hc => ev_pos (by omega) (ev_eq h1 ?_)) (fun hc => ?_)
   ·rw [if_neg (by intro e; rw [e] at hc; simp at hc), List.drop_eq_getElem_cons hi, List.map_cons]
   ·obtain rfl : o = [] := by
     rcases o with _ | ⟨_, _⟩
     ·rfl
     ·exfalso
      apply hc
      simp only [List.length_cons]
      omega
    rw [if_pos rfl]
    have hw : wid x = wid (cleanG l[i]).f0 := by rw [hx]
    refine Ev.bind (rwidth_ev x) ?_
    rw [hw]
    refine ev_ite (fun hp => ev_pos (by simp) (ev_eq h1 ?_)) (fun hp => ev_eq (ih [] (by simp)) ?_)
    ·rw [List.drop_eq_getElem_cons hi, clean, List.map_cons, List.dropWhile_cons, if_neg (by simp [hp])]
     rfl
    ·rw [if_pos rfl, List.drop_eq_getElem_cons hi, clean, clean, List.map_cons, List.dropWhile_cons, if_pos (by simp [hp])]
  by_cases hc : l[i].f0 = 160
  ·refine Ev.step (f := fun k => if (o.length : Int) > 0 then (if o.length < 17592186044416 then flongref03_Clean.l0 k l (o ++ [(⟨32, Int.tmod l[i].f1 4⟩ : Gl)]) ((i + 1 : Nat) : Int) else none) else ((flongref02_Width.f k 32).bind fun t => if t > 0 then (if o.length < 17592186044416 then flongref03_Clean.l0 k l (o ++ [(⟨32, Int.tmod l[i].f1 4⟩ : Gl)]) ((i + 1 : Nat) : Int) else none) else flongref03_Clean.l0 k l o ((i + 1 : Nat) : Int))) (fun k => ?_) (hj 32 ?_)
   ·simp only [flongref03_Clean.l0]
    rw [if_pos (by omega), if_pos (by omega), rdG l i hi, rsafe_eq, Option.bind_some, if_pos hc, wrap_up hi (by omega)]
   ·rw [cleanG, if_pos hc, safe_32, hst]
  ·refine Ev.step (f := fun k => if (o.length : Int) > 0 then (if o.length < 17592186044416 then flongref03_Clean.l0 k l (o ++ [(⟨safe l[i].f0, Int.tmod l[i].f1 4⟩ : Gl)]) ((i + 1 : Nat) : Int) else none) else ((flongref02_Width.f k (safe l[i].f0)).bind fun t => if t > 0 then (if o.length < 17592186044416 then flongref03_Clean.l0 k l (o ++ [(⟨safe l[i].f0, Int.tmod l[i].f1 4⟩ : Gl)]) ((i + 1 : Nat) : Int) else none) else flongref03_Clean.l0 k l o ((i + 1 : Nat) : Int))) (fun k => ?_) (hj (safe l[i].f0) ?_)
   ·simp only [flongref03_Clean.l0]
    rw [if_pos (by omega), if_pos (by omega), rdG l i hi, rsafe_eq, Option.bind_some, if_neg hc, wrap_up hi (by omega)]
   ·rw [cleanG, if_neg hc, hst]
end Go.Proofs.YtadejblahbebdaaDoor.Pure

/- The reference: a row trimmed. -/
namespace Go.Proofs.YtadejblahbebdaaDoor.Pure
open Go.RowKit Go.Proofs.YtadejblahbebdaaDoorW.PrintWords Go.Proofs.YtadejblahbebdaaDoorW.PrintLast Go.Proofs.YtadejblahbebdaaDoorW.PrintMore Go.Proofs.YtadejblahbebdaaDoor.X Go.Proofs.YtadejblahbebdaaDoor.Hand
set_option linter.unusedSimpArgs false
set_option linter.unusedVariables false
theorem rtrim_ev {l : List Gl} {m : Nat} (hm : IsTrim l m) (h : l.length ≤ 5000) : Ev (fun k => flongref03_Trim.f k l) (l.take m) := by
 have hle := hm.le
 have hend : (if 0 ≤ (m : Int) then (if (m : Int) ≤ (l.length : Int) then (some (l.take (m : Int).toNat)) else (none)) else (none)) = some (l.take m) := by
  rw [if_pos (by omega), if_pos (by omega), Int.toNat_natCast]
 have key : ∀ d n, n - m = d → m ≤ n → n ≤ l.length → Ev (fun k => flongref03_Trim.l0 k l (n : Int)) (l.take m) := by
  intro d
  induction d with
  | zero =>
   intro n hd h1 h2
   obtain rfl : n = m := by omega
   refine Ev.step (f := fun _ => some (l.take n)) (fun k => ?_) (Ev.now _)
   simp only [flongref03_Trim.l0]
   by_cases hp : 0 < n
   ·have hg := hm.last l[n - 1] hp (List.getElem?_eq_getElem (by omega))
    rw [if_pos (by omega), wrap_of (by omega) (by omega), show (n : Int) - 1 = ((n - 1 : Nat) : Int) by omega, if_pos (by omega), if_pos (by omega), rdG l (n - 1) (by omega), if_neg hg, hend]
   ·rw [if_neg (by omega), hend]
  | succ d ih =>
   intro n hd h1 h2
   have hg := hm.rest (n - 1) (l[n - 1]'(by omega)) (by omega) (List.getElem?_eq_getElem (by omega))
   refine Ev.step (f := fun k => flongref03_Trim.l0 k l ((n - 1 : Nat) : Int)) (fun k => ?_) (ih (n - 1) (by omega) (by omega) (by omega))
   simp only [flongref03_Trim.l0]
   rw [if_pos (by omega), wrap_of (by omega) (by omega), show (n : Int) - 1 = ((n - 1 : Nat) : Int) by omega, if_pos (by omega), if_pos (by omega), rdG l (n - 1) (by omega), if_pos hg]
 unfold flongref03_Trim.f
 exact key (l.length - m) l.length rfl hle (Nat.le_refl _)
end Go.Proofs.YtadejblahbebdaaDoor.Pure

/- The reference: a row made normal. -/
namespace Go.Proofs.YtadejblahbebdaaDoor.Pure
open Go.RowKit Go.Proofs.YtadejblahbebdaaDoorW.PrintWords Go.Proofs.YtadejblahbebdaaDoorW.PrintLast Go.Proofs.YtadejblahbebdaaDoorW.PrintMore Go.Proofs.YtadejblahbebdaaDoor.X Go.Proofs.YtadejblahbebdaaDoor.Hand
set_option linter.unusedSimpArgs false
set_option linter.unusedVariables false
theorem rnormal_ev (l : List Gl) {m : Nat} (hm : IsTrim (clean l) m) (h : l.length ≤ 5000) (h8 : ∀ g ∈ l, 0 ≤ g.f1 ∧ g.f1 ≤ 255) : Ev (fun k => flongref17_Normal.f k l) (normGo none ((clean l).take m)) := by
 have hcl := clean_length l
 unfold flongref17_Normal.f
 refine Ev.bind (rclean_ev l h h8) (Ev.bind (rtrim_ev hm (by omega)) ?_)
 have hlen : ((clean l).take m).length ≤ 1000000 := by rw [List.length_take]; omega
 generalize (clean l).take m = c at hlen
 refine ev_eq (loop_up (fun k o i => flongref17_Normal.l0 k c o i) c.length (fun o i => o ++ normGo (lastS o) (c.drop i)) (fun o i => o.length = i) ?_ ?_ [] 0 (by omega) rfl) (by simp [lastS])
 ·intro o ho
  refine Ev.step (f := fun _ => some o) (fun k => by simp only [flongref17_Normal.l0]; rw [if_neg (by omega)]) (ev_eq (Ev.now _) ?_)
  rw [List.drop_length, normGo, List.append_nil]
 ·intro o i hi ho ih
  have hnext : ∀ x : Gl, x = ⟨c[i].f0, setOf (lastS o) c[i]⟩ → Ev (fun k => flongref17_Normal.l0 k c (o ++ [x]) ((i + 1 : Nat) : Int)) (o ++ normGo (lastS o) (c.drop i)) := by
   intro x hx
   refine ev_eq (ih (o ++ [x]) (by simp [ho])) ?_
   rw [List.drop_eq_getElem_cons hi, lastS_snoc, normGo, hx, List.append_assoc]
   rfl
  have hj : ∀ b : Bool, (b = true ↔ (o ≠ [] ∧ wid c[i].f0 = 0)) → Ev (fun k => flongref17_Normal.j1 k c o (i : Int) b c[i].f0 c[i].f1) (o ++ normGo (lastS o) (c.drop i)) := by
   intro b hb
   by_cases h32 : c[i].f0 = 32
   ·have hn := hnext ⟨c[i].f0, 0⟩ (by simp [setOf, h32])
    refine Ev.step (fun k => ?_) hn
    simp only [flongref17_Normal.j1]
    cases b with
    | false => rw [if_neg (by simp), if_pos h32, if_pos (by omega), wrap_up hi (by omega)]
    | true =>
     have ho0 : o ≠ [] := (hb.1 rfl).1
     have := List.length_pos_iff.2 ho0
     rw [if_pos rfl, wrap_of (by omega) (by omega), if_pos (by omega), if_pos (by omega), if_pos h32, if_pos (by omega), wrap_up hi (by omega)]
   ·cases b with
    | false =>
     have hz : ¬ (o ≠ [] ∧ wid c[i].f0 = 0) := fun e => by simpa using hb.2 e
     have hn := hnext ⟨c[i].f0, c[i].f1⟩ (by
      rcases List.eq_nil_or_concat o with e | ⟨o', y, e⟩
      ·simp [setOf, h32, e, lastS]
      ·have hne : o ≠ [] := by rw [e]; simp
       have hw : ¬ wid c[i].f0 = 0 := fun e2 => hz ⟨hne, e2⟩
       rw [List.concat_eq_append] at e
       simp [setOf, h32, e, lastS_snoc, hw])
     refine Ev.step (fun k => ?_) hn
     simp only [flongref17_Normal.j1]
     rw [if_neg (by simp), if_neg h32, if_pos (by omega), wrap_up hi (by omega)]
    | true =>
     obtain ⟨ho0, hw⟩ := hb.1 rfl
     rcases List.eq_nil_or_concat o with e | ⟨o', y, e⟩
     ·exact absurd e ho0
     ·rw [List.concat_eq_append] at e
      have hol : o.length = o'.length + 1 := by rw [e]; simp
      have hy : rd_T37 o ((i - 1 : Nat) : Int) = y := by
       rw [rdG _ _ (by omega)]
       have : i - 1 = o'.length := by omega
       simp [e, this]
      have hn := hnext ⟨c[i].f0, y.f1⟩ (by rw [e]; simp [setOf, h32, lastS_snoc, hw])
      refine Ev.step (fun k => ?_) hn
      simp only [flongref17_Normal.j1]
      rw [if_pos trivial, wrap_of (by omega) (by omega), show (i : Int) - 1 = ((i - 1 : Nat) : Int) by omega, if_pos (by omega), if_pos (by omega), if_neg h32, if_pos (by omega), hy, wrap_up hi (by omega)]
  by_cases h0 : 0 < i
  ·have hne : o ≠ [] := by intro e; rw [e] at ho; simp at ho; omega
   refine Ev.step (f := fun k => (flongref02_Width.f k c[i].f0).bind fun t => flongref17_Normal.j1 k c o (i : Int) (t == 0) c[i].f0 c[i].f1) (fun k => ?_) (Ev.bind (rwidth_ev _) (hj _ (by simp [hne])))
   simp only [flongref17_Normal.l0]
   rw [if_pos (by omega), if_pos (by omega), if_pos (by omega), rdG c i hi]
  ·have he : o = [] := List.eq_nil_of_length_eq_zero (by omega)
   refine Ev.step (f := fun k => flongref17_Normal.j1 k c o (i : Int) false c[i].f0 c[i].f1) (fun k => ?_) (hj false (by simp [he]))
   simp only [flongref17_Normal.l0]
   rw [if_pos (by omega), if_pos (by omega), if_neg (by omega), rdG c i hi]
end Go.Proofs.YtadejblahbebdaaDoor.Pure
