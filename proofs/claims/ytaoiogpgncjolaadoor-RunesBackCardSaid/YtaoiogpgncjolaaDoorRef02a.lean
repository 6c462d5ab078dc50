/- The references of layer 2: their printed functions answer by the same plain functions. -/
import Derived.Test.YtaoiogpgncjolaaDoorSpec02b
import Derived.Test.YtaoiogpgncjolaaDoorX3
import Derived.Test.YtaoiogpgncjolaaDoorX8
import Derived.Test.YtaoiogpgncjolaaDoorX11
import Derived.Test.YtaoiogpgncjolaaDoorX13
import Derived.Test.YtaoiogpgncjolaaDoorX14
namespace Go.Proofs.YtaoiogpgncjolaaDoor.Pure
open Go.RowKit Go.Proofs.YtaoiogpgncjolaaDoorW.PrintWords Go.Proofs.YtaoiogpgncjolaaDoorW.PrintLast Go.Proofs.YtaoiogpgncjolaaDoorW.PrintMore Go.Proofs.YtaoiogpgncjolaaDoor.X Go.Proofs.YtaoiogpgncjolaaDoor.Hand
set_option linter.unusedSimpArgs false
set_option linter.unusedVariables false

theorem rvalid_eq (a : Int) : flongref02_Valid.f a = some (validB a) := by
  unfold flongref02_Valid.f
  by_cases h1 : a ≥ 0 <;> by_cases h2 : a < 1114112 <;> by_cases h3 : a < 55296 <;> simp only [h1, h2, h3, if_true, if_false] <;> congr 1 <;> (rw [Bool.eq_iff_iff]; simp [validB]; omega)
theorem rcontrol_eq (a : Int) : flongref02_Control.f a = some (controlB a) := by
  unfold flongref02_Control.f
  by_cases h1 : a ≥ 0 <;> by_cases h2 : a ≤ 31 <;> by_cases h3 : a ≥ 127 <;> by_cases h4 : a ≤ 159 <;> by_cases h5 : a = 8232 <;> simp only [h1, h2, h3, h4, h5, if_true, if_false] <;> congr 1 <;> (rw [Bool.eq_iff_iff]; simp [controlB]; omega)
theorem rsafe_eq (a : Int) : flongref02_Safe.f a = some (safe a) := by
  unfold flongref02_Safe.f
  rw [rvalid_eq, Option.bind_some]
  by_cases h1 : validB a = true
  · rw [if_pos h1, rcontrol_eq, Option.bind_some]
    cases h2 : controlB a <;> simp [safe, h1, h2]
  · rw [if_neg h1]
    simp [safe, h1]
theorem rone_j {x : Int} (h : validB x = true) : Ev (fun k => flongref02_One.j0 k x) (enc x) := by
  have h' := (validB_iff x).1 h
  have t64 : Int.tdiv x 64 = x / 64 := Int.tdiv_eq_ediv_of_nonneg (by omega)
  have t4096 : Int.tdiv x 4096 = x / 4096 := Int.tdiv_eq_ediv_of_nonneg (by omega)
  have t26 : Int.tdiv x 262144 = x / 262144 := Int.tdiv_eq_ediv_of_nonneg (by omega)
  have m : ∀ y : Int, 0 ≤ y → Int.tmod y 64 = y % 64 := fun y hy => Int.tmod_eq_emod_of_nonneg hy
  refine Ev.step (f := fun _ => some (enc x)) (fun k => ?_) (Ev.now _)
  simp only [flongref02_One.j0, enc, t64, t4096, t26]
  rw [wrap_of (x := x / 64) (by omega) (by omega), wrap_of (x := x / 4096) (by omega) (by omega), wrap_of (x := x / 262144) (by omega) (by omega), m x (by omega), m (x / 64) (by omega), m (x / 4096) (by omega),
    wrap_of (x := 192 + x / 64) (by omega) (by omega), wrap_of (x := 224 + x / 4096) (by omega) (by omega), wrap_of (x := 240 + x / 262144) (by omega) (by omega), wrap_of (x := 128 + x % 64) (by omega) (by omega), wrap_of (x := 128 + x / 64 % 64) (by omega) (by omega), wrap_of (x := 128 + x / 4096 % 64) (by omega) (by omega)]
  split
  · rw [show x % 256 = x from by omega]
  · split
    · rw [show (192 + x / 64) % 256 = 192 + x / 64 from by omega, show (128 + x % 64) % 256 = 128 + x % 64 from by omega]
    · split
      · rw [show (224 + x / 4096) % 256 = 224 + x / 4096 from by omega, show (128 + x % 64) % 256 = 128 + x % 64 from by omega, show (128 + x / 64 % 64) % 256 = 128 + x / 64 % 64 from by omega]
      · rw [show (240 + x / 262144) % 256 = 240 + x / 262144 from by omega, show (128 + x % 64) % 256 = 128 + x % 64 from by omega, show (128 + x / 64 % 64) % 256 = 128 + x / 64 % 64 from by omega, show (128 + x / 4096 % 64) % 256 = 128 + x / 4096 % 64 from by omega]
theorem rone_ev (r : Int) : Ev (fun k => flongref02_One.f k r) (one r) := by
  unfold flongref02_One.f
  refine ev_bind1 (rvalid_eq r) (ev_ite (fun h => ?_) (fun h => ?_))
  · have h' := (validB_iff r).1 h
    rw [wrap_of (by omega) (by omega)]
    exact ev_eq (rone_j h) (by simp [one, h])
  · exact ev_eq (rone_j valid_odd) (by simp [one, h])
theorem rencode_l (l : List Int) : ∀ (d i : Nat) (o : List Int), l.length - i = d → i ≤ l.length → o.length + 4 * (l.length - i) < 140737488355328 → l.length ≤ 9223372036854775807 →
    Ev (fun k => flongref02_Encode.l0 k l o (i : Int)) (o ++ encode (l.drop i)) := by
  intro d
  induction d with
  | zero =>
    intro i o hd hi ho hl
    refine Ev.step (f := fun _ => some o) (fun k => ?_) (ev_eq (Ev.now _) ?_)
    · simp only [flongref02_Encode.l0]
      rw [if_neg (by omega)]
    · rw [List.drop_eq_nil_of_le (by omega)]
      simp [encode_nil]
  | succ d ih =>
    intro i o hd hi ho hl
    have hlt : i < l.length := by omega
    have h1 := one_len l[i]
    refine Ev.step (f := fun k => (flongref02_One.f k l[i]).bind fun t => if o.length + t.length < 140737488355328 then flongref02_Encode.l0 k l (o ++ t) ((i + 1 : Nat) : Int) else none) (fun k => ?_) ?_
    · simp only [flongref02_Encode.l0]
      rw [if_pos (by omega), if_pos (by omega), rd_nat l i hlt, wrap_of (by omega) (by omega)]
      rfl
    · refine Ev.bind (rone_ev _) (ev_pos (by omega) (ev_eq (ih (i + 1) _ (by omega) (by omega) (by rw [List.length_append]; omega) hl) ?_))
      rw [List.drop_eq_getElem_cons hlt, encode_cons, List.append_assoc]
theorem rencode_ev (l : List Int) (h : 4 * l.length < 140737488355328) : Ev (fun k => flongref02_Encode.f k l) (encode l) := by
  unfold flongref02_Encode.f
  exact ev_eq (rencode_l l l.length 0 [] (by omega) (by omega) (by simpa using h) (by omega)) (by simp)

/-- Do two rows of numbers hold the same? -/
theorem rsame_l (a b : List Int) (hl : a.length = b.length) (hs : a.length ≤ 9223372036854775807) : ∀ (d i : Nat), a.length - i = d → i ≤ a.length → Ev (fun k => flongref02_Same.l0 k a b (i : Int)) (decide (a.drop i = b.drop i)) := by
  intro d
  induction d with
  | zero =>
    intro i hd hi
    refine Ev.step (f := fun _ => some true) (fun k => ?_) (ev_eq (Ev.now _) ?_)
    · simp only [flongref02_Same.l0]
      rw [if_neg (by omega)]
    · rw [List.drop_eq_nil_of_le (by omega), List.drop_eq_nil_of_le (by omega)]
      simp
  | succ d ih =>
    intro i hd hi
    have h1 : i < a.length := by omega
    have h2 : i < b.length := by omega
    refine Ev.step (f := fun k => if a[i] = b[i] then flongref02_Same.l0 k a b ((i + 1 : Nat) : Int) else some false) (fun k => ?_) ?_
    · simp only [flongref02_Same.l0]
      rw [if_pos (by omega), if_pos (by omega), if_pos (by omega), rd_nat a i h1, rd_nat b i h2, wrap_of (by omega) (by omega)]
      rfl
    · rw [List.drop_eq_getElem_cons h1, List.drop_eq_getElem_cons h2]
      refine ev_ite (fun h => ev_eq (ih (i + 1) (by omega) (by omega)) ?_) (fun h => ev_eq (Ev.now _) ?_)
      · exact decide_eq_decide.2 ⟨fun z => by rw [h, z], fun z => (List.cons.inj z).2⟩
      · exact (decide_eq_false (fun z => h (List.cons.inj z).1)).symm
theorem rsame_ev (a b : List Int) (hs : a.length ≤ 9223372036854775807) : Ev (fun k => flongref02_Same.f k a b) (decide (a = b)) := by
  unfold flongref02_Same.f
  by_cases hl : a.length = b.length
  · exact ev_pos (by omega) (ev_eq (rsame_l a b hl hs a.length 0 (by omega) (by omega)) (by simp))
  · refine ev_neg (by omega) (ev_eq (Ev.now _) ?_)
    have : a ≠ b := fun h => hl (by rw [h])
    simp [this]
theorem rsame_true {a b : List Int} (h : a = b) (hs : a.length ≤ 9223372036854775807) : Ev (fun k => flongref02_Same.f k a b) true := ev_eq (rsame_ev a b hs) (by simp [h])

/-! ### widths -/
theorem within_step (r : Int) (ls : List Int) (n : Nat) (hn : ls.length = 2 * n) (hs : n ≤ 1000) (i : Nat) (hlt : i < n) (k : Nat) : flongref02_within.l0 (k + 1) r ls ((2 * i : Nat) : Int) =
    if r ≥ lowAt ls i then (if r ≤ highAt ls i then some true else flongref02_within.l0 k r ls ((2 * (i + 1) : Nat) : Int)) else flongref02_within.l0 k r ls ((2 * (i + 1) : Nat) : Int) := by
  have e0 : rd ls ((2 * i : Nat) : Int) = lowAt ls i := by
    rw [rd_nat ls (2 * i) (by omega)]
    simp [lowAt, List.getD_eq_getElem?_getD, Nat.mul_comm i 2, List.getElem?_eq_getElem (show 2 * i < ls.length by omega)]
  have e1 : rd ls (((2 * i : Nat) : Int) + 1) = highAt ls i := by
    rw [show ((2 * i : Nat) : Int) + 1 = ((2 * i + 1 : Nat) : Int) from by omega, rd_nat ls (2 * i + 1) (by omega)]
    simp [highAt, List.getD_eq_getElem?_getD, Nat.mul_comm i 2, List.getElem?_eq_getElem (show 2 * i + 1 < ls.length by omega)]
  simp only [flongref02_within.l0]
  rw [wrap_of (x := ((2 * i : Nat) : Int) + 1) (by omega) (by omega), wrap_of (x := ((2 * i : Nat) : Int) + 2) (by omega) (by omega), if_pos (by omega), if_pos (by omega), if_pos (by omega), e0, e1, show ((2 * i : Nat) : Int) + 2 = ((2 * (i + 1) : Nat) : Int) from by omega]
  split
  · rw [if_pos (by omega)]
  · rfl
theorem within_end (r : Int) (ls : List Int) (n : Nat) (hn : ls.length = 2 * n) (hs : n ≤ 1000) (k : Nat) : flongref02_within.l0 (k + 1) r ls ((2 * n : Nat) : Int) = some false := by
  simp only [flongref02_within.l0]
  rw [wrap_of (by omega) (by omega), if_neg (by omega)]
theorem part_range (r : Int) (ls : List Int) (n i : Nat) (hlt : i < n) : (∃ j, i ≤ j ∧ j < n ∧ lowAt ls j ≤ r ∧ r ≤ highAt ls j) ↔ (lowAt ls i ≤ r ∧ r ≤ highAt ls i) ∨ ∃ j, i + 1 ≤ j ∧ j < n ∧ lowAt ls j ≤ r ∧ r ≤ highAt ls j := by
  constructor
  · rintro ⟨j, h1, h2, h3⟩
    by_cases e : j = i
    · subst e; exact .inl h3
    · exact .inr ⟨j, by omega, h2, h3⟩
  · rintro (h | ⟨j, h1, h2, h3⟩)
    · exact ⟨i, Nat.le_refl _, hlt, h⟩
    · exact ⟨j, by omega, h2, h3⟩
theorem within_l (r : Int) (ls : List Int) (n : Nat) (hn : ls.length = 2 * n) (hs : n ≤ 1000) : ∀ (d i : Nat), n - i = d → i ≤ n → ∀ b : Bool, (b = true ↔ ∃ j, i ≤ j ∧ j < n ∧ lowAt ls j ≤ r ∧ r ≤ highAt ls j) → Ev (fun k => flongref02_within.l0 k r ls ((2 * i : Nat) : Int)) b := by
  intro d
  induction d with
  | zero =>
    intro i hd hi b hb
    obtain rfl : i = n := by clear hb; omega
    refine Ev.step (f := fun _ => some false) (fun k => within_end r ls i hn hs k) (ev_eq (Ev.now _) ?_)
    cases b with
    | false => rfl
    | true =>
      obtain ⟨j, h1, h2, _⟩ := hb.1 rfl
      exact absurd h2 (Nat.not_lt.2 h1)
  | succ d ih =>
    intro i hd hi b hb
    have hlt : i < n := by clear hb; omega
    have hnext := ih (i + 1) (by clear hb; omega) (by clear hb; omega)
    refine Ev.step (within_step r ls n hn hs i hlt) ?_
    refine ev_ite (fun h => ev_ite (fun h' => ev_eq (Ev.now _) ?_) (fun h' => hnext b ?_)) (fun h => hnext b ?_)
    · exact ((hb.trans (part_range r ls n i hlt)).2 (.inl ⟨h, h'⟩)).symm
    · rw [hb, part_range r ls n i hlt]
      exact ⟨fun z => z.resolve_left (fun q => h' q.2), .inr⟩
    · rw [hb, part_range r ls n i hlt]
      exact ⟨fun z => z.resolve_left (fun q => h q.1), .inr⟩
theorem within_ev (r : Int) (ls : List Int) (n : Nat) (hn : ls.length = 2 * n) (hs : n ≤ 1000) : Ev (fun k => flongref02_within.f k r ls) (inRange ls n r) := by
  unfold flongref02_within.f
  refine within_l r ls n hn hs n 0 (by omega) (by omega) _ ?_
  rw [inRange_true]
  constructor
  · rintro ⟨j, h2, h3⟩; exact ⟨j, Nat.zero_le _, h2, h3⟩
  · rintro ⟨j, _, h2, h3⟩; exact ⟨j, h2, h3⟩
theorem rwidth_ev (r : Int) : Ev (fun k => flongref02_Width.f k r) (wid r) := by
  have hj : ∀ b : Bool, Ev (fun k => flongref02_Width.j0 k r b) (if b = true then 0 else if inRange noneL 12 r = true then 0 else if inRange wideL 16 r = true then 2 else 1) := by
    intro b
    refine Ev.step (f := fun k => if b = true then some 0 else ((flongref02_within.f k r noneL).bind fun t => if t = true then some 0 else ((flongref02_within.f k r wideL).bind fun t => if t = true then some 2 else some 1))) (fun k => by simp only [flongref02_Width.j0, noneL, wideL]) ?_
    refine ev_ite (fun h => ev_eq (Ev.now _) (by simp [h])) (fun h => Ev.bind (within_ev r noneL 12 rfl (by omega)) (ev_ite (fun h1 => ev_eq (Ev.now _) (by simp [h, h1])) (fun h1 => Ev.bind (within_ev r wideL 16 rfl (by omega)) (ev_ite (fun h2 => ev_eq (Ev.now _) (by simp [h, h1, h2])) (fun h2 => ev_eq (Ev.now _) (by simp [h, h1, h2]))))))
  unfold flongref02_Width.f
  refine ev_bind1 (rvalid_eq r) (ev_ite (fun h => ev_bind1 (rcontrol_eq r) (ev_eq (hj _) ?_)) (fun h => ev_eq (hj _) ?_))
  · simp [wid, h]
  · simp [wid, h]
end Go.Proofs.YtaoiogpgncjolaaDoor.Pure
