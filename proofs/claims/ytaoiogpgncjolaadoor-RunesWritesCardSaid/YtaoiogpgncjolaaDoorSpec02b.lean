/- What package runes computes of bytes and of rows: its printed functions answer by plain functions. -/
import Derived.Test.YtaoiogpgncjolaaDoorSpec02a
import Derived.Test.YtaoiogpgncjolaaDoorUtf8
import Derived.Laws.BitsLemmas
import Derived.Test.YtaoiogpgncjolaaDoorX1
import Derived.Test.YtaoiogpgncjolaaDoorX2
import Derived.Test.YtaoiogpgncjolaaDoorX3
import Derived.Test.YtaoiogpgncjolaaDoorX6
namespace Go.Proofs.YtaoiogpgncjolaaDoor.Pure
open Go.RowKit Go.Proofs.YtaoiogpgncjolaaDoorW.PrintWords Go.Proofs.YtaoiogpgncjolaaDoorW.PrintLast Go.Proofs.YtaoiogpgncjolaaDoorW.PrintMore Go.Proofs.YtaoiogpgncjolaaDoor.X Go.Proofs.YtaoiogpgncjolaaDoor.Hand
set_option linter.unusedSimpArgs false
set_option linter.unusedVariables false

theorem size_eq (a : Int) : runes_size.f a = some (if a < 128 then 1 else if a < 2048 then 2 else if a < 65536 then 3 else 4) := by
  unfold runes_size.f
  repeat' split
  all_goals rfl
theorem i32_and63 {x : Int} (h₀ : 0 ≤ x) (h₁ : x < 2147483648) : Go.bits .and .i32 x 63 = x % 64 := bits_mask .i32 31 (by decide) wraps_i32 6 (by decide) x h₀ h₁
theorem step_one (x : Int) (n : Int) (b : List Int) (i : Nat) (hx : 0 ≤ x) (hx1 : x < 2147483648) (hi : 0 < i) (hib : i < b.length) (hb : b.length ≤ 4) (r : List Int)
    (k : Ev (fun k => runes_one.l0 k (x / 64) n (b.set i (128 + x % 64)) ((i : Int) - 1)) r) : Ev (fun k => runes_one.l0 k x n b (i : Int)) r := by
  refine Ev.step (f := fun k => runes_one.l0 k (x / 64) n (b.set i (128 + x % 64)) ((i : Int) - 1)) (fun k => ?_) k
  simp only [runes_one.l0]
  rw [if_pos (by omega), if_pos (by omega), if_pos (by omega), i32_and63 hx hx1, show (x % 64) % 256 = x % 64 from by omega, u8_or128 (x % 64) (by omega) (by omega), wrap_of (x := (i : Int) - 1) (by omega) (by omega), Int.toNat_natCast]
theorem last_one (x : Int) (n : Int) (b : List Int) (h : Int) (hn : 0 ≤ n) (hb : 0 < b.length) (hv : Go.bits .or .u8 ((shr .i64 3840 n) % 256) (x % 256) = h) : Ev (fun k => runes_one.l0 k x n b 0) (b.set 0 h) := by
  refine Ev.step (f := fun _ => some (b.set 0 h)) (fun k => ?_) (Ev.now _)
  simp only [runes_one.l0]
  rw [if_neg (by omega), if_pos hn, if_pos (by omega), hv]
  rfl
theorem one_j {x : Int} (h : validB x = true) : Ev (fun k => runes_one.j0 k x) (enc x) := by
  have h' := (validB_iff x).1 h
  refine Ev.step (f := fun k => (runes_size.f x).bind fun t => if t = 1 then some [x % 256] else if 0 ≤ t then (if (t : Int).toNat ≤ 281474976710656 then runes_one.l0 k x t (List.replicate (t : Int).toNat 0) (wrap64 (t - 1)) else none) else none) (fun k => by simp only [runes_one.j0]) ?_
  refine ev_bind1 (size_eq x) ?_
  unfold enc
  by_cases h1 : x < 128
  · simp only [h1, if_true]
    refine ev_eq (Ev.now _) ?_
    rw [show x % 256 = x from by omega]
  · by_cases h2 : x < 2048
    · simp only [h1, h2, if_true, if_false]
      refine ev_neg (by omega) (ev_pos (by omega) (ev_pos (by decide) ?_))
      refine Ev.congr (f := fun k => runes_one.l0 k x 2 [0, 0] ((1 : Nat) : Int)) (fun k => by rw [wrap_of (by omega) (by omega)]; rfl) ?_
      refine step_one x 2 [0, 0] 1 (by omega) (by omega) (by omega) (by simp) (by simp) _ ?_
      refine ev_eq (last_one (x / 64) 2 _ (192 + x / 64) (by omega) (by simp) ?_) (by rfl)
      rw [show (shr .i64 3840 2) % 256 = 192 by decide +kernel, show (x / 64) % 256 = x / 64 from by omega]
      exact u8_or192 _ (by omega) (by omega)
    · by_cases h3 : x < 65536
      · simp only [h1, h2, h3, if_true, if_false]
        refine ev_neg (by omega) (ev_pos (by omega) (ev_pos (by decide) ?_))
        refine Ev.congr (f := fun k => runes_one.l0 k x 3 [0, 0, 0] ((2 : Nat) : Int)) (fun k => by rw [wrap_of (by omega) (by omega)]; rfl) ?_
        refine step_one x 3 [0, 0, 0] 2 (by omega) (by omega) (by omega) (by simp) (by simp) _ ?_
        refine step_one (x / 64) 3 _ 1 (by omega) (by omega) (by omega) (by simp) (by simp) _ ?_
        refine ev_eq (last_one (x / 64 / 64) 3 _ (224 + x / 4096) (by omega) (by simp) ?_) (by rfl)
        rw [show (shr .i64 3840 3) % 256 = 224 by decide +kernel, show (x / 64 / 64) % 256 = x / 4096 from by omega]
        exact u8_or224 _ (by omega) (by omega)
      · simp only [h1, h2, h3, if_false]
        refine ev_neg (by omega) (ev_pos (by omega) (ev_pos (by decide) ?_))
        refine Ev.congr (f := fun k => runes_one.l0 k x 4 [0, 0, 0, 0] ((3 : Nat) : Int)) (fun k => by rw [wrap_of (by omega) (by omega)]; rfl) ?_
        refine step_one x 4 [0, 0, 0, 0] 3 (by omega) (by omega) (by omega) (by simp) (by simp) _ ?_
        refine step_one (x / 64) 4 _ 2 (by omega) (by omega) (by omega) (by simp) (by simp) _ ?_
        refine step_one (x / 64 / 64) 4 _ 1 (by omega) (by omega) (by omega) (by simp) (by simp) _ ?_
        refine ev_eq (last_one (x / 64 / 64 / 64) 4 _ (240 + x / 262144) (by omega) (by simp) ?_) ?_
        · rw [show (shr .i64 3840 4) % 256 = 240 by decide +kernel, show (x / 64 / 64 / 64) % 256 = x / 262144 from by omega]
          exact u8_or240 _ (by omega) (by omega)
        · simp
          omega
theorem one_ev (r : Int) : Ev (fun k => runes_one.f k r) (one r) := by
  unfold runes_one.f
  refine ev_bind1 (valid_eq r) (ev_ite (fun h => ?_) (fun h => ?_))
  · exact ev_eq (one_j h) (by simp [one, h])
  · exact ev_eq (one_j valid_odd) (by simp [one, h])

theorem rd_nat (l : List Int) (i : Nat) (h : i < l.length) : rd l (i : Int) = l[i] := by
  simp [rd, List.getD_eq_getElem?_getD, List.getElem?_eq_getElem h]
theorem encode_l (l : List Int) : ∀ (d i : Nat) (o : List Int), l.length - i = d → i ≤ l.length → o.length + 4 * (l.length - i) < 140737488355328 → l.length ≤ 9223372036854775807 →
    Ev (fun k => runes_Encode.l0 k o l (l.length : Int) (i : Int)) (o ++ encode (l.drop i)) := by
  intro d
  induction d with
  | zero =>
    intro i o hd hi ho hl
    refine Ev.step (f := fun _ => some o) (fun k => ?_) (ev_eq (Ev.now _) ?_)
    · simp only [runes_Encode.l0]
      rw [if_neg (by omega)]
    · rw [List.drop_eq_nil_of_le (by omega)]
      simp [encode_nil]
  | succ d ih =>
    intro i o hd hi ho hl
    have hlt : i < l.length := by omega
    have h1 := one_len l[i]
    refine Ev.step (f := fun k => (runes_one.f k l[i]).bind fun t => if o.length + t.length < 140737488355328 then runes_Encode.l0 k (o ++ t) l (l.length : Int) ((i + 1 : Nat) : Int) else none) (fun k => ?_) ?_
    · simp only [runes_Encode.l0]
      rw [if_pos (by omega), if_pos (by omega), if_pos (by omega), rd_nat l i hlt, wrap_of (by omega) (by omega)]
      rfl
    · refine Ev.bind (one_ev _) (ev_pos (by omega) (ev_eq (ih (i + 1) _ (by omega) (by omega) (by rw [List.length_append]; omega) hl) ?_))
      rw [List.drop_eq_getElem_cons hlt, encode_cons, List.append_assoc]
theorem encode_ev (l : List Int) (h : 4 * l.length < 140737488355328) : Ev (fun k => runes_Encode.f k l) (encode l) := by
  unfold runes_Encode.f
  exact ev_eq (encode_l l l.length 0 [] (by omega) (by omega) (by simpa using h) (by omega)) (by simp)

/-! ### reading -/
theorem u8_and192 {x : Int} (h0 : 0 ≤ x) (h1 : x ≤ 255) : Go.bits .and .u8 x 192 = 128 ↔ (128 ≤ x ∧ x < 192) := by
  have h : ∀ n : Nat, n < 256 → (Go.bits .and .u8 (n : Int) 192 = 128 ↔ (128 ≤ (n : Int) ∧ (n : Int) < 192)) := by decide +kernel
  obtain ⟨n, rfl⟩ := Int.eq_ofNat_of_zero_le h0
  exact h n (by omega)
theorem u8_and224 {x : Int} (h0 : 0 ≤ x) (h1 : x ≤ 255) : Go.bits .and .u8 x 224 = 192 ↔ (192 ≤ x ∧ x < 224) := by
  have h : ∀ n : Nat, n < 256 → (Go.bits .and .u8 (n : Int) 224 = 192 ↔ (192 ≤ (n : Int) ∧ (n : Int) < 224)) := by decide +kernel
  obtain ⟨n, rfl⟩ := Int.eq_ofNat_of_zero_le h0
  exact h n (by omega)
theorem u8_and240 {x : Int} (h0 : 0 ≤ x) (h1 : x ≤ 255) : Go.bits .and .u8 x 240 = 224 ↔ (224 ≤ x ∧ x < 240) := by
  have h : ∀ n : Nat, n < 256 → (Go.bits .and .u8 (n : Int) 240 = 224 ↔ (224 ≤ (n : Int) ∧ (n : Int) < 240)) := by decide +kernel
  obtain ⟨n, rfl⟩ := Int.eq_ofNat_of_zero_le h0
  exact h n (by omega)
theorem u8_and248 {x : Int} (h0 : 0 ≤ x) (h1 : x ≤ 255) : Go.bits .and .u8 x 248 = 240 ↔ (240 ≤ x ∧ x < 248) := by
  have h : ∀ n : Nat, n < 256 → (Go.bits .and .u8 (n : Int) 248 = 240 ↔ (240 ≤ (n : Int) ∧ (n : Int) < 248)) := by decide +kernel
  obtain ⟨n, rfl⟩ := Int.eq_ofNat_of_zero_le h0
  exact h n (by omega)

/-- The value of the bytes behind the first one; none where one is none of these. -/
def accum : Int → List Int → Option Int
  | x, [] => some x
  | x, d :: t => if cont d = true then accum (x * 64 + (d - 128)) t else none
def told (n : Int) : Option Int → Int × Int
  | some x => if validB x = true ∧ (if x < 128 then (1 : Int) else if x < 2048 then 2 else if x < 65536 then 3 else 4) = n then (x, n) else (65533, 1)
  | none => (65533, 1)

theorem first_l (n : Int) (y : List Int) (hy : Bytes y) (hl : y.length ≤ 3) : ∀ (d i : Nat) (x : Int), y.length - i = d → i ≤ y.length → 0 ≤ x → x < 2 ^ (12 + 6 * i) / 128 →
    Ev (fun k => runes_first.l0 k n x y (y.length : Int) (i : Int)) (told n (accum x (y.drop i))) := by
  intro d
  induction d with
  | zero =>
    intro i x hd hi hx hx1
    refine Ev.step (f := fun _ => (runes_Valid.f x).bind fun t => if t = true then ((runes_size.f x).bind fun t => if t = n then some (x, n) else some (65533, 1)) else some (65533, 1)) (fun k => ?_) ?_
    · simp only [runes_first.l0]
      rw [if_neg (by omega)]
    · rw [List.drop_eq_nil_of_le (by omega)]
      refine ev_one ?_
      rw [valid_eq, Option.bind_some, size_eq, Option.bind_some]
      simp only [accum, told]
      by_cases h1 : validB x = true
      · rw [if_pos h1]
        by_cases h2 : (if x < 128 then (1 : Int) else if x < 2048 then 2 else if x < 65536 then 3 else 4) = n
        · rw [if_pos h2, if_pos ⟨h1, h2⟩]
        · rw [if_neg h2, if_neg (fun h => h2 h.2)]
      · rw [if_neg h1, if_neg (fun h => h1 h.1)]
  | succ d ih =>
    intro i x hd hi hx hx1
    have hlt : i < y.length := by omega
    have hb := hy y[i] (List.getElem_mem _)
    have hx2 : x < 33554432 := by
      have : i ≤ 2 := by omega
      rcases (by omega : i = 0 ∨ i = 1 ∨ i = 2) with rfl | rfl | rfl <;> omega
    have hdrop := List.drop_eq_getElem_cons hlt
    by_cases hc : cont y[i] = true
    · have hc' := (cont_iff _).1 hc
      have e1 : wrap32 (Go.bits .and .u8 y[i] 63) = y[i] - 128 := by
        rw [u8_and63 y[i] (by omega) (by omega), wrap32_of (by omega) (by omega)]
        omega
      have e2 : Go.bits .or .i32 (wrap32 (x * 64)) (wrap32 (Go.bits .and .u8 y[i] 63)) = x * 64 + (y[i] - 128) := by
        rw [e1, wrap32_of (by omega) (by omega)]
        exact i32_or6 (x * 64) (y[i] - 128) (by omega) (by omega) (by omega) (by omega) (by omega)
      refine Ev.step (f := fun k => runes_first.l0 k n (x * 64 + (y[i] - 128)) y (y.length : Int) ((i + 1 : Nat) : Int)) (fun k => ?_) ?_
      · simp only [runes_first.l0]
        rw [if_pos (by omega), if_pos (by omega), if_pos (by omega), rd_nat y i hlt, if_pos ((u8_and192 (by omega) (by omega)).2 hc'), e2, wrap_of (by omega) (by omega)]
        rfl
      · refine ev_eq (ih (i + 1) _ (by omega) (by omega) (by omega) ?_) ?_
        · rcases (by omega : i = 0 ∨ i = 1 ∨ i = 2) with rfl | rfl | rfl <;> omega
        · rw [hdrop]
          simp [accum, hc]
    · have hc' : ¬ (128 ≤ y[i] ∧ y[i] < 192) := fun h => hc ((cont_iff _).2 h)
      refine Ev.step (f := fun _ => some (65533, 1)) (fun k => ?_) (ev_eq (Ev.now _) ?_)
      · simp only [runes_first.l0]
        rw [if_pos (by omega), if_pos (by omega), if_pos (by omega), rd_nat y i hlt, if_neg (fun h => hc' ((u8_and192 (by omega) (by omega)).1 h))]
      · rw [hdrop]
        simp [accum, hc, told]

theorem first_j (l : List Int) (n : Nat) (x : Int) (hb : Bytes l) (hn : 2 ≤ n) (hn4 : n ≤ 4) (hx : 0 ≤ x) (hx1 : x < 32) :
    Ev (fun k => runes_first.j0 k l (n : Int) x) (if l.length < n then (65533, 1) else told n (accum x ((l.take n).drop 1))) := by
  have hj1 : ∀ b : Bool, Ev (fun k => runes_first.j1 k l (n : Int) x b) (if b = true then (65533, 1) else if l.length < n then (65533, 1) else told n (accum x ((l.take n).drop 1))) ∨ (b = false ∧ l.length < n) := by
    intro b
    cases b with
    | true =>
      left
      refine Ev.step (f := fun _ => some (65533, 1)) (fun k => ?_) (ev_eq (Ev.now _) (by simp))
      simp only [runes_first.j1, if_true]
    | false =>
      by_cases hl : l.length < n
      · exact .inr ⟨rfl, hl⟩
      · left
        have hlen : ((l.take n).drop 1).length ≤ 3 := by simp; omega
        refine Ev.step (f := fun k => runes_first.l0 k (n : Int) x ((l.take n).drop 1) (((l.take n).drop 1).length : Int) ((0 : Nat) : Int)) (fun k => ?_) (ev_eq (first_l n _ (fun z hz => hb z (List.mem_of_mem_take (List.mem_of_mem_drop hz))) hlen _ 0 x rfl (by omega) hx (by omega)) ?_)
        · simp only [runes_first.j1]
          rw [if_neg (by simp), if_pos (by omega), if_pos (by omega), Option.bind_some, Int.toNat_natCast]
          rfl
        · simp [hl]
  refine Ev.step (f := fun k => if (n : Int) = 0 then runes_first.j1 k l n x true else runes_first.j1 k l n x (decide ((l.length : Int) < n))) (fun k => by simp only [runes_first.j0]) ?_
  refine ev_neg (by omega) ?_
  by_cases hl : l.length < n
  · rw [decide_eq_true (by omega)]
    rcases hj1 true with h | h
    · exact ev_eq h (by simp [hl])
    · cases h.1
  · rw [decide_eq_false (by omega)]
    rcases hj1 false with h | h
    · exact ev_eq h (by simp [hl])
    · exact absurd h.2 hl
end Go.Proofs.YtaoiogpgncjolaaDoor.Pure
