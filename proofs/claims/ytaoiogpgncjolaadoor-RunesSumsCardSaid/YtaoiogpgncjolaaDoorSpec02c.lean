/- What package runes reads of bytes: its printed functions answer by plain functions. -/
import Derived.Test.YtaoiogpgncjolaaDoorSpec02b
import Derived.Test.YtaoiogpgncjolaaDoorX2
import Derived.Test.YtaoiogpgncjolaaDoorX3
import Derived.Test.YtaoiogpgncjolaaDoorX4
namespace Go.Proofs.YtaoiogpgncjolaaDoor.Pure
open Go.RowKit Go.Proofs.YtaoiogpgncjolaaDoorW.PrintWords Go.Proofs.YtaoiogpgncjolaaDoorW.PrintLast Go.Proofs.YtaoiogpgncjolaaDoorW.PrintMore Go.Proofs.YtaoiogpgncjolaaDoor.X Go.Proofs.YtaoiogpgncjolaaDoor.Hand
set_option linter.unusedSimpArgs false
set_option linter.unusedVariables false

theorem size2 {r : Int} (h : r < 2048) : (if r < 128 then (1 : Int) else if r < 2048 then 2 else if r < 65536 then 3 else 4) = 2 ↔ 128 ≤ r := by
  repeat' split
  all_goals omega
theorem size3 {r : Int} (h : r < 65536) : (if r < 128 then (1 : Int) else if r < 2048 then 2 else if r < 65536 then 3 else 4) = 3 ↔ 2048 ≤ r := by
  repeat' split
  all_goals omega
theorem size4 {r : Int} : (if r < 128 then (1 : Int) else if r < 2048 then 2 else if r < 65536 then 3 else 4) = 4 ↔ 65536 ≤ r := by
  repeat' split
  all_goals omega
theorem told2 {x d : Int} (hx : 0 ≤ x) (hx1 : x < 32) : told 2 (accum x [d]) = if cont d = true ∧ 128 ≤ x * 64 + (d - 128) then (x * 64 + (d - 128), 2) else (65533, 1) := by
  simp only [accum]
  by_cases hd : cont d = true
  · have hd' := (cont_iff d).1 hd
    have hv : validB (x * 64 + (d - 128)) = true := (validB_iff _).2 (by omega)
    have hs := size2 (r := x * 64 + (d - 128)) (by omega)
    simp only [hd, if_true, told, hv, true_and, hs]
  · simp [hd, told]
theorem told3 {x d e : Int} (hx : 0 ≤ x) (hx1 : x < 16) : told 3 (accum x [d, e]) = if cont d = true ∧ cont e = true ∧ 2048 ≤ (x * 64 + (d - 128)) * 64 + (e - 128) ∧ validB ((x * 64 + (d - 128)) * 64 + (e - 128)) = true then ((x * 64 + (d - 128)) * 64 + (e - 128), 3) else (65533, 1) := by
  simp only [accum]
  by_cases hd : cont d = true
  · by_cases he : cont e = true
    · have hd' := (cont_iff d).1 hd
      have he' := (cont_iff e).1 he
      have hs := size3 (r := (x * 64 + (d - 128)) * 64 + (e - 128)) (by omega)
      simp only [hd, he, if_true, told, true_and, hs, and_comm]
    · simp [hd, he, told]
  · simp [hd, told]
theorem told4 {x d e f : Int} : told 4 (accum x [d, e, f]) = if cont d = true ∧ cont e = true ∧ cont f = true ∧ 65536 ≤ ((x * 64 + (d - 128)) * 64 + (e - 128)) * 64 + (f - 128) ∧ validB (((x * 64 + (d - 128)) * 64 + (e - 128)) * 64 + (f - 128)) = true
    then (((x * 64 + (d - 128)) * 64 + (e - 128)) * 64 + (f - 128), 4) else (65533, 1) := by
  simp only [accum]
  by_cases hd : cont d = true
  · by_cases he : cont e = true
    · by_cases hf : cont f = true
      · have hs := size4 (r := ((x * 64 + (d - 128)) * 64 + (e - 128)) * 64 + (f - 128))
        simp only [hd, he, hf, if_true, told, true_and, hs, and_comm]
      · simp [hd, he, hf, told]
    · simp [hd, he, told]
  · simp [hd, told]

theorem first_ev {l : List Int} (hb : Bytes l) (hl : l ≠ []) : Ev (fun k => runes_first.f k l) ((firstRune l).1, ((firstRune l).2 : Int)) := by
  obtain ⟨c, t, rfl⟩ := List.exists_cons_of_ne_nil hl
  have hc := hb c (by simp)
  have h0 : rd (c :: t) 0 = c := rfl
  unfold runes_first.f
  refine ev_pos (by simp only [List.length_cons]; omega) ?_
  simp only [h0]
  by_cases h1 : c < 128
  · refine ev_pos h1 (ev_eq (Ev.now _) ?_)
    rw [wrap32_of (by omega) (by omega)]
    simp [firstRune, h1]
  refine ev_neg h1 ?_
  by_cases h2 : 192 ≤ c ∧ c < 224
  · refine ev_pos ((u8_and224 (by omega) (by omega)).2 h2) ?_
    rw [u8_and31 c (by omega) (by omega), wrap32_of (by omega) (by omega)]
    refine ev_eq (first_j (c :: t) 2 (c % 32) hb (by omega) (by omega) (by omega) (by omega)) ?_
    have e : c % 32 = c - 192 := by omega
    rw [e]
    match t with
    | [] => simp [firstRune, h1, h2]
    | d :: t' =>
      rw [if_neg (by simp)]
      show told 2 (accum (c - 192) [d]) = _
      rw [told2 (by omega) (by omega)]
      simp only [firstRune, h1, h2, if_true, if_false, and_self]
      split <;> rfl
  refine ev_neg (fun h => h2 ((u8_and224 (by omega) (by omega)).1 h)) ?_
  by_cases h3 : 224 ≤ c ∧ c < 240
  · refine ev_pos ((u8_and240 (by omega) (by omega)).2 h3) ?_
    rw [u8_and15 c (by omega) (by omega), wrap32_of (by omega) (by omega)]
    refine ev_eq (first_j (c :: t) 3 (c % 16) hb (by omega) (by omega) (by omega) (by omega)) ?_
    have e : c % 16 = c - 224 := by omega
    rw [e]
    match t with
    | [] => simp [firstRune, h1, h2, h3]
    | [d] => simp [firstRune, h1, h2, h3]
    | d :: e :: t' =>
      rw [if_neg (by simp)]
      show told 3 (accum (c - 224) [d, e]) = _
      rw [told3 (by omega) (by omega)]
      simp only [firstRune, h1, h2, h3, if_true, if_false, and_self]
      split <;> rfl
  refine ev_neg (fun h => h3 ((u8_and240 (by omega) (by omega)).1 h)) ?_
  by_cases h4 : 240 ≤ c ∧ c < 248
  · refine ev_pos ((u8_and248 (by omega) (by omega)).2 h4) ?_
    rw [u8_and7 c (by omega) (by omega), wrap32_of (by omega) (by omega)]
    refine ev_eq (first_j (c :: t) 4 (c % 8) hb (by omega) (by omega) (by omega) (by omega)) ?_
    have e : c % 8 = c - 240 := by omega
    rw [e]
    match t with
    | [] => simp [firstRune, h1, h2, h3, h4]
    | [d] => simp [firstRune, h1, h2, h3, h4]
    | [d, e] => simp [firstRune, h1, h2, h3, h4]
    | d :: e :: f :: t' =>
      rw [if_neg (by simp)]
      show told 4 (accum (c - 240) [d, e, f]) = _
      rw [told4]
      simp only [firstRune, h1, h2, h3, h4, if_true, if_false, and_self]
      split <;> rfl
  refine ev_neg (fun h => h4 ((u8_and248 (by omega) (by omega)).1 h)) ?_
  refine Ev.step (f := fun k => runes_first.j1 k (c :: t) 0 0 true) (fun k => by simp only [runes_first.j0, if_true]) ?_
  refine Ev.step (f := fun _ => some (65533, 1)) (fun k => by simp only [runes_first.j1, if_true]) (ev_eq (Ev.now _) ?_)
  simp [firstRune, h1, h2, h3, h4]

theorem decode_l : ∀ x, Bytes x → ∀ o : List Int, o.length + x.length < 35184372088832 → Ev (fun k => runes_Decode.l0 k x o) (o ++ decode x) :=
  bytes_ind (P := fun x => ∀ o : List Int, o.length + x.length < 35184372088832 → Ev (fun k => runes_Decode.l0 k x o) (o ++ decode x))
    (fun o ho => Ev.step (f := fun _ => some o) (fun k => by simp [runes_Decode.l0]) (ev_eq (Ev.now _) (by simp [decode_nil])))
    fun x hb hx ih o ho => by
      have h0 : 0 < x.length := List.length_pos_iff.2 hx
      have h1 := first_fits hb hx
      have h2 := first_len x
      refine Ev.step (f := fun k => (runes_first.f k x).bind fun bt => if o.length < 35184372088832 then (if 0 ≤ bt.2 then (if bt.2 ≤ (x.length : Int) then runes_Decode.l0 k (x.drop (bt.2 : Int).toNat) (o ++ [bt.1]) else none) else none) else none) (fun k => ?_) ?_
      · simp only [runes_Decode.l0]
        rw [if_pos (by omega)]
      · refine Ev.bind (first_ev hb hx) (ev_pos (by omega) (ev_pos (by omega) (ev_pos (by simp only; omega) ?_)))
        simp only [Int.toNat_natCast]
        refine ev_eq (ih (o ++ [(firstRune x).1]) ?_) ?_
        · rw [List.length_append, List.length_drop, List.length_singleton]
          omega
        · rw [decode_cons hb hx, List.append_assoc]
          rfl
theorem decode_ev {l : List Int} (hb : Bytes l) (h : l.length < 35184372088832) : Ev (fun k => runes_Decode.f k l) (decode l) := by
  unfold runes_Decode.f
  exact ev_eq (decode_l l hb [] (by simpa using h)) (by simp)

/-- How wide a row is. -/
def sum (l : List Int) : Int := (l.map wid).sum
theorem sum_nil : sum [] = 0 := rfl
theorem sum_cons (r : Int) (l : List Int) : sum (r :: l) = wid r + sum l := by simp [sum]
theorem sum_append (a b : List Int) : sum (a ++ b) = sum a + sum b := by simp [sum]
theorem sum_range (l : List Int) : 0 ≤ sum l ∧ sum l ≤ 2 * l.length := by
  induction l with
  | nil => simp [sum_nil]
  | cons r l ih =>
    have := wid_range r
    rw [sum_cons, List.length_cons]
    omega
theorem sum_l (l : List Int) (hl : l.length ≤ 4611686018427387904) : ∀ (d i : Nat) (n : Int), l.length - i = d → i ≤ l.length → 0 ≤ n → n + 2 * (l.length - i) ≤ 9223372036854775807 →
    Ev (fun k => runes_Sum.l0 k n l (l.length : Int) (i : Int)) (n + sum (l.drop i)) := by
  intro d
  induction d with
  | zero =>
    intro i n hd hi h0 hn
    refine Ev.step (f := fun _ => some n) (fun k => ?_) (ev_eq (Ev.now _) ?_)
    · simp only [runes_Sum.l0]
      rw [if_neg (by omega)]
    · rw [List.drop_eq_nil_of_le (by omega), sum_nil]
      omega
  | succ d ih =>
    intro i n hd hi h0 hn
    have hlt : i < l.length := by omega
    have hw := wid_range l[i]
    refine Ev.step (f := fun k => runes_Sum.l0 k (n + wid l[i]) l (l.length : Int) ((i + 1 : Nat) : Int)) (fun k => ?_) (ev_eq (ih (i + 1) (n + wid l[i]) (by omega) (by omega) (by omega) (by omega)) ?_)
    · simp only [runes_Sum.l0]
      rw [if_pos (by omega), if_pos (by omega), if_pos (by omega), rd_nat l i hlt, show runes_Width.f l[i] = some (wid l[i]) from rfl, Option.bind_some, wrap_of (x := n + wid l[i]) (by omega) (by omega), wrap_of (x := (i : Int) + 1) (by omega) (by omega)]
      rfl
    · rw [List.drop_eq_getElem_cons hlt, sum_cons]
      omega
theorem sum_ev (l : List Int) (hl : l.length ≤ 4611686018427387903) : Ev (fun k => runes_Sum.f k l) (sum l) := by
  unfold runes_Sum.f
  exact ev_eq (sum_l l (by omega) l.length 0 0 (by omega) (by omega) (by omega) (by omega)) (by simp)
end Go.Proofs.YtaoiogpgncjolaaDoor.Pure
