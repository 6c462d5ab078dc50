/- SpecR: several of this session's texts in one. -/
import Derived.Test.YtadejblahbebdaaDoorSpecA
import Derived.Test.YtadejblahbebdaaDoorX13
import Derived.Test.YtadejblahbebdaaDoorX3
import Derived.Test.YtadejblahbebdaaDoorX4
import Derived.Test.YtadejblahbebdaaDoorX15
import Derived.Test.YtadejblahbebdaaDoorHandS
/- What package runes reads of bytes: its printed functions answer by plain functions. -/
namespace Go.Proofs.YtadejblahbebdaaDoor.Pure
open Go.RowKit Go.Proofs.YtadejblahbebdaaDoorW.PrintWords Go.Proofs.YtadejblahbebdaaDoorW.PrintLast Go.Proofs.YtadejblahbebdaaDoorW.PrintMore Go.Proofs.YtadejblahbebdaaDoor.X Go.Proofs.YtadejblahbebdaaDoor.Hand
set_option linter.unusedSimpArgs false
set_option linter.unusedVariables false

theorem size2 {r : Int} (h : r < 2048) : (if r < 128 then (1 : Int) else if r < 2048 then 2 else if r < 65536 then 3 else 4) = 2 ↔ 128 ≤ r := by
 repeat' split
 all_goals omega
theorem size3 {r : Int} (h : r < 65536) : (if r < 128 then (1 : Int) else if r < 2048 then 2 else if r < 65536 then 3 else 4) = 3 ↔ 2048 ≤ r := by
 repeat' split
 all_goals omega
theorem size4 {r : Int} : (if r < 128 then (1 : Int) else if r < 2048 then 2 else if r < 65536 then 3 else 4) = 4 ↔ 65536 ≤ r := by
 repeat' split
 all_goals omega
theorem told2 {x d : Int} (hx : 0 ≤ x) (hx1 : x < 32) : told 2 (accum x [d]) = if cont d = true ∧ 128 ≤ x * 64 + (d - 128) then (x * 64 + (d - 128), 2) else (65533, 1) := by
 simp only [accum]
 by_cases hd : cont d = true
 ·have hd' := (cont_iff d).1 hd
  have hv : validB (x * 64 + (d - 128)) = true := (validB_iff _).2 (by omega)
  have hs := size2 (r := x * 64 + (d - 128)) (by omega)
  simp only [hd, if_true, told, hv, true_and, hs]
 ·simp [hd, told]
theorem told3 {x d e : Int} (hx : 0 ≤ x) (hx1 : x < 16) : told 3 (accum x [d, e]) = if cont d = true ∧ cont e = true ∧ 2048 ≤ (x * 64 + (d - 128)) * 64 + (e - 128) ∧ validB ((x * 64 + (d - 128)) * 64 + (e - 128)) = true then ((x * 64 + (d - 128)) * 64 + (e - 128), 3) else (65533, 1) := by
 simp only [accum]
 by_cases hd : cont d = true
 ·by_cases he : cont e = true
  ·have hd' := (cont_iff d).1 hd
   have he' := (cont_iff e).1 he
   have hs := size3 (r := (x * 64 + (d - 128)) * 64 + (e - 128)) (by omega)
   simp only [hd, he, if_true, told, true_and, hs, and_comm]
  ·simp [hd, he, told]
 ·simp [hd, told]
theorem told4 {x d e f : Int} : told 4 (accum x [d, e, f]) = if cont d = true ∧ cont e = true ∧ cont f = true ∧ 65536 ≤ ((x * 64 + (d - 128)) * 64 + (e - 128)) * 64 + (f - 128) ∧ validB (((x * 64 + (d - 128)) * 64 + (e - 128)) * 64 + (f - 128)) = true
  then (((x * 64 + (d - 128)) * 64 + (e - 128)) * 64 + (f - 128), 4) else (65533, 1) := by
 simp only [accum]
 by_cases hd : cont d = true
 ·by_cases he : cont e = true
  ·by_cases hf : cont f = true
   ·have hs := size4 (r := ((x * 64 + (d - 128)) * 64 + (e - 128)) * 64 + (f - 128))
    simp only [hd, he, hf, if_true, told, true_and, hs, and_comm]
   ·simp [hd, he, hf, told]
  ·simp [hd, he, told]
 ·simp [hd, told]

theorem first_ev {l : List Int} (hb : Bytes l) (hl : l ≠ []) : Ev (fun k => runes_first.f k l) ((firstRune l).1, ((firstRune l).2 : Int)) := by
 obtain ⟨c, t, rfl⟩ := List.exists_cons_of_ne_nil hl
 have hc := hb c (by simp)
 have h0 : rd (c :: t) 0 = c := rfl
 unfold runes_first.f
 refine ev_pos (by simp only [List.length_cons]; omega) ?_
 simp only [h0]
 by_cases h1 : c < 128
 ·refine ev_pos h1 (ev_eq (Ev.now _) ?_)
  rw [wrap32_of (by omega) (by omega)]
  simp [firstRune, h1]
 refine ev_neg h1 ?_
 by_cases h2 : 192 ≤ c ∧ c < 224
 ·refine ev_pos ((u8_and224 (by omega) (by omega)).2 h2) ?_
  rw [u8_and31 c (by omega) (by omega), wrap32_of (by omega) (by omega)]
  refine ev_eq (first_j (c :: t) 2 (c % 32) hb (by omega) (by omega) (by omega) (by omega)) ?_
  have e : c % 32 = c - 192 := by omega
  rw [e]
  match t with
  | [] => simp [firstRune, h1, h2]
  | d :: t' =>
   rw [if_neg (by simp)]
   show told 2 (accum (c - 192) [d]) = _
   rw [told2 (by omega) (by omega)]
   simp only [firstRune, h1, h2, if_true, if_false, and_self]
   split <;> rfl
 refine ev_neg (fun h => h2 ((u8_and224 (by omega) (by omega)).1 h)) ?_
 by_cases h3 : 224 ≤ c ∧ c < 240
 ·refine ev_pos ((u8_and240 (by omega) (by omega)).2 h3) ?_
  rw [u8_and15 c (by omega) (by omega), wrap32_of (by omega) (by omega)]
  refine ev_eq (first_j (c :: t) 3 (c % 16) hb (by omega) (by omega) (by omega) (by omega)) ?_
  have e : c % 16 = c - 224 := by omega
  rw [e]
  match t with
  | [] => simp [firstRune, h1, h2, h3]
  | [d] => simp [firstRune, h1, h2, h3]
  | d :: e :: t' =>
   rw [if_neg (by simp)]
   show told 3 (accum (c - 224) [d, e]) = _
   rw [told3 (by omega) (by omega)]
   simp only [firstRune, h1, h2, h3, if_true, if_false, and_self]
   split <;> rfl
 refine ev_neg (fun h => h3 ((u8_and240 (by omega) (by omega)).1 h)) ?_
 by_cases h4 : 240 ≤ c ∧ c < 248
 ·refine ev_pos ((u8_and248 (by omega) (by omega)).2 h4) ?_
  rw [u8_and7 c (by omega) (by omega), wrap32_of (by omega) (by omega)]
  refine ev_eq (first_j (c :: t) 4 (c % 8) hb (by omega) (by omega) (by omega) (by omega)) ?_
  have e : c % 8 = c - 240 := by omega
  rw [e]
  match t with
  | [] => simp [firstRune, h1, h2, h3, h4]
  | [d] => simp [firstRune, h1, h2, h3, h4]
  | [d, e] => simp [firstRune, h1, h2, h3, h4]
  | d :: e :: f :: t' =>
   rw [if_neg (by simp)]
   show told 4 (accum (c - 240) [d, e, f]) = _
   rw [told4]
   simp only [firstRune, h1, h2, h3, h4, if_true, if_false, and_self]
   split <;> rfl
 refine ev_neg (fun h => h4 ((u8_and248 (by omega) (by omega)).1 h)) ?_
 refine Ev.step (f := fun k => runes_first.j1 k (c :: t) 0 0 true) (fun k => by simp only [runes_first.j0, if_true]) ?_
 refine Ev.step (f := fun _ => some (65533, 1)) (fun k => by simp only [runes_first.j1, if_true]) (ev_eq (Ev.now _) ?_)
 simp [firstRune, h1, h2, h3, h4]

theorem decode_l : ∀ x, Bytes x → ∀ o : List Int, o.length + x.length < 35184372088832 → Ev (fun k => runes_Decode.l0 k x o) (o ++ decode x) :=
 bytes_ind (P := fun x => ∀ o : List Int, o.length + x.length < 35184372088832 → Ev (fun k => runes_Decode.l0 k x o) (o ++ decode x))
  (fun o ho => Ev.step (f := fun _ => some o) (fun k => by simp [runes_Decode.l0]) (ev_eq (Ev.now _) (by simp [decode_nil])))
  fun x hb hx ih o ho => by
   have h0 : 0 < x.length := List.length_pos_iff.2 hx
   have h1 := first_fits hb hx
   have h2 := first_len x
   refine Ev.step (f := fun k => (runes_first.f k x).bind fun bt => if o.length < 35184372088832 then (if 0 ≤ bt.2 then (if bt.2 ≤ (x.length : Int) then runes_Decode.l0 k (x.drop (bt.2 : Int).toNat) (o ++ [bt.1]) else none) else none) else none) (fun k => ?_) ?_
   ·simp only [runes_Decode.l0]
    rw [if_pos (by omega)]
   ·refine Ev.bind (first_ev hb hx) (ev_pos (by omega) (ev_pos (by omega) (ev_pos (by simp only; omega) ?_)))
    simp only [Int.toNat_natCast]
    refine ev_eq (ih (o ++ [(firstRune x).1]) ?_) ?_
    ·rw [List.length_append, List.length_drop, List.length_singleton]
     omega
    ·rw [decode_cons hb hx, List.append_assoc]
     rfl
theorem decode_ev {l : List Int} (hb : Bytes l) (h : l.length < 35184372088832) : Ev (fun k => runes_Decode.f k l) (decode l) := by
 unfold runes_Decode.f
 exact ev_eq (decode_l l hb [] (by simpa using h)) (by simp)

end Go.Proofs.YtadejblahbebdaaDoor.Pure

/- The reference's reading of bytes, rune by rune as each is written: it is the same plain function. -/
namespace Go.Proofs.YtadejblahbebdaaDoor.Pure
open Go.RowKit Go.Proofs.YtadejblahbebdaaDoorW.PrintWords Go.Proofs.YtadejblahbebdaaDoorW.PrintLast Go.Proofs.YtadejblahbebdaaDoorW.PrintMore Go.Proofs.YtadejblahbebdaaDoor.X Go.Proofs.YtadejblahbebdaaDoor.Hand
set_option linter.unusedSimpArgs false
set_option linter.unusedVariables false

/-- What bytes are worth, as if they were one rune's. -/
def val : List Int → Int
 | [a] => a
 | [a, b] => (a - 192) * 64 + b - 128
 | [a, b, c] => ((a - 224) * 64 + b - 128) * 64 + c - 128
 | [a, b, c, d] => (((a - 240) * 64 + b - 128) * 64 + c - 128) * 64 + d - 128
 | _ => 0
theorem val_enc {r : Int} (h : validB r = true) : val (enc r) = r := by
 have h' := (validB_iff r).1 h
 unfold enc
 split
 ·rfl
 ·split
  ·simp only [val]; omega
  ·split
   ·simp only [val]; omega
   ·simp only [val]; omega

theorem value_step (l : List Int) (i : Nat) (x y r : Int) (hx : -1000000000 ≤ x) (hx1 : x ≤ 1000000000) (hi : l[i]? = some y) (hy : 0 ≤ y) (hy1 : y ≤ 255) (hl : l.length ≤ 4)
  (k : Ev (fun k => flongref02_value.l0 k l (x * 64 + y - 128) ((i + 1 : Nat) : Int)) r) : Ev (fun k => flongref02_value.l0 k l x (i : Int)) r := by
 obtain ⟨hlt, hiy⟩ := List.getElem?_eq_some_iff.1 hi
 refine Ev.step (f := fun k => flongref02_value.l0 k l (x * 64 + y - 128) ((i + 1 : Nat) : Int)) (fun k => ?_) k
 simp only [flongref02_value.l0]
 rw [if_pos (by omega), if_pos (by omega), rd_nat l i hlt, hiy, wrap_of (x := y) (by omega) (by omega), wrap_of (x := x * 64) (by omega) (by omega), wrap_of (x := x * 64 + y) (by omega) (by omega), wrap_of (x := x * 64 + y - 128) (by omega) (by omega), wrap_of (x := (i : Int) + 1) (by omega) (by omega)]
 rfl
theorem value_end (l : List Int) (x : Int) : Ev (fun k => flongref02_value.l0 k l x (l.length : Int)) x := by
 refine Ev.step (f := fun _ => some x) (fun k => ?_) (Ev.now _)
 simp only [flongref02_value.l0]
 rw [if_neg (by omega)]
theorem value_j (l : List Int) (x r : Int) (k : Ev (fun k => flongref02_value.l0 k l x ((1 : Nat) : Int)) r) : Ev (fun k => flongref02_value.j0 k l x) r :=
 Ev.step (f := fun k => flongref02_value.l0 k l x ((1 : Nat) : Int)) (fun k => by simp only [flongref02_value.j0]; rfl) k
theorem value_ev (l : List Int) (hb : Bytes l) (h1 : l ≠ []) (hl : l.length ≤ 4) : Ev (fun k => flongref02_value.f k l) (val l) := by
 have hpos : 0 < l.length := List.length_pos_iff.2 h1
 match l, hb, hpos, hl with
 | [a], hb, _, _ =>
  have ha := hb a (by simp)
  unfold flongref02_value.f
  refine ev_pos (by simp) (ev_neg (by simp) (ev_neg (by simp) (ev_neg (by simp) ?_)))
  rw [show rd [a] 0 = a from rfl, wrap_of (x := a) (by omega) (by omega)]
  exact value_j _ _ _ (value_end [a] a)
 | [a, b], hb, _, _ =>
  have ha := hb a (by simp)
  have hb' := hb b (by simp)
  unfold flongref02_value.f
  refine ev_pos (by simp) (ev_pos (by simp) ?_)
  rw [show rd [a, b] 0 = a from rfl, wrap_of (x := a) (by omega) (by omega), wrap_of (by omega) (by omega)]
  exact value_j _ _ _ (value_step _ 1 _ b _ (by omega) (by omega) rfl hb'.1 hb'.2 (by simp) (value_end [a, b] _))
 | [a, b, c], hb, _, _ =>
  have ha := hb a (by simp)
  have hb' := hb b (by simp)
  have hc := hb c (by simp)
  unfold flongref02_value.f
  refine ev_pos (by simp) (ev_neg (by simp) (ev_pos (by simp) ?_))
  rw [show rd [a, b, c] 0 = a from rfl, wrap_of (x := a) (by omega) (by omega), wrap_of (by omega) (by omega)]
  exact value_j _ _ _ (value_step _ 1 _ b _ (by omega) (by omega) rfl hb'.1 hb'.2 (by simp) (value_step _ 2 _ c _ (by omega) (by omega) rfl hc.1 hc.2 (by simp) (value_end [a, b, c] _)))
 | [a, b, c, d], hb, _, _ =>
  have ha := hb a (by simp)
  have hb' := hb b (by simp)
  have hc := hb c (by simp)
  have hd := hb d (by simp)
  unfold flongref02_value.f
  refine ev_pos (by simp) (ev_neg (by simp) (ev_neg (by simp) (ev_pos (by simp) ?_)))
  rw [show rd [a, b, c, d] 0 = a from rfl, wrap_of (x := a) (by omega) (by omega), wrap_of (by omega) (by omega)]
  exact value_j _ _ _ (value_step _ 1 _ b _ (by omega) (by omega) rfl hb'.1 hb'.2 (by simp) (value_step _ 2 _ c _ (by omega) (by omega) rfl hc.1 hc.2 (by simp) (value_step _ 3 _ d _ (by omega) (by omega) rfl hd.1 hd.2 (by simp) (value_end [a, b, c, d] _))))

/-- Bytes as a text: two are one just if the numbers are. -/
theorem str_eq {a b : List Int} (ha : Bytes a) (hb : Bytes b) : ((strOfNums a).toList == (strOfNums b).toList) = decide (a = b) := by
 have key : (strOfNums a).toList = (strOfNums b).toList ↔ a = b := by
  rw [ByteArray.toList_eq, ByteArray.toList_eq, strOfNums_data, strOfNums_data]
  constructor
  ·intro h
   have h2 := congrArg (List.map fun u : UInt8 => (u.toNat : Int)) h
   rw [List.map_map, List.map_map] at h2
   have e : ∀ l : List Int, Bytes l → l.map ((fun u : UInt8 => (u.toNat : Int)) ∘ fun n => UInt8.ofNat n.toNat) = l := by
    intro l hl
    conv => rhs; rw [← List.map_id l]
    refine List.map_congr_left fun x hx => ?_
    have := hl x hx
    simp
    omega
   rwa [e a ha, e b hb] at h2
  ·rintro rfl; rfl
 rw [Bool.eq_iff_iff, beq_iff_eq, decide_eq_true_iff]
 exact key
theorem bytes_take {l : List Int} (h : Bytes l) (n : Nat) : Bytes (l.take n) := fun x hx => h x (List.mem_of_mem_take hx)

theorem val_range (l : List Int) (hb : Bytes l) : -1000000000 ≤ val l ∧ val l ≤ 1000000000 := by
 match l, hb with
 | [], _ => simp [val]
 | [a], hb =>
  have ha := hb a (by simp)
  simp only [val]; omega
 | [a, b], hb =>
  have ha := hb a (by simp)
  have hb' := hb b (by simp)
  simp only [val]; omega
 | [a, b, c], hb =>
  have ha := hb a (by simp)
  have hb' := hb b (by simp)
  have hc := hb c (by simp)
  simp only [val]; omega
 | [a, b, c, d], hb =>
  have ha := hb a (by simp)
  have hb' := hb b (by simp)
  have hc := hb c (by simp)
  have hd := hb d (by simp)
  simp only [val]; omega
 | _ :: _ :: _ :: _ :: _ :: _, _ => simp [val]

/-- Are bytes just one rune's? -/
theorem is_ev (l : List Int) (hb : Bytes l) (h1 : l ≠ []) (hl : l.length ≤ 4) : Ev (fun k => flongref02_is.f k l) (decide (validB (val l) = true ∧ enc (val l) = l)) := by
 have hv := val_range l hb
 unfold flongref02_is.f
 refine Ev.bind (value_ev l hb h1 hl) ?_
 by_cases h : validB (val l) = true
 ·have h' := (validB_iff _).1 h
  refine ev_neg (by omega) (ev_neg (by omega) ?_)
  rw [wrap32_of (by omega) (by omega)]
  refine ev_bind1 (rvalid_eq _) (ev_pos h (Ev.bind (rone_ev _) (ev_eq (Ev.now _) ?_)))
  rw [one_valid h, str_eq (enc_bytes h) hb]
  simp [h]
 ·have hf : decide (validB (val l) = true ∧ enc (val l) = l) = false := by simp [h]
  rw [hf]
  refine ev_ite (fun _ => Ev.now _) (fun h2 => ev_ite (fun _ => Ev.now _) (fun h3 => ?_))
  rw [wrap32_of (by omega) (by omega)]
  exact ev_bind1 (rvalid_eq _) (ev_neg h (Ev.now _))

/-- The number of bytes that the reference finds: that of the first rune, 0 where there is none. -/
theorem is_at {l : List Int} (hb : Bytes l) (hl : l ≠ []) (m : Nat) (hm : 1 ≤ m) (hm2 : m ≤ l.length) (hm4 : m ≤ 4) :
  (validB (val (l.take m)) = true ∧ enc (val (l.take m)) = l.take m) ↔ (firstRune l).2 = m ∧ l.take m = enc (firstRune l).1 ∧ validB (firstRune l).1 = true := by
 constructor
 ·rintro ⟨h1, h2⟩
  have := first_of_take h1 h2.symm hm2
  rw [this]
  exact ⟨rfl, h2.symm, h1⟩
 ·rintro ⟨h1, h2, h3⟩
  rw [h2, val_enc h3]
  exact ⟨h3, rfl⟩

/-- The rest of the round: the number of bytes is found, or there is none. -/
theorem rdecode_out (x o : List Int) (i n : Nat) (m : Int) (r : List Int) (hb : Bytes x) (hi : i < x.length) (hx : x.length ≤ 1000000000) (ho : o.length < 35184372088832)
  (hn : (n = 0 ∧ (firstRune (x.drop i)) = (65533, 1)) ∨ (n = (firstRune (x.drop i)).2 ∧ (x.drop i).take n = enc (firstRune (x.drop i)).1 ∧ validB (firstRune (x.drop i)).1 = true))
  (h : Ev (fun k => flongref02_Decode.l0 k x (o ++ [(firstRune (x.drop i)).1]) ((i + (firstRune (x.drop i)).2 : Nat) : Int)) r) : Ev (fun k => flongref02_Decode.j2 k x o (i : Int) (n : Int) m false) r := by
 have hbd := bytes_drop hb i
 have hne : x.drop i ≠ [] := by
  intro e
  have := congrArg List.length e
  rw [List.length_drop] at this
  simp at this
  omega
 have hfit := first_fits hbd hne
 have h14 := first_len (x.drop i)
 rw [List.length_drop] at hfit
 rcases hn with ⟨rfl, h1⟩ | ⟨h0, h1, h2⟩
 ·rw [h1] at h
  refine Ev.step (f := fun k => flongref02_Decode.l0 k x (o ++ [65533]) ((i + 1 : Nat) : Int)) (fun k => ?_) h
  simp only [flongref02_Decode.j2]
  rw [if_neg (by simp), if_pos (by omega), if_pos ho, wrap_of (by omega) (by omega)]
  rfl
 ·have h2' := (validB_iff _).1 h2
  have hcut : (x.take (i + n)).drop i = (x.drop i).take n := by rw [List.drop_take, Nat.add_sub_cancel_left]
  have hv : val ((x.drop i).take n) = (firstRune (x.drop i)).1 := by rw [h1, val_enc h2]
  have hlen : ((x.drop i).take n).length = n := by rw [List.length_take, List.length_drop]; omega
  refine Ev.step (f := fun k => (flongref02_value.f k ((x.drop i).take n)).bind fun t => if o.length < 35184372088832 then flongref02_Decode.l0 k x (o ++ [wrap32 t]) ((i + n : Nat) : Int) else none) (fun k => ?_) ?_
  ·simp only [flongref02_Decode.j2]
   rw [if_neg (by simp), if_neg (by omega), wrap_of (x := (i : Int) + (n : Int)) (by omega) (by omega), if_pos (by omega), if_pos (by omega), if_pos (by omega), show ((i : Int) + (n : Int)).toNat = i + n from by omega, Int.toNat_natCast, hcut]
   rfl
  ·refine Ev.bind (value_ev _ (bytes_take hbd _) (fun e => by rw [e] at hlen; simp at hlen; omega) (by omega)) (ev_pos ho ?_)
   rw [hv, wrap32_of (by omega) (by omega), h0]
   exact h

theorem rdecode_round (x o : List Int) (i : Nat) (r : List Int) (hb : Bytes x) (hi : i < x.length) (hx : x.length ≤ 1000000000) (ho : o.length < 35184372088832)
  (h : Ev (fun k => flongref02_Decode.l0 k x (o ++ [(firstRune (x.drop i)).1]) ((i + (firstRune (x.drop i)).2 : Nat) : Int)) r) :
  ∀ (d m : Nat), 5 - m = d → 1 ≤ m → m ≤ 5 → (∀ q, 1 ≤ q → q < m → ¬ ((firstRune (x.drop i)).2 = q ∧ (x.drop i).take q = enc (firstRune (x.drop i)).1 ∧ validB (firstRune (x.drop i)).1 = true)) →
   Ev (fun k => flongref02_Decode.l1 k x o (i : Int) 0 (m : Int)) r := by
 have hbd := bytes_drop hb i
 have hne : x.drop i ≠ [] := by
  intro e
  have := congrArg List.length e
  rw [List.length_drop] at this
  simp at this
  omega
 have hfit := first_fits hbd hne
 have h14 := first_len (x.drop i)
 rw [List.length_drop] at hfit
 have hout0 : ∀ m : Nat, (∀ q, 1 ≤ q → q < m → ¬ ((firstRune (x.drop i)).2 = q ∧ (x.drop i).take q = enc (firstRune (x.drop i)).1 ∧ validB (firstRune (x.drop i)).1 = true)) → (4 < m ∨ x.length < i + m) →
   Ev (fun k => flongref02_Decode.j2 k x o (i : Int) ((0 : Nat) : Int) (m : Int) false) r := by
  intro m hno hend
  refine rdecode_out x o i 0 m r hb hi hx ho (.inl ⟨rfl, ?_⟩) h
  rcases first_spec hbd hne with ⟨h1, h2, h3⟩ | h1
  ·exact absurd ⟨rfl, h3, h1⟩ (hno _ h14.1 (by omega))
  ·exact h1
 intro d
 induction d with
 | zero =>
  intro m hd h1 h5 hno
  obtain rfl : m = 5 := by omega
  refine Ev.step (f := fun k => flongref02_Decode.j2 k x o (i : Int) ((0 : Nat) : Int) ((5 : Nat) : Int) false) (fun k => ?_) (hout0 5 hno (.inl (by omega)))
  simp only [flongref02_Decode.l1]
  rw [if_neg (by omega)]
  rfl
 | succ d ih =>
  intro m hd h1 h5 hno
  by_cases hfitm : i + m ≤ x.length
  ·have hcut : (x.take (i + m)).drop i = (x.drop i).take m := by rw [List.drop_take, Nat.add_sub_cancel_left]
   have hlen : ((x.drop i).take m).length = m := by rw [List.length_take, List.length_drop]; omega
   refine Ev.step (f := fun k => flongref02_Decode.j2 k x o (i : Int) 0 (m : Int) true) (fun k => ?_) ?_
   ·simp only [flongref02_Decode.l1]
    rw [if_pos (by omega), wrap_of (by omega) (by omega), if_pos (by omega)]
    rfl
   ·refine Ev.step (f := fun k => (flongref02_is.f k ((x.drop i).take m)).bind fun t => if t = true then flongref02_Decode.l1 k x o (i : Int) (m : Int) ((m + 1 : Nat) : Int) else flongref02_Decode.l1 k x o (i : Int) 0 ((m + 1 : Nat) : Int)) (fun k => ?_) ?_
    ·simp only [flongref02_Decode.j2, if_true]
     rw [wrap_of (x := (i : Int) + (m : Int)) (by omega) (by omega), if_pos (by omega), if_pos (by omega), if_pos (by omega), show ((i : Int) + (m : Int)).toNat = i + m from by omega, Int.toNat_natCast, hcut, wrap_of (x := (m : Int) + 1) (by omega) (by omega)]
     rfl
    ·refine Ev.bind (is_ev _ (bytes_take hbd _) (fun e => by rw [e] at hlen; simp at hlen; omega) (by omega)) ?_
     have hat := is_at hbd hne m h1 (by rw [List.length_drop]; omega) (by omega)
     by_cases hq : (firstRune (x.drop i)).2 = m ∧ (x.drop i).take m = enc (firstRune (x.drop i)).1 ∧ validB (firstRune (x.drop i)).1 = true
     ·refine ev_pos (decide_eq_true (hat.2 hq)) ?_
      refine Ev.step (f := fun k => flongref02_Decode.j2 k x o (i : Int) (m : Int) ((m + 1 : Nat) : Int) false) (fun k => ?_) (rdecode_out x o i m _ r hb hi hx ho (.inr ⟨hq.1.symm, hq.2⟩) h)
      simp only [flongref02_Decode.l1]
      have hm0 : ((m : Int) == 0) = false := by simp; omega
      rw [hm0]
      split
      ·split <;> rfl
      ·rfl
     ·refine ev_neg (by rw [decide_eq_false (fun z => hq (hat.1 z))]; simp) (ih (m + 1) (by omega) (by omega) (by omega) ?_)
      intro q hq1 hq2
      by_cases e : q = m
      ·subst e; exact hq
      ·exact hno q hq1 (by omega)
  ·refine Ev.step (f := fun k => flongref02_Decode.j2 k x o (i : Int) ((0 : Nat) : Int) (m : Int) false) (fun k => ?_) (hout0 m hno (.inr (by omega)))
   simp only [flongref02_Decode.l1]
   rw [if_pos (by omega), wrap_of (by omega) (by omega), if_neg (by omega)]
   rfl

theorem rdecode_l (x : List Int) (hb : Bytes x) (hx : x.length ≤ 1000000000) : ∀ (d i : Nat) (o : List Int), x.length - i ≤ d → i ≤ x.length → o.length + x.length < 35184372088832 + i → Ev (fun k => flongref02_Decode.l0 k x o (i : Int)) (o ++ decode (x.drop i)) := by
 intro d
 induction d with
 | zero =>
  intro i o hd hi ho
  refine Ev.step (f := fun _ => some o) (fun k => ?_) (ev_eq (Ev.now _) ?_)
  ·simp only [flongref02_Decode.l0]
   rw [if_neg (by omega)]
  ·rw [List.drop_eq_nil_of_le (by omega)]
   simp [decode_nil]
 | succ d ih =>
  intro i o hd hi ho
  by_cases hlt : i < x.length
  ·have hbd := bytes_drop hb i
   have hne : x.drop i ≠ [] := by
    intro e
    have := congrArg List.length e
    rw [List.length_drop] at this
    simp at this
    omega
   have hfit := first_fits hbd hne
   have h14 := first_len (x.drop i)
   rw [List.length_drop] at hfit
   refine Ev.step (f := fun k => flongref02_Decode.l1 k x o (i : Int) 0 ((1 : Nat) : Int)) (fun k => ?_) ?_
   ·simp only [flongref02_Decode.l0]
    rw [if_pos (by omega)]
    rfl
   ·refine rdecode_round x o i _ hb hlt hx (by omega) (ev_eq (ih (i + (firstRune (x.drop i)).2) (o ++ [(firstRune (x.drop i)).1]) (by omega) (by omega) (by rw [List.length_append, List.length_singleton]; omega)) ?_) 4 1 (by omega) (by omega) (by omega) (fun q h1 h2 => by omega)
    rw [decode_cons hbd hne, List.drop_drop, List.append_assoc]
    rfl
  ·refine Ev.step (f := fun _ => some o) (fun k => ?_) (ev_eq (Ev.now _) ?_)
   ·simp only [flongref02_Decode.l0]
    rw [if_neg (by omega)]
   ·rw [List.drop_eq_nil_of_le (by omega)]
    simp [decode_nil]
theorem rdecode_ev {l : List Int} (hb : Bytes l) (h : l.length ≤ 1000000000) : Ev (fun k => flongref02_Decode.f k l) (decode l) := by
 unfold flongref02_Decode.f
 exact ev_eq (rdecode_l l hb h l.length 0 [] (by omega) (by omega) (by simp; omega)) (by simp)
end Go.Proofs.YtadejblahbebdaaDoor.Pure

/- Were all runes there: what was read, written again, is what was read. -/
namespace Go.Proofs.YtadejblahbebdaaDoor.Pure
open Go.RowKit Go.Proofs.YtadejblahbebdaaDoorW.PrintWords Go.Proofs.YtadejblahbebdaaDoorW.PrintLast Go.Proofs.YtadejblahbebdaaDoor.X Go.Proofs.YtadejblahbebdaaDoor.Hand
theorem right_ev {l : List Int} (hb : Bytes l) (h : l.length ≤ 1000000000) : Ev (fun k => runes_Right.f k l) (decide (encode (decode l) = l)) := by
 have hl := (decode_length l hb).1
 unfold runes_Right.f
 exact Ev.bind (decode_ev hb (by omega)) (Ev.bind (encode_ev _ (by omega)) (ev_eq (Ev.now _) (str_eq (encode_bytes _) hb)))
theorem bsame_eq {a b : List Int} (ha : Bytes a) (hb : Bytes b) : flongref00_Same.f a b = some (decide (a = b)) := by
 unfold flongref00_Same.f
 rw [str_eq ha hb]
end Go.Proofs.YtadejblahbebdaaDoor.Pure

/- Glyphs of a text: package cells' and the reference's. -/
namespace Go.Proofs.YtadejblahbebdaaDoor.Pure
open Go.RowKit Go.Proofs.YtadejblahbebdaaDoorW.PrintWords Go.Proofs.YtadejblahbebdaaDoorW.PrintLast Go.Proofs.YtadejblahbebdaaDoorW.PrintMore Go.Proofs.YtadejblahbebdaaDoor.X Go.Proofs.YtadejblahbebdaaDoor.Hand
set_option linter.unusedSimpArgs false
set_option linter.unusedVariables false
theorem of_ev (s : ByteArray) (set : Int) (h : s.size < 17592186044416) : Ev (fun k => cells_Of.f k s set) (ofRunes set (decode (bytesOf s))) := by
 have hb := bytesOf_Bytes s
 have hl := (decode_length _ hb).1
 rw [bytesOf_length] at hl
 unfold cells_Of.f
 refine ev_bind1 (a := bytesOf s) (by unfold conv_bytes.f; rw [if_pos (by omega)]) (Ev.bind (decode_ev hb (by rw [bytesOf_length]; omega)) ?_)
 generalize decode (bytesOf s) = l at hl
 refine ev_eq (loop_up (fun k o i => cells_Of.l0 k set o l (l.length : Int) i) l.length (fun o i => o ++ ofRunes set (l.drop i)) (fun o i => o.length = i) ?_ ?_ [] 0 (by omega) rfl) (by simp)
 ·intro o _
  exact Ev.step (f := fun _ => some o) (fun k => by simp only [cells_Of.l0]; rw [if_neg (by omega)]) (ev_eq (Ev.now _) (by rw [List.drop_length, ofRunes_nil, List.append_nil]))
 ·intro o i hi ho ih
  refine Ev.step (f := fun k => cells_Of.l0 k set (o ++ [⟨l[i], set⟩]) l (l.length : Int) ((i + 1 : Nat) : Int)) (fun k => ?_) (ev_eq (ih (o ++ [⟨l[i], set⟩]) (by simp [ho])) ?_)
  ·simp only [cells_Of.l0]
   rw [if_pos (by omega), if_pos (by omega), if_pos (by omega), if_pos (by omega), rd_nat l i hi, wrap_up hi (by omega)]
  ·rw [List.drop_eq_getElem_cons hi, ofRunes_cons, List.append_assoc]
   rfl
theorem rof_ev (s : ByteArray) (set : Int) (h : s.size ≤ 1000000000) : Ev (fun k => flongref03_Of.f k s set) (ofRunes set (decode (bytesOf s))) := by
 have hb := bytesOf_Bytes s
 have hl := (decode_length _ hb).1
 rw [bytesOf_length] at hl
 unfold flongref03_Of.f
 refine ev_bind1 (a := bytesOf s) (by unfold conv_bytes.f; rw [if_pos (by omega)]) (Ev.bind (rdecode_ev hb (by rw [bytesOf_length]; omega)) ?_)
 generalize decode (bytesOf s) = l at hl
 refine ev_eq (loop_up (fun k o i => flongref03_Of.l0 k set l o i) l.length (fun o i => o ++ ofRunes set (l.drop i)) (fun o i => o.length = i) ?_ ?_ [] 0 (by omega) rfl) (by simp)
 ·intro o _
  exact Ev.step (f := fun _ => some o) (fun k => by simp only [flongref03_Of.l0]; rw [if_neg (by omega)]) (ev_eq (Ev.now _) (by rw [List.drop_length, ofRunes_nil, List.append_nil]))
 ·intro o i hi ho ih
  refine Ev.step (f := fun k => flongref03_Of.l0 k set l (o ++ [⟨l[i], set⟩]) ((i + 1 : Nat) : Int)) (fun k => ?_) (ev_eq (ih (o ++ [⟨l[i], set⟩]) (by simp [ho])) ?_)
  ·simp only [flongref03_Of.l0]
   rw [if_pos (by omega), if_pos (by omega), if_pos (by omega), rd_nat l i hi, wrap_up hi (by omega)]
  ·rw [List.drop_eq_getElem_cons hi, ofRunes_cons, List.append_assoc]
   rfl
end Go.Proofs.YtadejblahbebdaaDoor.Pure

/- What the chapter's example fixes: computed. -/
namespace Go.Proofs.YtadejblahbebdaaDoor.Pure
open Go.RowKit Go.Proofs.YtadejblahbebdaaDoorW.PrintWords Go.Proofs.YtadejblahbebdaaDoorW.PrintLast Go.Proofs.YtadejblahbebdaaDoor.X
theorem known_ev : Ev (fun k => flonglaw17_known.f k) true := Ev.of (k := 30) flonglaw17_known.mono (by kernel_rfl)
end Go.Proofs.YtadejblahbebdaaDoor.Pure

/- Bytes as lines: whether they may be, and their rows: package plain's and the reference's. -/
namespace Go.Proofs.YtadejblahbebdaaDoor.Pure
open Go Go.RowKit Go.Proofs.YtadejblahbebdaaDoorW.PrintWords Go.Proofs.YtadejblahbebdaaDoorW.PrintLast Go.Proofs.YtadejblahbebdaaDoorW.PrintMore Go.Proofs.YtadejblahbebdaaDoor.X Go.Proofs.YtadejblahbebdaaDoor.Hand
set_option linter.unusedSimpArgs false
set_option linter.unusedVariables false
/-- Bytes, cut at each line feed; cur: what stands behind the last one. -/
def splitC : List Int → List Int → List (List Int)
 | cur, [] => [cur]
 | cur, x :: t => if x = 10 then cur :: splitC [] t else splitC (cur ++ [x]) t
/-- The same, what stands behind the last line feed left out. -/
def cutC : List Int → List Int → List (List Int)
 | _, [] => []
 | cur, x :: t => if x = 10 then cur :: cutC [] t else cutC (cur ++ [x]) t
theorem cutC_snoc : ∀ (t cur : List Int), cutC cur (t ++ [10]) = splitC cur t
 | [], cur => by simp [cutC, splitC]
 | x :: t, cur => by
  rw [List.cons_append, cutC, splitC]
  split
  ·rw [cutC_snoc t []]
  ·rw [cutC_snoc t _]
theorem splitC_none : ∀ (t cur : List Int), (10 : Int) ∉ t → splitC cur t = [cur ++ t]
 | [], cur, _ => by simp [splitC]
 | x :: t, cur, h => by
  simp only [List.mem_cons, not_or] at h
  rw [splitC, if_neg (fun e => h.1 e.symm), splitC_none t _ h.2, List.append_assoc]
  rfl
theorem splitC_mid : ∀ (a cur d : List Int), (10 : Int) ∉ a → splitC cur (a ++ 10 :: d) = (cur ++ a) :: splitC [] d
 | [], cur, d, _ => by simp [splitC]
 | x :: a, cur, d, h => by
  simp only [List.mem_cons, not_or] at h
  rw [List.cons_append, splitC, if_neg (fun e => h.1 e.symm), splitC_mid a _ d h.2, List.append_assoc]
  rfl
theorem splitC_length : ∀ (t cur : List Int), (splitC cur t).length ≤ t.length + 1
 | [], cur => by simp [splitC]
 | x :: t, cur => by
  rw [splitC]
  split
  ·have := splitC_length t []
   simp only [List.length_cons]
   omega
  ·have := splitC_length t (cur ++ [x])
   simp only [List.length_cons]
   omega
theorem splitC_sum : ∀ (t cur : List Int) (y : List Int), y ∈ splitC cur t → y.length ≤ cur.length + t.length ∧ ∀ x ∈ y, x ∈ cur ∨ x ∈ t
 | [], cur, y, h => by
  simp only [splitC, List.mem_singleton] at h
  subst h
  exact ⟨by simp, fun x hx => .inl hx⟩
 | x :: t, cur, y, h => by
  rw [splitC] at h
  split at h
  ·rcases List.mem_cons.1 h with rfl | h
   ·exact ⟨by omega, fun x hx => .inl hx⟩
   ·obtain ⟨h1, h2⟩ := splitC_sum t [] y h
    simp only [List.length_nil, List.length_cons] at h1 ⊢
    refine ⟨by omega, fun z hz => .inr ?_⟩
    rcases h2 z hz with h3 | h3
    ·simp at h3
    ·exact List.mem_cons_of_mem _ h3
  ·obtain ⟨h1, h2⟩ := splitC_sum t (cur ++ [x]) y h
   simp only [List.length_append, List.length_cons, List.length_nil] at h1 ⊢
   refine ⟨by omega, fun z hz => ?_⟩
   rcases h2 z hz with h3 | h3
   ·rcases List.mem_append.1 h3 with h4 | h4
    ·exact .inl h4
    ·rw [List.mem_singleton.1 h4]
     exact .inr (by simp)
   ·exact .inr (List.mem_cons_of_mem _ h3)
theorem first10 : ∀ c : List Int, (10 : Int) ∈ c → ∃ a d, c = a ++ 10 :: d ∧ (10 : Int) ∉ a
 | [], h => by simp at h
 | x :: c, h => by
  by_cases hx : x = 10
  ·exact ⟨[], c, by rw [hx]; rfl, by simp⟩
  ·obtain ⟨a, d, rfl, h2⟩ := first10 c (by
    rcases List.mem_cons.1 h with h | h
    ·exact absurd h.symm hx
    ·exact h)
   refine ⟨x :: a, d, rfl, fun h3 => ?_⟩
   rcases List.mem_cons.1 h3 with h3 | h3
   ·exact hx h3.symm
   ·exact h2 h3
theorem u10 {x : Int} (h : 0 ≤ x ∧ x ≤ 255) : (UInt8.ofNat x.toNat == 10) = decide (x = 10) := by
 have h1 : ∀ n : Nat, n < 256 → (UInt8.ofNat n == 10) = decide (n = 10) := by decide +kernel
 rw [h1 x.toNat (by omega)]
 by_cases e : x = 10
 ·rw [decide_eq_true e, decide_eq_true (by omega)]
 ·rw [decide_eq_false e, decide_eq_false (by omega)]
theorem idx_none : ∀ c : List Int, Bytes c → (10 : Int) ∉ c → Lib.indexByte (c.map fun n => UInt8.ofNat n.toNat) 10 = -1
 | [], _, _ => rfl
 | x :: c, hb, h => by
  simp only [List.mem_cons, not_or] at h
  rw [List.map_cons, Lib.indexByte, u10 (hb x (by simp)), decide_eq_false (fun e => h.1 e.symm), if_neg (by simp), idx_none c (fun y hy => hb y (List.mem_cons_of_mem _ hy)) h.2]
  rfl
theorem idx_mid : ∀ a d : List Int, Bytes a → (10 : Int) ∉ a → Lib.indexByte ((a ++ 10 :: d).map fun n => UInt8.ofNat n.toNat) 10 = (a.length : Int)
 | [], d, _, _ => by
  rw [List.nil_append, List.map_cons, Lib.indexByte, u10 (by decide)]
  rfl
 | x :: a, d, hb, h => by
  simp only [List.mem_cons, not_or] at h
  rw [List.cons_append, List.map_cons, Lib.indexByte, u10 (hb x (by simp)), decide_eq_false (fun e => h.1 e.symm), if_neg (by simp), idx_mid a d (fun y hy => hb y (List.mem_cons_of_mem _ hy)) h.2]
  rw [if_neg (by simp), List.length_cons]
  omega
theorem str_extract (c : List Int) (i j : Nat) : (strOfNums c).extract i j = strOfNums ((c.take j).drop i) := by
 apply ByteArray.ext
 apply Array.ext'
 rw [ByteArray.data_extract, Array.toList_extract, strOfNums_data, strOfNums_data, List.extract_eq_take_drop, List.drop_take, List.map_take, List.map_drop]
theorem next_str (c : List Int) : nextLf (strOfNums c) = Lib.indexByte (c.map fun n => UInt8.ofNat n.toNat) 10 := by
 unfold nextLf
 rw [strOfNums_data]
theorem pieces_eq : ∀ (n : Nat) (c : List Int), c.length ≤ n → Bytes c → pieces (strOfNums c) = (splitC [] c).map strOfNums := by
 intro n
 induction n with
 | zero =>
  intro c hn hb
  obtain rfl : c = [] := List.eq_nil_of_length_eq_zero (by omega)
  rw [pieces_end (by rw [next_str]; decide)]
  rfl
 | succ n ih =>
  intro c hn hb
  by_cases h : (10 : Int) ∈ c
  ·obtain ⟨a, d, rfl, ha⟩ := first10 c h
   have hi : nextLf (strOfNums (a ++ 10 :: d)) = (a.length : Int) := by rw [next_str, idx_mid a d (fun x hx => hb x (by simp [hx])) ha]
   rw [pieces_more (by omega), hi, str_extract, str_extract, numsStr_size, splitC_mid a [] d ha, List.map_cons]
   have e1 : ((a ++ 10 :: d).take (a.length : Int).toNat).drop 0 = [] ++ a := by simp
   have e2 : ((a ++ 10 :: d).take (a ++ 10 :: d).length).drop ((a.length : Int).toNat + 1) = d := by
    rw [List.take_length, Int.toNat_natCast, List.drop_append, List.drop_eq_nil_of_le (by omega)]
    simp
   rw [e1, e2, ih d (by simp at hn; omega) (fun x hx => hb x (by simp [hx]))]
  ·rw [pieces_end (by rw [next_str, idx_none c hb h]; decide), splitC_none c [] h]
   rfl
/-- Bytes that may be. -/
def safeB (b : List Int) : Bool := decide (encode (decode b) = b) && !((decode b).any badR)
theorem safe17_ev {b : List Int} (hb : Bytes b) (h : b.length ≤ 1000000000) : Ev (fun k => plain_Safe.f k b) (safeB b) := by
 unfold plain_Safe.f safeB
 refine Ev.bind (right_ev hb h) (ev_ite (fun ht => ?_) (fun ht => ?_))
 ·rw [ht]
  exact Ev.bind (decode_ev hb (by omega)) (ev_eq (Ev.now _) (by simp))
 ·refine ev_eq (Ev.now _) ?_
  rw [Bool.not_eq_true] at ht
  rw [ht]
  rfl
/-- A line's glyphs. -/
def ofL (y : List Int) : List Gl := ofRunes 0 (decode y)
theorem ofL_length {y : List Int} (hb : Bytes y) : (ofL y).length ≤ y.length := by
 unfold ofL
 rw [ofRunes_length]
 exact (decode_length y hb).1
def lns (b : List Int) : List (List Gl) := (cutC [] b).map ofL
def readV (b : List Int) : List (List Gl) × Int := if safeB b = true ∧ (b = [] ∨ b.getLast? = some 10) then (lns b, 0) else ([], 5)
theorem rowsP_ev : ∀ l : List (List Int), (∀ y ∈ l, Bytes y ∧ y.length ≤ 1000000000) → Ev (fun k => rowsP k (l.map strOfNums)) (l.map ofL)
 | [], _ => Ev.now _
 | y :: t, h => by
  have h1 := h y (by simp)
  simp only [List.map_cons, rowsP]
  refine Ev.bind (ev_eq (of_ev (strOfNums y) 0 (by rw [numsStr_size]; omega)) (r' := ofL y) (by rw [numsStr_back h1.1]; rfl)) (Ev.bind (rowsP_ev t (fun z hz => h z (by simp [hz]))) (Ev.now _))
theorem suffix_eq {b : List Int} (hb : Bytes b) (h : b.length ≤ 1000000000) : strings_CutSuffix.f (strOfNums b) ⟨#[10]⟩ = some (if b.getLast? = some 10 then (strOfNums b.dropLast, true) else (strOfNums b, false)) := by
 have h10 : (⟨#[10]⟩ : ByteArray) = strOfNums [10] := by decide +kernel
 rw [h10]
 unfold strings_CutSuffix.f stringslite_CutSuffix.f stringslite_HasSuffix.f
 rw [numsStr_size, numsStr_size]
 cases hl : b.getLast? with
 | none =>
  rw [List.getLast?_eq_none_iff] at hl
  subst hl
  rfl
 | some y =>
  obtain ⟨c, rfl⟩ := List.getLast?_eq_some_iff.1 hl
  have hlc : (c ++ [y]).length = c.length + 1 := by simp
  have hw : wrap64 (((c.length + 1 : Nat) : Int) - ((1 : Nat) : Int)) = (c.length : Int) := by
   rw [wrap_of (by omega) (by omega)]
   omega
  rw [hlc, show ([10] : List Int).length = 1 from rfl, hw, if_pos (by omega), if_pos (by omega), if_pos (by omega), Option.bind_some, str_extract, str_extract]
  have e1 : ((c ++ [y]).take (c.length + 1)).drop (c.length : Int).toNat = [y] := by
   rw [← hlc, List.take_length]
   simp
  have e2 : ((c ++ [y]).take (c.length : Int).toNat).drop 0 = c := by simp
  have hy : Bytes [y] := fun x hx => hb x (by rw [List.mem_singleton.1 hx]; simp)
  rw [e1, e2, str_eq hy (fun x hx => by rw [List.mem_singleton.1 hx]; decide), List.dropLast_concat]
  by_cases hy10 : y = 10
  ·subst hy10
   rw [if_pos (by simp), if_pos (by omega), if_pos (by omega), Option.bind_some, if_pos rfl]
  ·rw [if_neg (by simp [hy10]), Option.bind_some, if_neg (fun e => hy10 (Option.some.inj e))]
theorem read17_ev {b : List Int} (hb : Bytes b) (h : b.length ≤ 100000000) : Ev (fun k => plain_Read.f k b) (readV b) := by
 unfold plain_Read.f
 refine ev_pos (by omega) (ev_bind1 (suffix_eq hb (by omega)) (Ev.bind (safe17_ev hb (by omega)) ?_))
 unfold readV
 have hlen : b.length = 0 ↔ b = [] := List.length_eq_zero_iff
 by_cases hl : b.getLast? = some 10
 ·obtain ⟨c, rfl⟩ := List.getLast?_eq_some_iff.1 hl
  have hbc : Bytes c := fun x hx => hb x (by simp [hx])
  rw [if_pos hl, List.dropLast_concat]
  refine ev_ite (fun hs => ?_) (fun hs => ev_eq (Ev.now _) (by rw [if_neg (fun e => hs ⟨e.1, .inl rfl⟩)]))
  rw [if_pos ⟨hs.1, .inr hl⟩]
  simp only [List.length_append, List.length_singleton] at h
  have hsl := splitC_length c []
  refine ev_neg (by simp) (ev_pos ⟨?_, by rw [numsStr_size]; omega⟩ ?_)
  ·rw [pieces_eq c.length c (Nat.le_refl _) hbc, List.length_map]
   omega
  ·rw [pieces_eq c.length c (Nat.le_refl _) hbc]
   refine Ev.bind (rowsP_ev (splitC [] c) (fun y hy => ?_)) (ev_eq (Ev.now _) (by unfold lns; rw [cutC_snoc]))
   obtain ⟨h1, h2⟩ := splitC_sum c [] y hy
   refine ⟨fun x hx => ?_, by simp at h1; omega⟩
   rcases h2 x hx with h3 | h3
   ·simp at h3
   ·exact hbc x h3
 ·rw [if_neg hl]
  refine ev_ite (fun hs => ?_) (fun hs => ev_eq (Ev.now _) (by rw [if_neg (fun e => hs ⟨e.1, .inr (hlen.2 (e.2.resolve_right hl))⟩)]))
  have h0 : b = [] := hlen.1 (hs.2.resolve_left (by simp))
  rw [if_pos ⟨hs.1, .inl h0⟩]
  subst h0
  exact ev_pos rfl (Ev.now _)
theorem rerase_ev (l : List Gl) (h : l.length ≤ 1000000) : Ev (fun k => flongref17_Erase.f k l) (erase l) := by
 unfold flongref17_Erase.f
 refine ev_eq (loop_up (fun k o i => flongref17_Erase.l0 k l o i) l.length (fun o i => o ++ erase (l.drop i)) (fun o i => o.length ≤ i) ?_ ?_ [] 0 (by omega) (by simp)) (by simp)
 ·intro o _
  exact Ev.step (f := fun _ => some o) (fun k => by simp only [flongref17_Erase.l0]; rw [if_neg (by omega)]) (ev_eq (Ev.now _) (by simp [erase]))
 ·intro o i hi ho ih
  refine Ev.step (f := fun k => flongref17_Erase.l0 k l (o ++ [⟨l[i].f0, 0⟩]) ((i + 1 : Nat) : Int)) (fun k => ?_) (ev_eq (ih (o ++ [⟨l[i].f0, 0⟩]) (by simp; omega)) ?_)
  ·simp only [flongref17_Erase.l0]
   rw [if_pos (by omega), if_pos (by omega), if_pos (by omega), rdG l i hi, wrap_up hi (by omega)]
  ·rw [List.drop_eq_getElem_cons hi, List.append_assoc]
   rfl
end Go.Proofs.YtadejblahbebdaaDoor.Pure

/- How many rows bytes are, and how long. -/
namespace Go.Proofs.YtadejblahbebdaaDoor.Pure
open Go Go.RowKit Go.Proofs.YtadejblahbebdaaDoorW.PrintWords Go.Proofs.YtadejblahbebdaaDoorW.PrintLast Go.Proofs.YtadejblahbebdaaDoorW.PrintMore Go.Proofs.YtadejblahbebdaaDoor.X Go.Proofs.YtadejblahbebdaaDoor.Hand
set_option linter.unusedVariables false
theorem cutC_length : ∀ (t cur : List Int), (cutC cur t).length ≤ t.length
 | [], cur => by simp [cutC]
 | x :: t, cur => by
  rw [cutC]
  split
  ·have := cutC_length t []
   simp only [List.length_cons]
   omega
  ·have := cutC_length t (cur ++ [x])
   simp only [List.length_cons]
   omega
theorem cutC_sum : ∀ (t cur : List Int) (y : List Int), y ∈ cutC cur t → y.length ≤ cur.length + t.length ∧ ∀ x ∈ y, x ∈ cur ∨ x ∈ t
 | [], cur, y, h => by simp [cutC] at h
 | x :: t, cur, y, h => by
  rw [cutC] at h
  split at h
  ·rcases List.mem_cons.1 h with rfl | h
   ·exact ⟨by omega, fun x hx => .inl hx⟩
   ·obtain ⟨h1, h2⟩ := cutC_sum t [] y h
    simp only [List.length_nil, List.length_cons] at h1 ⊢
    refine ⟨by omega, fun z hz => .inr ?_⟩
    rcases h2 z hz with h3 | h3
    ·simp at h3
    ·exact List.mem_cons_of_mem _ h3
  ·obtain ⟨h1, h2⟩ := cutC_sum t (cur ++ [x]) y h
   simp only [List.length_append, List.length_cons, List.length_nil] at h1 ⊢
   refine ⟨by omega, fun z hz => ?_⟩
   rcases h2 z hz with h3 | h3
   ·rcases List.mem_append.1 h3 with h4 | h4
    ·exact .inl h4
    ·rw [List.mem_singleton.1 h4]
     exact .inr (by simp)
   ·exact .inr (List.mem_cons_of_mem _ h3)
theorem readV_small {b : List Int} (hb : Bytes b) (h : b.length ≤ 1000) : (readV b).1.length ≤ 1000 ∧ ∀ r ∈ (readV b).1, r.length ≤ 1000 := by
 unfold readV
 split
 ·refine ⟨?_, fun r hr => ?_⟩
  ·have := cutC_length b []
   simp only [lns, List.length_map]
   omega
  ·obtain ⟨y, hy, rfl⟩ := List.mem_map.1 hr
   obtain ⟨h1, h2⟩ := cutC_sum b [] y hy
   have := ofL_length (y := y) (fun x hx => (h2 x hx).elim (fun h3 => by simp at h3) (hb x))
   simp only [List.length_nil] at h1
   omega
 ·simp
theorem ofL_zero (y : List Int) : ∀ g ∈ ofL y, g.f1 = 0 := by
 intro g hg
 obtain ⟨r, _, rfl⟩ := List.mem_map.1 hg
 rfl
end Go.Proofs.YtadejblahbebdaaDoor.Pure
