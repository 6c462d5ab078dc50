/- SpecU: several of this session's texts in one. -/
import Derived.Test.YtadejblahbebdaaDoorHandA
import Derived.Test.YtadejblahbebdaaDoorSpecA
import Derived.Laws.BitsLemmas
import Derived.Test.YtadejblahbebdaaDoorX5
import Derived.Test.YtadejblahbebdaaDoorX6
import Derived.Test.YtadejblahbebdaaDoorX20
import Derived.Test.YtadejblahbebdaaDoorX7
import Derived.Test.YtadejblahbebdaaDoorX9
import Derived.Test.YtadejblahbebdaaDoorX10
/- Runes and their bytes, as plain functions over whole numbers: what is written is read, and only what was written is read as anything. -/
namespace Go.Proofs.YtadejblahbebdaaDoor.Pure
open Go.Proofs.YtadejblahbebdaaDoor.Hand
set_option linter.unusedVariables false
set_option linter.unusedSimpArgs false

/-- The bytes of a rune that may be. -/
def enc (r : Int) : List Int :=
  if r < 128 then [r] else if r < 2048 then [192 + r / 64, 128 + r % 64] else if r < 65536 then [224 + r / 4096, 128 + r / 64 % 64, 128 + r % 64]
  else [240 + r / 262144, 128 + r / 4096 % 64, 128 + r / 64 % 64, 128 + r % 64]
/-- The bytes of any rune. -/
def one (r : Int) : List Int := enc (if validB r = true then r else 65533)
def encode (l : List Int) : List Int := l.flatMap one
def cont (d : Int) : Bool := decide (128 ≤ d) && decide (d < 192)
/-- The first rune, and how many bytes it has; 1 of one that is none. -/
def firstRune : List Int → Int × Nat
  | [] => (65533, 1)
  | c :: t =>
    if c < 128 then (c, 1)
    else if 192 ≤ c ∧ c < 224 then
      match t with
      | d :: _ => if cont d = true ∧ 128 ≤ (c - 192) * 64 + (d - 128) then ((c - 192) * 64 + (d - 128), 2) else (65533, 1)
      | _ => (65533, 1)
    else if 224 ≤ c ∧ c < 240 then
      match t with
      | d :: e :: _ => if cont d = true ∧ cont e = true ∧ 2048 ≤ ((c - 224) * 64 + (d - 128)) * 64 + (e - 128) ∧ validB (((c - 224) * 64 + (d - 128)) * 64 + (e - 128)) = true then (((c - 224) * 64 + (d - 128)) * 64 + (e - 128), 3) else (65533, 1)
      | _ => (65533, 1)
    else if 240 ≤ c ∧ c < 248 then
      match t with
      | d :: e :: f :: _ => if cont d = true ∧ cont e = true ∧ cont f = true ∧ 65536 ≤ (((c - 240) * 64 + (d - 128)) * 64 + (e - 128)) * 64 + (f - 128) ∧ validB ((((c - 240) * 64 + (d - 128)) * 64 + (e - 128)) * 64 + (f - 128)) = true
          then ((((c - 240) * 64 + (d - 128)) * 64 + (e - 128)) * 64 + (f - 128), 4) else (65533, 1)
      | _ => (65533, 1)
    else (65533, 1)
def decodeN : Nat → List Int → List Int
  | 0, _ => []
  | n + 1, l => if l = [] then [] else (firstRune l).1 :: decodeN n (l.drop (firstRune l).2)
def decode (l : List Int) : List Int := decodeN l.length l
/-- All of them bytes. -/
def Bytes (l : List Int) : Prop := ∀ x ∈ l, 0 ≤ x ∧ x ≤ 255

theorem validB_iff' (a : Int) : validB a = true ↔ 0 ≤ a ∧ a ≤ 1114111 ∧ (a < 55296 ∨ 57343 < a) := by
  simp [validB]
theorem cont_iff (d : Int) : cont d = true ↔ 128 ≤ d ∧ d < 192 := by simp [cont]

theorem first_enc {r : Int} (h : validB r = true) (t : List Int) : firstRune (enc r ++ t) = (r, (enc r).length) := by
  have h' := (validB_iff' r).1 h
  unfold enc
  split
  · simp [firstRune, *]
  · split
    · have e : (192 + r / 64 - 192) * 64 + (128 + r % 64 - 128) = r := by omega
      simp only [firstRune, List.cons_append, List.nil_append, List.length_cons, List.length_nil]
      rw [if_neg (by omega), if_pos (by omega), e, if_pos ⟨(cont_iff _).2 (by omega), by omega⟩]
    · split
      · have e : ((224 + r / 4096 - 224) * 64 + (128 + r / 64 % 64 - 128)) * 64 + (128 + r % 64 - 128) = r := by omega
        simp only [firstRune, List.cons_append, List.nil_append, List.length_cons, List.length_nil]
        rw [if_neg (by omega), if_neg (by omega), if_pos (by omega), e, if_pos ⟨(cont_iff _).2 (by omega), (cont_iff _).2 (by omega), by omega, h⟩]
      · have e : (((240 + r / 262144 - 240) * 64 + (128 + r / 4096 % 64 - 128)) * 64 + (128 + r / 64 % 64 - 128)) * 64 + (128 + r % 64 - 128) = r := by omega
        simp only [firstRune, List.cons_append, List.nil_append, List.length_cons, List.length_nil]
        rw [if_neg (by omega), if_neg (by omega), if_neg (by omega), if_pos (by omega), e, if_pos ⟨(cont_iff _).2 (by omega), (cont_iff _).2 (by omega), (cont_iff _).2 (by omega), by omega, h⟩]

theorem valid_odd : validB 65533 = true := by decide +kernel
theorem enc_len (r : Int) : 1 ≤ (enc r).length ∧ (enc r).length ≤ 4 := by
  unfold enc
  split
  · simp
  · split
    · simp
    · split <;> simp
theorem enc_bytes {r : Int} (h : validB r = true) : Bytes (enc r) := by
  have h' := (validB_iff' r).1 h
  unfold enc Bytes
  split
  · simp; omega
  · split
    · simp; omega
    · split <;> (simp; omega)
theorem enc_ne (r : Int) : enc r ≠ [] := fun h => by have := enc_len r; rw [h] at this; simp at this

/-- What is told first: a rune's bytes stand there, or it is told for what is none, one byte. -/
theorem first_spec {l : List Int} (hb : Bytes l) (hl : l ≠ []) : (validB (firstRune l).1 = true ∧ (firstRune l).2 = (enc (firstRune l).1).length ∧ l.take (firstRune l).2 = enc (firstRune l).1) ∨ firstRune l = (65533, 1) := by
  match l, hl with
  | c :: t, _ =>
    have hc := hb c (by simp)
    simp only [firstRune]
    split
    · left
      refine ⟨(validB_iff' _).2 (by simp; omega), ?_⟩
      simp [enc, *]
    · split
      · rename_i h1 h2
        match t with
        | d :: t' =>
          simp only
          split
          · rename_i h3
            have hd := (cont_iff d).1 h3.1
            left
            refine ⟨(validB_iff' _).2 (by simp; omega), ?_⟩
            simp only [enc]
            rw [if_neg (by omega), if_pos (by omega)]
            refine ⟨rfl, ?_⟩
            simp
            omega
          · exact .inr rfl
        | [] => exact .inr rfl
      · split
        · rename_i h1 h2 h3
          match t with
          | d :: e :: t' =>
            simp only
            split
            · rename_i h4
              have hd := (cont_iff d).1 h4.1
              have he := (cont_iff e).1 h4.2.1
              have h5 := h4.2.2.1
              left
              refine ⟨h4.2.2.2, ?_⟩
              simp only [enc]
              rw [if_neg (by omega), if_neg (by omega), if_pos (by omega)]
              refine ⟨rfl, ?_⟩
              simp
              omega
            · exact .inr rfl
          | [d] => exact .inr rfl
          | [] => exact .inr rfl
        · split
          · rename_i h1 h2 h3 h4
            match t with
            | d :: e :: f :: t' =>
              simp only
              split
              · rename_i h5
                have hd := (cont_iff d).1 h5.1
                have he := (cont_iff e).1 h5.2.1
                have hf := (cont_iff f).1 h5.2.2.1
                have h6 := h5.2.2.2.1
                left
                refine ⟨h5.2.2.2.2, ?_⟩
                simp only [enc]
                rw [if_neg (by omega), if_neg (by omega), if_neg (by omega)]
                refine ⟨rfl, ?_⟩
                simp
                omega
              · exact .inr rfl
            | [d, e] => exact .inr rfl
            | [d] => exact .inr rfl
            | [] => exact .inr rfl
          · exact .inr rfl

theorem first_len (l : List Int) : 1 ≤ (firstRune l).2 ∧ (firstRune l).2 ≤ 4 := by
  unfold firstRune
  repeat' split
  all_goals simp
theorem first_fits {l : List Int} (hb : Bytes l) (hl : l ≠ []) : (firstRune l).2 ≤ l.length := by
  rcases first_spec hb hl with ⟨_, h2, h3⟩ | h
  · have := congrArg List.length h3
    rw [List.length_take] at this
    omega
  · rw [h]
    cases l
    · exact absurd rfl hl
    · simp
theorem first_valid {l : List Int} (hb : Bytes l) (hl : l ≠ []) : validB (firstRune l).1 = true := by
  rcases first_spec hb hl with ⟨h, _⟩ | h
  · exact h
  · rw [h]; exact valid_odd

theorem bytes_drop {l : List Int} (h : Bytes l) (n : Nat) : Bytes (l.drop n) := fun x hx => h x (List.mem_of_mem_drop hx)
theorem decodeN_more : ∀ (n m : Nat) (l : List Int), Bytes l → l.length ≤ n → l.length ≤ m → decodeN n l = decodeN m l
  | 0, 0, _, _, _, _ => rfl
  | 0, m + 1, l, _, h, _ => by
    have : l = [] := List.eq_nil_of_length_eq_zero (by omega)
    simp [decodeN, this]
  | n + 1, 0, l, _, _, h => by
    have : l = [] := List.eq_nil_of_length_eq_zero (by omega)
    simp [decodeN, this]
  | n + 1, m + 1, l, hb, h, h' => by
    unfold decodeN
    split
    · rfl
    · rename_i hl
      have := first_len l
      have hn := List.length_drop (i := (firstRune l).2) (l := l)
      have h0 : 0 < l.length := List.length_pos_iff.2 hl
      rw [decodeN_more n m _ (bytes_drop hb _) (by omega) (by omega)]
theorem decode_nil : decode [] = [] := rfl
theorem decode_cons {l : List Int} (hb : Bytes l) (hl : l ≠ []) : decode l = (firstRune l).1 :: decode (l.drop (firstRune l).2) := by
  have h0 : 0 < l.length := List.length_pos_iff.2 hl
  have h1 := first_len l
  have hn := List.length_drop (i := (firstRune l).2) (l := l)
  obtain ⟨n, hn'⟩ : ∃ n, l.length = n + 1 := ⟨l.length - 1, by omega⟩
  show decodeN l.length l = _
  rw [hn']
  unfold decodeN
  rw [if_neg hl]
  congr 1
  exact decodeN_more _ _ _ (bytes_drop hb _) (by omega) (by omega)

/-- Down from a row of bytes to the rest behind its first rune. -/
theorem bytes_ind {P : List Int → Prop} (h0 : P []) (hs : ∀ l, Bytes l → l ≠ [] → P (l.drop (firstRune l).2) → P l) : ∀ l, Bytes l → P l := by
  have key : ∀ (n : Nat) (l : List Int), l.length ≤ n → Bytes l → P l := by
    intro n
    induction n with
    | zero =>
      intro l hl _
      rw [List.eq_nil_of_length_eq_zero (by omega : l.length = 0)]
      exact h0
    | succ n ih =>
      intro l hl hb
      by_cases he : l = []
      · rw [he]; exact h0
      · refine hs l hb he (ih _ ?_ (bytes_drop hb _))
        have := first_len l
        have hn := List.length_drop (i := (firstRune l).2) (l := l)
        have h0 : 0 < l.length := List.length_pos_iff.2 he
        omega
  exact fun l hb => key l.length l (Nat.le_refl _) hb

theorem decode_valid : ∀ l, Bytes l → ∀ r ∈ decode l, validB r = true :=
  bytes_ind (P := fun l => ∀ r ∈ decode l, validB r = true) (by simp [decode_nil]) fun l hb hl ih r hr => by
    rw [decode_cons hb hl] at hr
    rcases List.mem_cons.1 hr with rfl | h
    · exact first_valid hb hl
    · exact ih r h
theorem decode_length : ∀ l, Bytes l → (decode l).length ≤ l.length ∧ (l ≠ [] → decode l ≠ []) :=
  bytes_ind (P := fun l => (decode l).length ≤ l.length ∧ (l ≠ [] → decode l ≠ [])) (by simp [decode_nil]) fun l hb hl ih => by
    rw [decode_cons hb hl]
    have := first_len l
    have hn := List.length_drop (i := (firstRune l).2) (l := l)
    have h0 : 0 < l.length := List.length_pos_iff.2 hl
    have h1 := ih.1
    refine ⟨?_, fun _ => by simp⟩
    rw [List.length_cons]
    omega

theorem one_valid {r : Int} (h : validB r = true) : one r = enc r := by simp [one, h]
theorem one_bytes (r : Int) : Bytes (one r) := by
  unfold one
  split
  · rename_i h; exact enc_bytes h
  · exact enc_bytes valid_odd
theorem one_len (r : Int) : 1 ≤ (one r).length ∧ (one r).length ≤ 4 := enc_len _
theorem bytes_append {a b : List Int} (ha : Bytes a) (hb : Bytes b) : Bytes (a ++ b) := fun x hx => by
  rcases List.mem_append.1 hx with h | h
  · exact ha x h
  · exact hb x h
theorem encode_bytes (l : List Int) : Bytes (encode l) := fun x hx => by
  obtain ⟨r, _, h⟩ := List.mem_flatMap.1 hx
  exact one_bytes r x h
theorem encode_nil : encode [] = [] := rfl
theorem encode_cons (r : Int) (l : List Int) : encode (r :: l) = one r ++ encode l := by simp [encode]
theorem encode_append (a b : List Int) : encode (a ++ b) = encode a ++ encode b := by simp [encode]
theorem encode_length (l : List Int) : (encode l).length ≤ 4 * l.length := by
  induction l with
  | nil => simp [encode_nil]
  | cons r l ih =>
    have := one_len r
    rw [encode_cons, List.length_append, List.length_cons]
    omega

/-- What is written of runes that may be, whatever stands behind, is read as they were. -/
theorem decode_encode : ∀ (l : List Int) (b : List Int), (∀ r ∈ l, validB r = true) → Bytes b → decode (encode l ++ b) = l ++ decode b
  | [], b, _, _ => by simp [encode_nil]
  | r :: l, b, h, hb => by
    have hr := h r (by simp)
    have e : encode (r :: l) ++ b = enc r ++ (encode l ++ b) := by rw [encode_cons, one_valid hr, List.append_assoc]
    have hB : Bytes (enc r ++ (encode l ++ b)) := bytes_append (enc_bytes hr) (bytes_append (encode_bytes l) hb)
    have hne : enc r ++ (encode l ++ b) ≠ [] := by simp [enc_ne]
    rw [e, decode_cons hB hne, first_enc hr]
    simp only [List.drop_left, List.cons_append]
    rw [decode_encode l b (fun x hx => h x (List.mem_cons_of_mem _ hx)) hb]
theorem decode_encode' {l : List Int} (h : ∀ r ∈ l, validB r = true) : decode (encode l) = l := by
  have := decode_encode l [] h (by simp [Bytes])
  simpa [decode_nil] using this
theorem decode_again {a : List Int} (h : Bytes a) : decode (encode (decode a)) = decode a := decode_encode' (decode_valid a h)
/-- One row behind another one that is right. -/
theorem decode_append {a b : List Int} (ha : Bytes a) (hb : Bytes b) (hr : encode (decode a) = a) : decode (a ++ b) = decode a ++ decode b := by
  have := decode_encode (decode a) b (decode_valid a ha) hb
  rwa [hr] at this
/-- Bytes that are a rune's are read as it: no other number of bytes is. -/
theorem first_of_take {l : List Int} {k : Nat} {r : Int} (h : validB r = true) (e : l.take k = enc r) (hk : k ≤ l.length) : firstRune l = (r, k) := by
  have h1 : l = enc r ++ l.drop k := by rw [← e, List.take_append_drop]
  have h2 := first_enc h (l.drop k)
  rw [← h1] at h2
  rw [h2]
  congr 1
  rw [← e, List.length_take]
  omega
end Go.Proofs.YtadejblahbebdaaDoor.Pure

/- What package runes computes of bytes and of rows: its printed functions answer by plain functions. -/
namespace Go.Proofs.YtadejblahbebdaaDoor.Pure
open Go.RowKit Go.Proofs.YtadejblahbebdaaDoorW.PrintWords Go.Proofs.YtadejblahbebdaaDoorW.PrintLast Go.Proofs.YtadejblahbebdaaDoorW.PrintMore Go.Proofs.YtadejblahbebdaaDoor.X Go.Proofs.YtadejblahbebdaaDoor.Hand
set_option linter.unusedSimpArgs false
set_option linter.unusedVariables false

theorem size_eq (a : Int) : runes_size.f a = some (if a < 128 then 1 else if a < 2048 then 2 else if a < 65536 then 3 else 4) := by
  unfold runes_size.f
  repeat' split
  all_goals rfl
theorem i32_and63 {x : Int} (h₀ : 0 ≤ x) (h₁ : x < 2147483648) : Go.bits .and .i32 x 63 = x % 64 := bits_mask .i32 31 (by decide) wraps_i32 6 (by decide) x h₀ h₁
theorem step_one (x : Int) (n : Int) (b : List Int) (i : Nat) (hx : 0 ≤ x) (hx1 : x < 2147483648) (hi : 0 < i) (hib : i < b.length) (hb : b.length ≤ 4) (r : List Int)
    (k : Ev (fun k => runes_one.l0 k (x / 64) n (b.set i (128 + x % 64)) ((i : Int) - 1)) r) : Ev (fun k => runes_one.l0 k x n b (i : Int)) r := by
  refine Ev.step (f := fun k => runes_one.l0 k (x / 64) n (b.set i (128 + x % 64)) ((i : Int) - 1)) (fun k => ?_) k
  simp only [runes_one.l0]
  rw [if_pos (by omega), if_pos (by omega), if_pos (by omega), i32_and63 hx hx1, show (x % 64) % 256 = x % 64 from by omega, u8_or128 (x % 64) (by omega) (by omega), wrap_of (x := (i : Int) - 1) (by omega) (by omega), Int.toNat_natCast]
theorem last_one (x : Int) (n : Int) (b : List Int) (h : Int) (hn : 0 ≤ n) (hb : 0 < b.length) (hv : Go.bits .or .u8 ((shr .i64 3840 n) % 256) (x % 256) = h) : Ev (fun k => runes_one.l0 k x n b 0) (b.set 0 h) := by
  refine Ev.step (f := fun _ => some (b.set 0 h)) (fun k => ?_) (Ev.now _)
  simp only [runes_one.l0]
  rw [if_neg (by omega), if_pos hn, if_pos (by omega), hv]
  rfl
theorem one_j {x : Int} (h : validB x = true) : Ev (fun k => runes_one.j0 k x) (enc x) := by
  have h' := (validB_iff x).1 h
  refine Ev.step (f := fun k => (runes_size.f x).bind fun t => if t = 1 then some [x % 256] else if 0 ≤ t then (if (t : Int).toNat ≤ 281474976710656 then runes_one.l0 k x t (List.replicate (t : Int).toNat 0) (wrap64 (t - 1)) else none) else none) (fun k => by simp only [runes_one.j0]) ?_
  refine ev_bind1 (size_eq x) ?_
  unfold enc
  by_cases h1 : x < 128
  · simp only [h1, if_true]
    refine ev_eq (Ev.now _) ?_
    rw [show x % 256 = x from by omega]
  · by_cases h2 : x < 2048
    · simp only [h1, h2, if_true, if_false]
      refine ev_neg (by omega) (ev_pos (by omega) (ev_pos (by decide) ?_))
      refine Ev.congr (f := fun k => runes_one.l0 k x 2 [0, 0] ((1 : Nat) : Int)) (fun k => by rw [wrap_of (by omega) (by omega)]; rfl) ?_
      refine step_one x 2 [0, 0] 1 (by omega) (by omega) (by omega) (by simp) (by simp) _ ?_
      refine ev_eq (last_one (x / 64) 2 _ (192 + x / 64) (by omega) (by simp) ?_) (by rfl)
      rw [show (shr .i64 3840 2) % 256 = 192 by decide +kernel, show (x / 64) % 256 = x / 64 from by omega]
      exact u8_or192 _ (by omega) (by omega)
    · by_cases h3 : x < 65536
      · simp only [h1, h2, h3, if_true, if_false]
        refine ev_neg (by omega) (ev_pos (by omega) (ev_pos (by decide) ?_))
        refine Ev.congr (f := fun k => runes_one.l0 k x 3 [0, 0, 0] ((2 : Nat) : Int)) (fun k => by rw [wrap_of (by omega) (by omega)]; rfl) ?_
        refine step_one x 3 [0, 0, 0] 2 (by omega) (by omega) (by omega) (by simp) (by simp) _ ?_
        refine step_one (x / 64) 3 _ 1 (by omega) (by omega) (by omega) (by simp) (by simp) _ ?_
        refine ev_eq (last_one (x / 64 / 64) 3 _ (224 + x / 4096) (by omega) (by simp) ?_) (by rfl)
        rw [show (shr .i64 3840 3) % 256 = 224 by decide +kernel, show (x / 64 / 64) % 256 = x / 4096 from by omega]
        exact u8_or224 _ (by omega) (by omega)
      · simp only [h1, h2, h3, if_false]
        refine ev_neg (by omega) (ev_pos (by omega) (ev_pos (by decide) ?_))
        refine Ev.congr (f := fun k => runes_one.l0 k x 4 [0, 0, 0, 0] ((3 : Nat) : Int)) (fun k => by rw [wrap_of (by omega) (by omega)]; rfl) ?_
        refine step_one x 4 [0, 0, 0, 0] 3 (by omega) (by omega) (by omega) (by simp) (by simp) _ ?_
        refine step_one (x / 64) 4 _ 2 (by omega) (by omega) (by omega) (by simp) (by simp) _ ?_
        refine step_one (x / 64 / 64) 4 _ 1 (by omega) (by omega) (by omega) (by simp) (by simp) _ ?_
        refine ev_eq (last_one (x / 64 / 64 / 64) 4 _ (240 + x / 262144) (by omega) (by simp) ?_) ?_
        · rw [show (shr .i64 3840 4) % 256 = 240 by decide +kernel, show (x / 64 / 64 / 64) % 256 = x / 262144 from by omega]
          exact u8_or240 _ (by omega) (by omega)
        · simp
          omega
theorem one_ev (r : Int) : Ev (fun k => runes_one.f k r) (one r) := by
  unfold runes_one.f
  refine ev_bind1 (valid_eq r) (ev_ite (fun h => ?_) (fun h => ?_))
  · exact ev_eq (one_j h) (by simp [one, h])
  · exact ev_eq (one_j valid_odd) (by simp [one, h])

theorem encode_l (l : List Int) : ∀ (d i : Nat) (o : List Int), l.length - i = d → i ≤ l.length → o.length + 4 * (l.length - i) < 140737488355328 → l.length ≤ 9223372036854775807 →
    Ev (fun k => runes_Encode.l0 k o l (l.length : Int) (i : Int)) (o ++ encode (l.drop i)) := by
  intro d
  induction d with
  | zero =>
    intro i o hd hi ho hl
    refine Ev.step (f := fun _ => some o) (fun k => ?_) (ev_eq (Ev.now _) ?_)
    · simp only [runes_Encode.l0]
      rw [if_neg (by omega)]
    · rw [List.drop_eq_nil_of_le (by omega)]
      simp [encode_nil]
  | succ d ih =>
    intro i o hd hi ho hl
    have hlt : i < l.length := by omega
    have h1 := one_len l[i]
    refine Ev.step (f := fun k => (runes_one.f k l[i]).bind fun t => if o.length + t.length < 140737488355328 then runes_Encode.l0 k (o ++ t) l (l.length : Int) ((i + 1 : Nat) : Int) else none) (fun k => ?_) ?_
    · simp only [runes_Encode.l0]
      rw [if_pos (by omega), if_pos (by omega), if_pos (by omega), rd_nat l i hlt, wrap_of (by omega) (by omega)]
      rfl
    · refine Ev.bind (one_ev _) (ev_pos (by omega) (ev_eq (ih (i + 1) _ (by omega) (by omega) (by rw [List.length_append]; omega) hl) ?_))
      rw [List.drop_eq_getElem_cons hlt, encode_cons, List.append_assoc]
theorem encode_ev (l : List Int) (h : 4 * l.length < 140737488355328) : Ev (fun k => runes_Encode.f k l) (encode l) := by
  unfold runes_Encode.f
  exact ev_eq (encode_l l l.length 0 [] (by omega) (by omega) (by simpa using h) (by omega)) (by simp)

/-! ### reading -/
theorem u8_and192 {x : Int} (h0 : 0 ≤ x) (h1 : x ≤ 255) : Go.bits .and .u8 x 192 = 128 ↔ (128 ≤ x ∧ x < 192) := by
  have h : ∀ n : Nat, n < 256 → (Go.bits .and .u8 (n : Int) 192 = 128 ↔ (128 ≤ (n : Int) ∧ (n : Int) < 192)) := by decide +kernel
  obtain ⟨n, rfl⟩ := Int.eq_ofNat_of_zero_le h0
  exact h n (by omega)
theorem u8_and224 {x : Int} (h0 : 0 ≤ x) (h1 : x ≤ 255) : Go.bits .and .u8 x 224 = 192 ↔ (192 ≤ x ∧ x < 224) := by
  have h : ∀ n : Nat, n < 256 → (Go.bits .and .u8 (n : Int) 224 = 192 ↔ (192 ≤ (n : Int) ∧ (n : Int) < 224)) := by decide +kernel
  obtain ⟨n, rfl⟩ := Int.eq_ofNat_of_zero_le h0
  exact h n (by omega)
theorem u8_and240 {x : Int} (h0 : 0 ≤ x) (h1 : x ≤ 255) : Go.bits .and .u8 x 240 = 224 ↔ (224 ≤ x ∧ x < 240) := by
  have h : ∀ n : Nat, n < 256 → (Go.bits .and .u8 (n : Int) 240 = 224 ↔ (224 ≤ (n : Int) ∧ (n : Int) < 240)) := by decide +kernel
  obtain ⟨n, rfl⟩ := Int.eq_ofNat_of_zero_le h0
  exact h n (by omega)
theorem u8_and248 {x : Int} (h0 : 0 ≤ x) (h1 : x ≤ 255) : Go.bits .and .u8 x 248 = 240 ↔ (240 ≤ x ∧ x < 248) := by
  have h : ∀ n : Nat, n < 256 → (Go.bits .and .u8 (n : Int) 248 = 240 ↔ (240 ≤ (n : Int) ∧ (n : Int) < 248)) := by decide +kernel
  obtain ⟨n, rfl⟩ := Int.eq_ofNat_of_zero_le h0
  exact h n (by omega)

/-- The value of the bytes behind the first one; none where one is none of these. -/
def accum : Int → List Int → Option Int
  | x, [] => some x
  | x, d :: t => if cont d = true then accum (x * 64 + (d - 128)) t else none
def told (n : Int) : Option Int → Int × Int
  | some x => if validB x = true ∧ (if x < 128 then (1 : Int) else if x < 2048 then 2 else if x < 65536 then 3 else 4) = n then (x, n) else (65533, 1)
  | none => (65533, 1)

theorem first_l (n : Int) (y : List Int) (hy : Bytes y) (hl : y.length ≤ 3) : ∀ (d i : Nat) (x : Int), y.length - i = d → i ≤ y.length → 0 ≤ x → x < 2 ^ (12 + 6 * i) / 128 →
    Ev (fun k => runes_first.l0 k n x y (y.length : Int) (i : Int)) (told n (accum x (y.drop i))) := by
  intro d
  induction d with
  | zero =>
    intro i x hd hi hx hx1
    refine Ev.step (f := fun _ => (runes_Valid.f x).bind fun t => if t = true then ((runes_size.f x).bind fun t => if t = n then some (x, n) else some (65533, 1)) else some (65533, 1)) (fun k => ?_) ?_
    · simp only [runes_first.l0]
      rw [if_neg (by omega)]
    · rw [List.drop_eq_nil_of_le (by omega)]
      refine ev_one ?_
      rw [valid_eq, Option.bind_some, size_eq, Option.bind_some]
      simp only [accum, told]
      by_cases h1 : validB x = true
      · rw [if_pos h1]
        by_cases h2 : (if x < 128 then (1 : Int) else if x < 2048 then 2 else if x < 65536 then 3 else 4) = n
        · rw [if_pos h2, if_pos ⟨h1, h2⟩]
        · rw [if_neg h2, if_neg (fun h => h2 h.2)]
      · rw [if_neg h1, if_neg (fun h => h1 h.1)]
  | succ d ih =>
    intro i x hd hi hx hx1
    have hlt : i < y.length := by omega
    have hb := hy y[i] (List.getElem_mem _)
    have hx2 : x < 33554432 := by
      have : i ≤ 2 := by omega
      rcases (by omega : i = 0 ∨ i = 1 ∨ i = 2) with rfl | rfl | rfl <;> omega
    have hdrop := List.drop_eq_getElem_cons hlt
    by_cases hc : cont y[i] = true
    · have hc' := (cont_iff _).1 hc
      have e1 : wrap32 (Go.bits .and .u8 y[i] 63) = y[i] - 128 := by
        rw [u8_and63 y[i] (by omega) (by omega), wrap32_of (by omega) (by omega)]
        omega
      have e2 : Go.bits .or .i32 (wrap32 (x * 64)) (wrap32 (Go.bits .and .u8 y[i] 63)) = x * 64 + (y[i] - 128) := by
        rw [e1, wrap32_of (by omega) (by omega)]
        exact i32_or6 (x * 64) (y[i] - 128) (by omega) (by omega) (by omega) (by omega) (by omega)
      refine Ev.step (f := fun k => runes_first.l0 k n (x * 64 + (y[i] - 128)) y (y.length : Int) ((i + 1 : Nat) : Int)) (fun k => ?_) ?_
      · simp only [runes_first.l0]
        rw [if_pos (by omega), if_pos (by omega), if_pos (by omega), rd_nat y i hlt, if_pos ((u8_and192 (by omega) (by omega)).2 hc'), e2, wrap_of (by omega) (by omega)]
        rfl
      · refine ev_eq (ih (i + 1) _ (by omega) (by omega) (by omega) ?_) ?_
        · rcases (by omega : i = 0 ∨ i = 1 ∨ i = 2) with rfl | rfl | rfl <;> omega
        · rw [hdrop]
          simp [accum, hc]
    · have hc' : ¬ (128 ≤ y[i] ∧ y[i] < 192) := fun h => hc ((cont_iff _).2 h)
      refine Ev.step (f := fun _ => some (65533, 1)) (fun k => ?_) (ev_eq (Ev.now _) ?_)
      · simp only [runes_first.l0]
        rw [if_pos (by omega), if_pos (by omega), if_pos (by omega), rd_nat y i hlt, if_neg (fun h => hc' ((u8_and192 (by omega) (by omega)).1 h))]
      · rw [hdrop]
        simp [accum, hc, told]

theorem first_j (l : List Int) (n : Nat) (x : Int) (hb : Bytes l) (hn : 2 ≤ n) (hn4 : n ≤ 4) (hx : 0 ≤ x) (hx1 : x < 32) :
    Ev (fun k => runes_first.j0 k l (n : Int) x) (if l.length < n then (65533, 1) else told n (accum x ((l.take n).drop 1))) := by
  have hj1 : ∀ b : Bool, Ev (fun k => runes_first.j1 k l (n : Int) x b) (if b = true then (65533, 1) else if l.length < n then (65533, 1) else told n (accum x ((l.take n).drop 1))) ∨ (b = false ∧ l.length < n) := by
    intro b
    cases b with
    | true =>
      left
      refine Ev.step (f := fun _ => some (65533, 1)) (fun k => ?_) (ev_eq (Ev.now _) (by simp))
      simp only [runes_first.j1, if_true]
    | false =>
      by_cases hl : l.length < n
      · exact .inr ⟨rfl, hl⟩
      · left
        have hlen : ((l.take n).drop 1).length ≤ 3 := by simp; omega
        refine Ev.step (f := fun k => runes_first.l0 k (n : Int) x ((l.take n).drop 1) (((l.take n).drop 1).length : Int) ((0 : Nat) : Int)) (fun k => ?_) (ev_eq (first_l n _ (fun z hz => hb z (List.mem_of_mem_take (List.mem_of_mem_drop hz))) hlen _ 0 x rfl (by omega) hx (by omega)) ?_)
        · simp only [runes_first.j1]
          rw [if_neg (by simp), if_pos (by omega), if_pos (by omega), Option.bind_some, Int.toNat_natCast]
          rfl
        · simp [hl]
  refine Ev.step (f := fun k => if (n : Int) = 0 then runes_first.j1 k l n x true else runes_first.j1 k l n x (decide ((l.length : Int) < n))) (fun k => by simp only [runes_first.j0]) ?_
  refine ev_neg (by omega) ?_
  by_cases hl : l.length < n
  · rw [decide_eq_true (by omega)]
    rcases hj1 true with h | h
    · exact ev_eq h (by simp [hl])
    · cases h.1
  · rw [decide_eq_false (by omega)]
    rcases hj1 false with h | h
    · exact ev_eq h (by simp [hl])
    · exact absurd h.2 hl
end Go.Proofs.YtadejblahbebdaaDoor.Pure

/- The references of layer 2 that look at one rune. -/
namespace Go.Proofs.YtadejblahbebdaaDoor.Pure
open Go.RowKit Go.Proofs.YtadejblahbebdaaDoorW.PrintWords Go.Proofs.YtadejblahbebdaaDoorW.PrintLast Go.Proofs.YtadejblahbebdaaDoorW.PrintMore Go.Proofs.YtadejblahbebdaaDoor.X Go.Proofs.YtadejblahbebdaaDoor.Hand
set_option linter.unusedSimpArgs false
set_option linter.unusedVariables false
theorem rvalid_eq (a : Int) : flongref02_Valid.f a = some (validB a) := by
  unfold flongref02_Valid.f
  by_cases h1 : a ≥ 0 <;> by_cases h2 : a < 1114112 <;> by_cases h3 : a < 55296 <;> simp only [h1, h2, h3, if_true, if_false] <;> congr 1 <;> (rw [Bool.eq_iff_iff]; simp [validB]; omega)
theorem rcontrol_eq (a : Int) : flongref02_Control.f a = some (controlB a) := by
  unfold flongref02_Control.f
  by_cases h1 : a ≥ 0 <;> by_cases h2 : a ≤ 31 <;> by_cases h3 : a ≥ 127 <;> by_cases h4 : a ≤ 159 <;> by_cases h5 : a = 8232 <;> simp only [h1, h2, h3, h4, h5, if_true, if_false] <;> congr 1 <;> (rw [Bool.eq_iff_iff]; simp [controlB]; omega)
theorem rsafe_eq (a : Int) : flongref02_Safe.f a = some (safe a) := by
  unfold flongref02_Safe.f
  rw [rvalid_eq, Option.bind_some]
  by_cases h1 : validB a = true
  · rw [if_pos h1, rcontrol_eq, Option.bind_some]
    cases h2 : controlB a <;> simp [safe, h1, h2]
  · rw [if_neg h1]
    simp [safe, h1]
theorem within_step (r : Int) (ls : List Int) (n : Nat) (hn : ls.length = 2 * n) (hs : n ≤ 1000) (i : Nat) (hlt : i < n) (k : Nat) : flongref02_within.l0 (k + 1) r ls ((2 * i : Nat) : Int) =
    if r ≥ lowAt ls i then (if r ≤ highAt ls i then some true else flongref02_within.l0 k r ls ((2 * (i + 1) : Nat) : Int)) else flongref02_within.l0 k r ls ((2 * (i + 1) : Nat) : Int) := by
  have e0 : rd ls ((2 * i : Nat) : Int) = lowAt ls i := by
    rw [rd_nat ls (2 * i) (by omega)]
    simp [lowAt, List.getD_eq_getElem?_getD, Nat.mul_comm i 2, List.getElem?_eq_getElem (show 2 * i < ls.length by omega)]
  have e1 : rd ls (((2 * i : Nat) : Int) + 1) = highAt ls i := by
    rw [show ((2 * i : Nat) : Int) + 1 = ((2 * i + 1 : Nat) : Int) from by omega, rd_nat ls (2 * i + 1) (by omega)]
    simp [highAt, List.getD_eq_getElem?_getD, Nat.mul_comm i 2, List.getElem?_eq_getElem (show 2 * i + 1 < ls.length by omega)]
  simp only [flongref02_within.l0]
  rw [wrap_of (x := ((2 * i : Nat) : Int) + 1) (by omega) (by omega), wrap_of (x := ((2 * i : Nat) : Int) + 2) (by omega) (by omega), if_pos (by omega), if_pos (by omega), if_pos (by omega), e0, e1, show ((2 * i : Nat) : Int) + 2 = ((2 * (i + 1) : Nat) : Int) from by omega]
  split
  · rw [if_pos (by omega)]
  · rfl
theorem within_end (r : Int) (ls : List Int) (n : Nat) (hn : ls.length = 2 * n) (hs : n ≤ 1000) (k : Nat) : flongref02_within.l0 (k + 1) r ls ((2 * n : Nat) : Int) = some false := by
  simp only [flongref02_within.l0]
  rw [wrap_of (by omega) (by omega), if_neg (by omega)]
theorem part_range (r : Int) (ls : List Int) (n i : Nat) (hlt : i < n) : (∃ j, i ≤ j ∧ j < n ∧ lowAt ls j ≤ r ∧ r ≤ highAt ls j) ↔ (lowAt ls i ≤ r ∧ r ≤ highAt ls i) ∨ ∃ j, i + 1 ≤ j ∧ j < n ∧ lowAt ls j ≤ r ∧ r ≤ highAt ls j := by
  constructor
  · rintro ⟨j, h1, h2, h3⟩
    by_cases e : j = i
    · subst e; exact .inl h3
    · exact .inr ⟨j, by omega, h2, h3⟩
  · rintro (h | ⟨j, h1, h2, h3⟩)
    · exact ⟨i, Nat.le_refl _, hlt, h⟩
    · exact ⟨j, by omega, h2, h3⟩
theorem within_l (r : Int) (ls : List Int) (n : Nat) (hn : ls.length = 2 * n) (hs : n ≤ 1000) : ∀ (d i : Nat), n - i = d → i ≤ n → ∀ b : Bool, (b = true ↔ ∃ j, i ≤ j ∧ j < n ∧ lowAt ls j ≤ r ∧ r ≤ highAt ls j) → Ev (fun k => flongref02_within.l0 k r ls ((2 * i : Nat) : Int)) b := by
  intro d
  induction d with
  | zero =>
    intro i hd hi b hb
    obtain rfl : i = n := by clear hb; omega
    refine Ev.step (f := fun _ => some false) (fun k => within_end r ls i hn hs k) (ev_eq (Ev.now _) ?_)
    cases b with
    | false => rfl
    | true =>
      obtain ⟨j, h1, h2, _⟩ := hb.1 rfl
      exact absurd h2 (Nat.not_lt.2 h1)
  | succ d ih =>
    intro i hd hi b hb
    have hlt : i < n := by clear hb; omega
    have hnext := ih (i + 1) (by clear hb; omega) (by clear hb; omega)
    refine Ev.step (within_step r ls n hn hs i hlt) ?_
    refine ev_ite (fun h => ev_ite (fun h' => ev_eq (Ev.now _) ?_) (fun h' => hnext b ?_)) (fun h => hnext b ?_)
    · exact ((hb.trans (part_range r ls n i hlt)).2 (.inl ⟨h, h'⟩)).symm
    · rw [hb, part_range r ls n i hlt]
      exact ⟨fun z => z.resolve_left (fun q => h' q.2), .inr⟩
    · rw [hb, part_range r ls n i hlt]
      exact ⟨fun z => z.resolve_left (fun q => h q.1), .inr⟩
theorem within_ev (r : Int) (ls : List Int) (n : Nat) (hn : ls.length = 2 * n) (hs : n ≤ 1000) : Ev (fun k => flongref02_within.f k r ls) (inRange ls n r) := by
  unfold flongref02_within.f
  refine within_l r ls n hn hs n 0 (by omega) (by omega) _ ?_
  rw [inRange_true]
  constructor
  · rintro ⟨j, h2, h3⟩; exact ⟨j, Nat.zero_le _, h2, h3⟩
  · rintro ⟨j, _, h2, h3⟩; exact ⟨j, h2, h3⟩
theorem rwidth_ev (r : Int) : Ev (fun k => flongref02_Width.f k r) (wid r) := by
  have hj : ∀ b : Bool, Ev (fun k => flongref02_Width.j0 k r b) (if b = true then 0 else if inRange noneL 12 r = true then 0 else if inRange wideL 16 r = true then 2 else 1) := by
    intro b
    refine Ev.step (f := fun k => if b = true then some 0 else ((flongref02_within.f k r noneL).bind fun t => if t = true then some 0 else ((flongref02_within.f k r wideL).bind fun t => if t = true then some 2 else some 1))) (fun k => by simp only [flongref02_Width.j0, noneL, wideL]) ?_
    refine ev_ite (fun h => ev_eq (Ev.now _) (by simp [h])) (fun h => Ev.bind (within_ev r noneL 12 rfl (by omega)) (ev_ite (fun h1 => ev_eq (Ev.now _) (by simp [h, h1])) (fun h1 => Ev.bind (within_ev r wideL 16 rfl (by omega)) (ev_ite (fun h2 => ev_eq (Ev.now _) (by simp [h, h1, h2])) (fun h2 => ev_eq (Ev.now _) (by simp [h, h1, h2]))))))
  unfold flongref02_Width.f
  refine ev_bind1 (rvalid_eq r) (ev_ite (fun h => ev_bind1 (rcontrol_eq r) (ev_eq (hj _) ?_)) (fun h => ev_eq (hj _) ?_))
  · simp [wid, h]
  · simp [wid, h]
end Go.Proofs.YtadejblahbebdaaDoor.Pure

/- The reference's bytes of one rune. -/
namespace Go.Proofs.YtadejblahbebdaaDoor.Pure
open Go.RowKit Go.Proofs.YtadejblahbebdaaDoorW.PrintWords Go.Proofs.YtadejblahbebdaaDoorW.PrintLast Go.Proofs.YtadejblahbebdaaDoorW.PrintMore Go.Proofs.YtadejblahbebdaaDoor.X Go.Proofs.YtadejblahbebdaaDoor.Hand
set_option linter.unusedSimpArgs false
set_option linter.unusedVariables false

theorem rone_j {x : Int} (h : validB x = true) : Ev (fun k => flongref02_One.j0 k x) (enc x) := by
  have h' := (validB_iff x).1 h
  have t64 : Int.tdiv x 64 = x / 64 := Int.tdiv_eq_ediv_of_nonneg (by omega)
  have t4096 : Int.tdiv x 4096 = x / 4096 := Int.tdiv_eq_ediv_of_nonneg (by omega)
  have t26 : Int.tdiv x 262144 = x / 262144 := Int.tdiv_eq_ediv_of_nonneg (by omega)
  have m : ∀ y : Int, 0 ≤ y → Int.tmod y 64 = y % 64 := fun y hy => Int.tmod_eq_emod_of_nonneg hy
  refine Ev.step (f := fun _ => some (enc x)) (fun k => ?_) (Ev.now _)
  simp only [flongref02_One.j0, enc, t64, t4096, t26]
  rw [wrap_of (x := x / 64) (by omega) (by omega), wrap_of (x := x / 4096) (by omega) (by omega), wrap_of (x := x / 262144) (by omega) (by omega), m x (by omega), m (x / 64) (by omega), m (x / 4096) (by omega),
    wrap_of (x := 192 + x / 64) (by omega) (by omega), wrap_of (x := 224 + x / 4096) (by omega) (by omega), wrap_of (x := 240 + x / 262144) (by omega) (by omega), wrap_of (x := 128 + x % 64) (by omega) (by omega), wrap_of (x := 128 + x / 64 % 64) (by omega) (by omega), wrap_of (x := 128 + x / 4096 % 64) (by omega) (by omega)]
  split
  · rw [show x % 256 = x from by omega]
  · split
    · rw [show (192 + x / 64) % 256 = 192 + x / 64 from by omega, show (128 + x % 64) % 256 = 128 + x % 64 from by omega]
    · split
      · rw [show (224 + x / 4096) % 256 = 224 + x / 4096 from by omega, show (128 + x % 64) % 256 = 128 + x % 64 from by omega, show (128 + x / 64 % 64) % 256 = 128 + x / 64 % 64 from by omega]
      · rw [show (240 + x / 262144) % 256 = 240 + x / 262144 from by omega, show (128 + x % 64) % 256 = 128 + x % 64 from by omega, show (128 + x / 64 % 64) % 256 = 128 + x / 64 % 64 from by omega, show (128 + x / 4096 % 64) % 256 = 128 + x / 4096 % 64 from by omega]
theorem rone_ev (r : Int) : Ev (fun k => flongref02_One.f k r) (one r) := by
  unfold flongref02_One.f
  refine ev_bind1 (rvalid_eq r) (ev_ite (fun h => ?_) (fun h => ?_))
  · have h' := (validB_iff r).1 h
    rw [wrap_of (by omega) (by omega)]
    exact ev_eq (rone_j h) (by simp [one, h])
  · exact ev_eq (rone_j valid_odd) (by simp [one, h])
end Go.Proofs.YtadejblahbebdaaDoor.Pure
