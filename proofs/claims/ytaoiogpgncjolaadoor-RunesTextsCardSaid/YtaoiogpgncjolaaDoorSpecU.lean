/- SpecU: several of this session's texts in one. -/
import Derived.Test.YtaoiogpgncjolaaDoorHandA
import Derived.Test.YtaoiogpgncjolaaDoorSpecA
import Derived.Laws.BitsLemmas
import Derived.Test.YtaoiogpgncjolaaDoorX1
import Derived.Test.YtaoiogpgncjolaaDoorX2
import Derived.Test.YtaoiogpgncjolaaDoorX8
import Derived.Test.YtaoiogpgncjolaaDoorX6
import Derived.Test.YtaoiogpgncjolaaDoorX10
import Derived.Test.YtaoiogpgncjolaaDoorX16
import Derived.Test.YtaoiogpgncjolaaDoorX3
import Derived.Test.YtaoiogpgncjolaaDoorX11
/- Runes and their bytes, as plain functions over whole numbers: what is written is read, and only what was written is read as anything. -/
namespace Go.Proofs.YtaoiogpgncjolaaDoor.Pure
open Go.Proofs.YtaoiogpgncjolaaDoor.Hand
set_option linter.unusedVariables false
set_option linter.unusedSimpArgs false

/-- The bytes of a rune that may be. -/
def enc (r : Int) : List Int :=
  if r < 128 then [r] else if r < 2048 then [192 + r / 64, 128 + r % 64] else if r < 65536 then [224 + r / 4096, 128 + r / 64 % 64, 128 + r % 64]
  else [240 + r / 262144, 128 + r / 4096 % 64, 128 + r / 64 % 64, 128 + r % 64]
/-- The bytes of any rune. -/
def one (r : Int) : List Int := enc (if validB r = true then r else 65533)
def encode (l : List Int) : List Int := l.flatMap one
def cont (d : Int) : Bool := decide (128 ≤ d) && decide (d < 192)
/-- The first rune, and how many bytes it has; 1 of one that is none. -/
def firstRune : List Int → Int × Nat
  | [] => (65533, 1)
  | c :: t =>
    if c < 128 then (c, 1)
    else if 192 ≤ c ∧ c < 224 then
      match t with
      | d :: _ => if cont d = true ∧ 128 ≤ (c - 192) * 64 + (d - 128) then ((c - 192) * 64 + (d - 128), 2) else (65533, 1)
      | _ => (65533, 1)
    else if 224 ≤ c ∧ c < 240 then
      match t with
      | d :: e :: _ => if cont d = true ∧ cont e = true ∧ 2048 ≤ ((c - 224) * 64 + (d - 128)) * 64 + (e - 128) ∧ validB (((c - 224) * 64 + (d - 128)) * 64 + (e - 128)) = true then (((c - 224) * 64 + (d - 128)) * 64 + (e - 128), 3) else (65533, 1)
      | _ => (65533, 1)
    else if 240 ≤ c ∧ c < 248 then
      match t with
      | d :: e :: f :: _ => if cont d = true ∧ cont e = true ∧ cont f = true ∧ 65536 ≤ (((c - 240) * 64 + (d - 128)) * 64 + (e - 128)) * 64 + (f - 128) ∧ validB ((((c - 240) * 64 + (d - 128)) * 64 + (e - 128)) * 64 + (f - 128)) = true
          then ((((c - 240) * 64 + (d - 128)) * 64 + (e - 128)) * 64 + (f - 128), 4) else (65533, 1)
      | _ => (65533, 1)
    else (65533, 1)
def decodeN : Nat → List Int → List Int
  | 0, _ => []
  | n + 1, l => if l = [] then [] else (firstRune l).1 :: decodeN n (l.drop (firstRune l).2)
def decode (l : List Int) : List Int := decodeN l.length l
/-- All of them bytes. -/
def Bytes (l : List Int) : Prop := ∀ x ∈ l, 0 ≤ x ∧ x ≤ 255

theorem validB_iff' (a : Int) : validB a = true ↔ 0 ≤ a ∧ a ≤ 1114111 ∧ (a < 55296 ∨ 57343 < a) := by
  simp [validB]
theorem cont_iff (d : Int) : cont d = true ↔ 128 ≤ d ∧ d < 192 := by simp [cont]

theorem first_enc {r : Int} (h : validB r = true) (t : List Int) : firstRune (enc r ++ t) = (r, (enc r).length) := by
  have h' := (validB_iff' r).1 h
  unfold enc
  split
  · simp [firstRune, *]
  · split
    · have e : (192 + r / 64 - 192) * 64 + (128 + r % 64 - 128) = r := by omega
      simp only [firstRune, List.cons_append, List.nil_append, List.length_cons, List.length_nil]
      rw [if_neg (by omega), if_pos (by omega), e, if_pos ⟨(cont_iff _).2 (by omega), by omega⟩]
    · split
      · have e : ((224 + r / 4096 - 224) * 64 + (128 + r / 64 % 64 - 128)) * 64 + (128 + r % 64 - 128) = r := by omega
        simp only [firstRune, List.cons_append, List.nil_append, List.length_cons, List.length_nil]
        rw [if_neg (by omega), if_neg (by omega), if_pos (by omega), e, if_pos ⟨(cont_iff _).2 (by omega), (cont_iff _).2 (by omega), by omega, h⟩]
      · have e : (((240 + r / 262144 - 240) * 64 + (128 + r / 4096 % 64 - 128)) * 64 + (128 + r / 64 % 64 - 128)) * 64 + (128 + r % 64 - 128) = r := by omega
        simp only [firstRune, List.cons_append, List.nil_append, List.length_cons, List.length_nil]
        rw [if_neg (by omega), if_neg (by omega), if_neg (by omega), if_pos (by omega), e, if_pos ⟨(cont_iff _).2 (by omega), (cont_iff _).2 (by omega), (cont_iff _).2 (by omega), by omega, h⟩]

theorem valid_odd : validB 65533 = true := by decide +kernel
theorem enc_len (r : Int) : 1 ≤ (enc r).length ∧ (enc r).length ≤ 4 := by
  unfold enc
  split
  · simp
  · split
    · simp
    · split <;> simp
theorem enc_bytes {r : Int} (h : validB r = true) : Bytes (enc r) := by
  have h' := (validB_iff' r).1 h
  unfold enc Bytes
  split
  · simp; omega
  · split
    · simp; omega
    · split <;> (simp; omega)
theorem enc_ne (r : Int) : enc r ≠ [] := fun h => by have := enc_len r; rw [h] at this; simp at this

/-- What is told first: a rune's bytes stand there, or it is told for what is none, one byte. -/
theorem first_spec {l : List Int} (hb : Bytes l) (hl : l ≠ []) : (validB (firstRune l).1 = true ∧ (firstRune l).2 = (enc (firstRune l).1).length ∧ l.take (firstRune l).2 = enc (firstRune l).1) ∨ firstRune l = (65533, 1) := by
  match l, hl with
  | c :: t, _ =>
    have hc := hb c (by simp)
    simp only [firstRune]
    split
    · left
      refine ⟨(validB_iff' _).2 (by simp; omega), ?_⟩
      simp [enc, *]
    · split
      · rename_i h1 h2
        match t with
        | d :: t' =>
          simp only
          split
          · rename_i h3
            have hd := (cont_iff d).1 h3.1
            left
            refine ⟨(validB_iff' _).2 (by simp; omega), ?_⟩
            simp only [enc]
            rw [if_neg (by omega), if_pos (by omega)]
            refine ⟨rfl, ?_⟩
            simp
            omega
          · exact .inr rfl
        | [] => exact .inr rfl
      · split
        · rename_i h1 h2 h3
          match t with
          | d :: e :: t' =>
            simp only
            split
            · rename_i h4
              have hd := (cont_iff d).1 h4.1
              have he := (cont_iff e).1 h4.2.1
              have h5 := h4.2.2.1
              left
              refine ⟨h4.2.2.2, ?_⟩
              simp only [enc]
              rw [if_neg (by omega), if_neg (by omega), if_pos (by omega)]
              refine ⟨rfl, ?_⟩
              simp
              omega
            · exact .inr rfl
          | [d] => exact .inr rfl
          | [] => exact .inr rfl
        · split
          · rename_i h1 h2 h3 h4
            match t with
            | d :: e :: f :: t' =>
              simp only
              split
              · rename_i h5
                have hd := (cont_iff d).1 h5.1
                have he := (cont_iff e).1 h5.2.1
                have hf := (cont_iff f).1 h5.2.2.1
                have h6 := h5.2.2.2.1
                left
                refine ⟨h5.2.2.2.2, ?_⟩
                simp only [enc]
                rw [if_neg (by omega), if_neg (by omega), if_neg (by omega)]
                refine ⟨rfl, ?_⟩
                simp
                omega
              · exact .inr rfl
            | [d, e] => exact .inr rfl
            | [d] => exact .inr rfl
            | [] => exact .inr rfl
          · exact .inr rfl

theorem first_len (l : List Int) : 1 ≤ (firstRune l).2 ∧ (firstRune l).2 ≤ 4 := by
  unfold firstRune
  repeat' split
  all_goals simp
theorem first_fits {l : List Int} (hb : Bytes l) (hl : l ≠ []) : (firstRune l).2 ≤ l.length := by
  rcases first_spec hb hl with ⟨_, h2, h3⟩ | h
  · have := congrArg List.length h3
    rw [List.length_take] at this
    omega
  · rw [h]
    cases l
    · exact absurd rfl hl
    · simp
theorem first_valid {l : List Int} (hb : Bytes l) (hl : l ≠ []) : validB (firstRune l).1 = true := by
  rcases first_spec hb hl with ⟨h, _⟩ | h
  · exact h
  · rw [h]; exact valid_odd

theorem bytes_drop {l : List Int} (h : Bytes l) (n : Nat) : Bytes (l.drop n) := fun x hx => h x (List.mem_of_mem_drop hx)
theorem decodeN_more : ∀ (n m : Nat) (l : List Int), Bytes l → l.length ≤ n → l.length ≤ m → decodeN n l = decodeN m l
  | 0, 0, _, _, _, _ => rfl
  | 0, m + 1, l, _, h, _ => by
    have : l = [] := List.eq_nil_of_length_eq_zero (by omega)
    simp [decodeN, this]
  | n + 1, 0, l, _, _, h => by
    have : l = [] := List.eq_nil_of_length_eq_zero (by omega)
    simp [decodeN, this]
  | n + 1, m + 1, l, hb, h, h' => by
    unfold decodeN
    split
    · rfl
    · rename_i hl
      have := first_len l
      have hn := List.length_drop (i := (firstRune l).2) (l := l)
      have h0 : 0 < l.length := List.length_pos_iff.2 hl
      rw [decodeN_more n m _ (bytes_drop hb _) (by omega) (by omega)]
theorem decode_nil : decode [] = [] := rfl
theorem decode_cons {l : List Int} (hb : Bytes l) (hl : l ≠ []) : decode l = (firstRune l).1 :: decode (l.drop (firstRune l).2) := by
  have h0 : 0 < l.length := List.length_pos_iff.2 hl
  have h1 := first_len l
  have hn := List.length_drop (i := (firstRune l).2) (l := l)
  obtain ⟨n, hn'⟩ : ∃ n, l.length = n + 1 := ⟨l.length - 1, by omega⟩
  show decodeN l.length l = _
  rw [hn']
  unfold decodeN
  rw [if_neg hl]
  congr 1
  exact decodeN_more _ _ _ (bytes_drop hb _) (by omega) (by omega)

/-- Down from a row of bytes to the rest behind its first rune. -/
theorem bytes_ind {P : List Int → Prop} (h0 : P []) (hs : ∀ l, Bytes l → l ≠ [] → P (l.drop (firstRune l).2) → P l) : ∀ l, Bytes l → P l := by
  have key : ∀ (n : Nat) (l : List Int), l.length ≤ n → Bytes l → P l := by
    intro n
    induction n with
    | zero =>
      intro l hl _
      rw [List.eq_nil_of_length_eq_zero (by omega : l.length = 0)]
      exact h0
    | succ n ih =>
      intro l hl hb
      by_cases he : l = []
      · rw [he]; exact h0
      · refine hs l hb he (ih _ ?_ (bytes_drop hb _))
        have := first_len l
        have hn := List.length_drop (i := (firstRune l).2) (l := l)
        have h0 : 0 < l.length := List.length_pos_iff.2 he
        omega
  exact fun l hb => key l.length l (Nat.le_refl _) hb

theorem decode_valid : ∀ l, Bytes l → ∀ r ∈ decode l, validB r = true :=
  bytes_ind (P := fun l => ∀ r ∈ decode l, validB r = true) (by simp [decode_nil]) fun l hb hl ih r hr => by
    rw [decode_cons hb hl] at hr
    rcases List.mem_cons.1 hr with rfl | h
    · exact first_valid hb hl
    · exact ih r h
theorem decode_length : ∀ l, Bytes l → (decode l).length ≤ l.length ∧ (l ≠ [] → decode l ≠ []) :=
  bytes_ind (P := fun l => (decode l).length ≤ l.length ∧ (l ≠ [] → decode l ≠ [])) (by simp [decode_nil]) fun l hb hl ih => by
    rw [decode_cons hb hl]
    have := first_len l
    have hn := List.length_drop (i := (firstRune l).2) (l := l)
    have h0 : 0 < l.length := List.length_pos_iff.2 hl
    have h1 := ih.1
    refine ⟨?_, fun _ => by simp⟩
    rw [List.length_cons]
    omega

theorem one_valid {r : Int} (h : validB r = true) : one r = enc r := by simp [one, h]
theorem one_bytes (r : Int) : Bytes (one r) := by
  unfold one
  split
  · rename_i h; exact enc_bytes h
  · exact enc_bytes valid_odd
theorem one_len (r : Int) : 1 ≤ (one r).length ∧ (one r).length ≤ 4 := enc_len _
theorem bytes_append {a b : List Int} (ha : Bytes a) (hb : Bytes b) : Bytes (a ++ b) := fun x hx => by
  rcases List.mem_append.1 hx with h | h
  · exact ha x h
  · exact hb x h
theorem encode_bytes (l : List Int) : Bytes (encode l) := fun x hx => by
  obtain ⟨r, _, h⟩ := List.mem_flatMap.1 hx
  exact one_bytes r x h
theorem encode_nil : encode [] = [] := rfl
theorem encode_cons (r : Int) (l : List Int) : encode (r :: l) = one r ++ encode l := by simp [encode]
theorem encode_append (a b : List Int) : encode (a ++ b) = encode a ++ encode b := by simp [encode]
theorem encode_length (l : List Int) : (encode l).length ≤ 4 * l.length := by
  induction l with
  | nil => simp [encode_nil]
  | cons r l ih =>
    have := one_len r
    rw [encode_cons, List.length_append, List.length_cons]
    omega

/-- What is written of runes that may be, whatever stands behind, is read as they were. -/
theorem decode_encode : ∀ (l : List Int) (b : List Int), (∀ r ∈ l, validB r = true) → Bytes b → decode (encode l ++ b) = l ++ decode b
  | [], b, _, _ => by simp [encode_nil]
  | r :: l, b, h, hb => by
    have hr := h r (by simp)
    have e : encode (r :: l) ++ b = enc r ++ (encode l ++ b) := by rw [encode_cons, one_valid hr, List.append_assoc]
    have hB : Bytes (enc r ++ (encode l ++ b)) := bytes_append (enc_bytes hr) (bytes_append (encode_bytes l) hb)
    have hne : enc r ++ (encode l ++ b) ≠ [] := by simp [enc_ne]
    rw [e, decode_cons hB hne, first_enc hr]
    simp only [List.drop_left, List.cons_append]
    rw [decode_encode l b (fun x hx => h x (List.mem_cons_of_mem _ hx)) hb]
theorem decode_encode' {l : List Int} (h : ∀ r ∈ l, validB r = true) : decode (encode l) = l := by
  have := decode_encode l [] h (by simp [Bytes])
  simpa [decode_nil] using this
theorem decode_again {a : List Int} (h : Bytes a) : decode (encode (decode a)) = decode a := decode_encode' (decode_valid a h)
/-- One row behind another one that is right. -/
theorem decode_append {a b : List Int} (ha : Bytes a) (hb : Bytes b) (hr : encode (decode a) = a) : decode (a ++ b) = decode a ++ decode b := by
  have := decode_encode (decode a) b (decode_valid a ha) hb
  rwa [hr] at this
/-- Bytes that are a rune's are read as it: no other number of bytes is. -/
theorem first_of_take {l : List Int} {k : Nat} {r : Int} (h : validB r = true) (e : l.take k = enc r) (hk : k ≤ l.length) : firstRune l = (r, k) := by
  have h1 : l = enc r ++ l.drop k := by rw [← e, List.take_append_drop]
  have h2 := first_enc h (l.drop k)
  rw [← h1] at h2
  rw [h2]
  congr 1
  rw [← e, List.length_take]
  omega
end Go.Proofs.YtaoiogpgncjolaaDoor.Pure

/- What package runes computes of bytes and of rows: its printed functions answer by plain functions. -/
namespace Go.Proofs.YtaoiogpgncjolaaDoor.Pure
open Go.RowKit Go.Proofs.YtaoiogpgncjolaaDoorW.PrintWords Go.Proofs.YtaoiogpgncjolaaDoorW.PrintLast Go.Proofs.YtaoiogpgncjolaaDoorW.PrintMore Go.Proofs.YtaoiogpgncjolaaDoor.X Go.Proofs.YtaoiogpgncjolaaDoor.Hand
set_option linter.unusedSimpArgs false
set_option linter.unusedVariables false

theorem size_eq (a : Int) : runes_size.f a = some (if a < 128 then 1 else if a < 2048 then 2 else if a < 65536 then 3 else 4) := by
  unfold runes_size.f
  repeat' split
  all_goals rfl
theorem i32_and63 {x : Int} (h₀ : 0 ≤ x) (h₁ : x < 2147483648) : Go.bits .and .i32 x 63 = x % 64 := bits_mask .i32 31 (by decide) wraps_i32 6 (by decide) x h₀ h₁
theorem step_one (x : Int) (n : Int) (b : List Int) (i : Nat) (hx : 0 ≤ x) (hx1 : x < 2147483648) (hi : 0 < i) (hib : i < b.length) (hb : b.length ≤ 4) (r : List Int)
    (k : Ev (fun k => runes_one.l0 k (x / 64) n (b.set i (128 + x % 64)) ((i : Int) - 1)) r) : Ev (fun k => runes_one.l0 k x n b (i : Int)) r := by
  refine Ev.step (f := fun k => runes_one.l0 k (x / 64) n (b.set i (128 + x % 64)) ((i : Int) - 1)) (fun k => ?_) k
  simp only [runes_one.l0]
  rw [if_pos (by omega), if_pos (by omega), if_pos (by omega), i32_and63 hx hx1, show (x % 64) % 256 = x % 64 from by omega, u8_or128 (x % 64) (by omega) (by omega), wrap_of (x := (i : Int) - 1) (by omega) (by omega), Int.toNat_natCast]
theorem last_one (x : Int) (n : Int) (b : List Int) (h : Int) (hn : 0 ≤ n) (hb : 0 < b.length) (hv : Go.bits .or .u8 ((shr .i64 3840 n) % 256) (x % 256) = h) : Ev (fun k => runes_one.l0 k x n b 0) (b.set 0 h) := by
  refine Ev.step (f := fun _ => some (b.set 0 h)) (fun k => ?_) (Ev.now _)
  simp only [runes_one.l0]
  rw [if_neg (by omega), if_pos hn, if_pos (by omega), hv]
  rfl
theorem one_j {x : Int} (h : validB x = true) : Ev (fun k => runes_one.j0 k x) (enc x) := by
  have h' := (validB_iff x).1 h
  refine Ev.step (f := fun k => (runes_size.f x).bind fun t => if t = 1 then some [x % 256] else if 0 ≤ t then (if (t : Int).toNat ≤ 281474976710656 then runes_one.l0 k x t (List.replicate (t : Int).toNat 0) (wrap64 (t - 1)) else none) else none) (fun k => by simp only [runes_one.j0]) ?_
  refine ev_bind1 (size_eq x) ?_
  unfold enc
  by_cases h1 : x < 128
  · simp only [h1, if_true]
    refine ev_eq (Ev.now _) ?_
    rw [show x % 256 = x from by omega]
  · by_cases h2 : x < 2048
    · simp only [h1, h2, if_true, if_false]
      refine ev_neg (by omega) (ev_pos (by omega) (ev_pos (by decide) ?_))
      refine Ev.congr (f := fun k => runes_one.l0 k x 2 [0, 0] ((1 : Nat) : Int)) (fun k => by rw [wrap_of (by omega) (by omega)]; rfl) ?_
      refine step_one x 2 [0, 0] 1 (by omega) (by omega) (by omega) (by simp) (by simp) _ ?_
      refine ev_eq (last_one (x / 64) 2 _ (192 + x / 64) (by omega) (by simp) ?_) (by rfl)
      rw [show (shr .i64 3840 2) % 256 = 192 by decide +kernel, show (x / 64) % 256 = x / 64 from by omega]
      exact u8_or192 _ (by omega) (by omega)
    · by_cases h3 : x < 65536
      · simp only [h1, h2, h3, if_true, if_false]
        refine ev_neg (by omega) (ev_pos (by omega) (ev_pos (by decide) ?_))
        refine Ev.congr (f := fun k => runes_one.l0 k x 3 [0, 0, 0] ((2 : Nat) : Int)) (fun k => by rw [wrap_of (by omega) (by omega)]; rfl) ?_
        refine step_one x 3 [0, 0, 0] 2 (by omega) (by omega) (by omega) (by simp) (by simp) _ ?_
        refine step_one (x / 64) 3 _ 1 (by omega) (by omega) (by omega) (by simp) (by simp) _ ?_
        refine ev_eq (last_one (x / 64 / 64) 3 _ (224 + x / 4096) (by omega) (by simp) ?_) (by rfl)
        rw [show (shr .i64 3840 3) % 256 = 224 by decide +kernel, show (x / 64 / 64) % 256 = x / 4096 from by omega]
        exact u8_or224 _ (by omega) (by omega)
      · simp only [h1, h2, h3, if_false]
        refine ev_neg (by omega) (ev_pos (by omega) (ev_pos (by decide) ?_))
        refine Ev.congr (f := fun k => runes_one.l0 k x 4 [0, 0, 0, 0] ((3 : Nat) : Int)) (fun k => by rw [wrap_of (by omega) (by omega)]; rfl) ?_
        refine step_one x 4 [0, 0, 0, 0] 3 (by omega) (by omega) (by omega) (by simp) (by simp) _ ?_
        refine step_one (x / 64) 4 _ 2 (by omega) (by omega) (by omega) (by simp) (by simp) _ ?_
        refine step_one (x / 64 / 64) 4 _ 1 (by omega) (by omega) (by omega) (by simp) (by simp) _ ?_
        refine ev_eq (last_one (x / 64 / 64 / 64) 4 _ (240 + x / 262144) (by omega) (by simp) ?_) ?_
        · rw [show (shr .i64 3840 4) % 256 = 240 by decide +kernel, show (x / 64 / 64 / 64) % 256 = x / 262144 from by omega]
          exact u8_or240 _ (by omega) (by omega)
        · simp
          omega
theorem one_ev (r : Int) : Ev (fun k => runes_one.f k r) (one r) := by
  unfold runes_one.f
  refine ev_bind1 (valid_eq r) (ev_ite (fun h => ?_) (fun h => ?_))
  · exact ev_eq (one_j h) (by simp [one, h])
  · exact ev_eq (one_j valid_odd) (by simp [one, h])

theorem encode_l (l : List Int) : ∀ (d i : Nat) (o : List Int), l.length - i = d → i ≤ l.length → o.length + 4 * (l.length - i) < 140737488355328 → l.length ≤ 9223372036854775807 →
    Ev (fun k => runes_Encode.l0 k o l (l.length : Int) (i : Int)) (o ++ encode (l.drop i)) := by
  intro d
  induction d with
  | zero =>
    intro i o hd hi ho hl
    refine Ev.step (f := fun _ => some o) (fun k => ?_) (ev_eq (Ev.now _) ?_)
    · simp only [runes_Encode.l0]
      rw [if_neg (by omega)]
    · rw [List.drop_eq_nil_of_le (by omega)]
      simp [encode_nil]
  | succ d ih =>
    intro i o hd hi ho hl
    have hlt : i < l.length := by omega
    have h1 := one_len l[i]
    refine Ev.step (f := fun k => (runes_one.f k l[i]).bind fun t => if o.length + t.length < 140737488355328 then runes_Encode.l0 k (o ++ t) l (l.length : Int) ((i + 1 : Nat) : Int) else none) (fun k => ?_) ?_
    · simp only [runes_Encode.l0]
      rw [if_pos (by omega), if_pos (by omega), if_pos (by omega), rd_nat l i hlt, wrap_of (by omega) (by omega)]
      rfl
    · refine Ev.bind (one_ev _) (ev_pos (by omega) (ev_eq (ih (i + 1) _ (by omega) (by omega) (by rw [List.length_append]; omega) hl) ?_))
      rw [List.drop_eq_getElem_cons hlt, encode_cons, List.append_assoc]
theorem encode_ev (l : List Int) (h : 4 * l.length < 140737488355328) : Ev (fun k => runes_Encode.f k l) (encode l) := by
  unfold runes_Encode.f
  exact ev_eq (encode_l l l.length 0 [] (by omega) (by omega) (by simpa using h) (by omega)) (by simp)

/-! ### reading -/
theorem u8_and192 {x : Int} (h0 : 0 ≤ x) (h1 : x ≤ 255) : Go.bits .and .u8 x 192 = 128 ↔ (128 ≤ x ∧ x < 192) := by
  have h : ∀ n : Nat, n < 256 → (Go.bits .and .u8 (n : Int) 192 = 128 ↔ (128 ≤ (n : Int) ∧ (n : Int) < 192)) := by decide +kernel
  obtain ⟨n, rfl⟩ := Int.eq_ofNat_of_zero_le h0
  exact h n (by omega)
theorem u8_and224 {x : Int} (h0 : 0 ≤ x) (h1 : x ≤ 255) : Go.bits .and .u8 x 224 = 192 ↔ (192 ≤ x ∧ x < 224) := by
  have h : ∀ n : Nat, n < 256 → (Go.bits .and .u8 (n : Int) 224 = 192 ↔ (192 ≤ (n : Int) ∧ (n : Int) < 224)) := by decide +kernel
  obtain ⟨n, rfl⟩ := Int.eq_ofNat_of_zero_le h0
  exact h n (by omega)
theorem u8_and240 {x : Int} (h0 : 0 ≤ x) (h1 : x ≤ 255) : Go.bits .and .u8 x 240 = 224 ↔ (224 ≤ x ∧ x < 240) := by
  have h : ∀ n : Nat, n < 256 → (Go.bits .and .u8 (n : Int) 240 = 224 ↔ (224 ≤ (n : Int) ∧ (n : Int) < 240)) := by decide +kernel
  obtain ⟨n, rfl⟩ := Int.eq_ofNat_of_zero_le h0
  exact h n (by omega)
theorem u8_and248 {x : Int} (h0 : 0 ≤ x) (h1 : x ≤ 255) : Go.bits .and .u8 x 248 = 240 ↔ (240 ≤ x ∧ x < 248) := by
  have h : ∀ n : Nat, n < 256 → (Go.bits .and .u8 (n : Int) 248 = 240 ↔ (240 ≤ (n : Int) ∧ (n : Int) < 248)) := by decide +kernel
  obtain ⟨n, rfl⟩ := Int.eq_ofNat_of_zero_le h0
  exact h n (by omega)

/-- The value of the bytes behind the first one; none where one is none of these. -/
def accum : Int → List Int → Option Int
  | x, [] => some x
  | x, d :: t => if cont d = true then accum (x * 64 + (d - 128)) t else none
def told (n : Int) : Option Int → Int × Int
  | some x => if validB x = true ∧ (if x < 128 then (1 : Int) else if x < 2048 then 2 else if x < 65536 then 3 else 4) = n then (x, n) else (65533, 1)
  | none => (65533, 1)

theorem first_l (n : Int) (y : List Int) (hy : Bytes y) (hl : y.length ≤ 3) : ∀ (d i : Nat) (x : Int), y.length - i = d → i ≤ y.length → 0 ≤ x → x < 2 ^ (12 + 6 * i) / 128 →
    Ev (fun k => runes_first.l0 k n x y (y.length : Int) (i : Int)) (told n (accum x (y.drop i))) := by
  intro d
  induction d with
  | zero =>
    intro i x hd hi hx hx1
    refine Ev.step (f := fun _ => (runes_Valid.f x).bind fun t => if t = true then ((runes_size.f x).bind fun t => if t = n then some (x, n) else some (65533, 1)) else some (65533, 1)) (fun k => ?_) ?_
    · simp only [runes_first.l0]
      rw [if_neg (by omega)]
    · rw [List.drop_eq_nil_of_le (by omega)]
      refine ev_one ?_
      rw [valid_eq, Option.bind_some, size_eq, Option.bind_some]
      simp only [accum, told]
      by_cases h1 : validB x = true
      · rw [if_pos h1]
        by_cases h2 : (if x < 128 then (1 : Int) else if x < 2048 then 2 else if x < 65536 then 3 else 4) = n
        · rw [if_pos h2, if_pos ⟨h1, h2⟩]
        · rw [if_neg h2, if_neg (fun h => h2 h.2)]
      · rw [if_neg h1, if_neg (fun h => h1 h.1)]
  | succ d ih =>
    intro i x hd hi hx hx1
    have hlt : i < y.length := by omega
    have hb := hy y[i] (List.getElem_mem _)
    have hx2 : x < 33554432 := by
      have : i ≤ 2 := by omega
      rcases (by omega : i = 0 ∨ i = 1 ∨ i = 2) with rfl | rfl | rfl <;> omega
    have hdrop := List.drop_eq_getElem_cons hlt
    by_cases hc : cont y[i] = true
    · have hc' := (cont_iff _).1 hc
      have e1 : wrap32 (Go.bits .and .u8 y[i] 63) = y[i] - 128 := by
        rw [u8_and63 y[i] (by omega) (by omega), wrap32_of (by omega) (by omega)]
        omega
      have e2 : Go.bits .or .i32 (wrap32 (x * 64)) (wrap32 (Go.bits .and .u8 y[i] 63)) = x * 64 + (y[i] - 128) := by
        rw [e1, wrap32_of (by omega) (by omega)]
        exact i32_or6 (x * 64) (y[i] - 128) (by omega) (by omega) (by omega) (by omega) (by omega)
      refine Ev.step (f := fun k => runes_first.l0 k n (x * 64 + (y[i] - 128)) y (y.length : Int) ((i + 1 : Nat) : Int)) (fun k => ?_) ?_
      · simp only [runes_first.l0]
        rw [if_pos (by omega), if_pos (by omega), if_pos (by omega), rd_nat y i hlt, if_pos ((u8_and192 (by omega) (by omega)).2 hc'), e2, wrap_of (by omega) (by omega)]
        rfl
      · refine ev_eq (ih (i + 1) _ (by omega) (by omega) (by omega) ?_) ?_
        · rcases (by omega : i = 0 ∨ i = 1 ∨ i = 2) with rfl | rfl | rfl <;> omega
        · rw [hdrop]
          simp [accum, hc]
    · have hc' : ¬ (128 ≤ y[i] ∧ y[i] < 192) := fun h => hc ((cont_iff _).2 h)
      refine Ev.step (f := fun _ => some (65533, 1)) (fun k => ?_) (ev_eq (Ev.now _) ?_)
      · simp only [runes_first.l0]
        rw [if_pos (by omega), if_pos (by omega), if_pos (by omega), rd_nat y i hlt, if_neg (fun h => hc' ((u8_and192 (by omega) (by omega)).1 h))]
      · rw [hdrop]
        simp [accum, hc, told]

theorem first_j (l : List Int) (n : Nat) (x : Int) (hb : Bytes l) (hn : 2 ≤ n) (hn4 : n ≤ 4) (hx : 0 ≤ x) (hx1 : x < 32) :
    Ev (fun k => runes_first.j0 k l (n : Int) x) (if l.length < n then (65533, 1) else told n (accum x ((l.take n).drop 1))) := by
  have hj1 : ∀ b : Bool, Ev (fun k => runes_first.j1 k l (n : Int) x b) (if b = true then (65533, 1) else if l.length < n then (65533, 1) else told n (accum x ((l.take n).drop 1))) ∨ (b = false ∧ l.length < n) := by
    intro b
    cases b with
    | true =>
      left
      refine Ev.step (f := fun _ => some (65533, 1)) (fun k => ?_) (ev_eq (Ev.now _) (by simp))
      simp only [runes_first.j1, if_true]
    | false =>
      by_cases hl : l.length < n
      · exact .inr ⟨rfl, hl⟩
      · left
        have hlen : ((l.take n).drop 1).length ≤ 3 := by simp; omega
        refine Ev.step (f := fun k => runes_first.l0 k (n : Int) x ((l.take n).drop 1) (((l.take n).drop 1).length : Int) ((0 : Nat) : Int)) (fun k => ?_) (ev_eq (first_l n _ (fun z hz => hb z (List.mem_of_mem_take (List.mem_of_mem_drop hz))) hlen _ 0 x rfl (by omega) hx (by omega)) ?_)
        · simp only [runes_first.j1]
          rw [if_neg (by simp), if_pos (by omega), if_pos (by omega), Option.bind_some, Int.toNat_natCast]
          rfl
        · simp [hl]
  refine Ev.step (f := fun k => if (n : Int) = 0 then runes_first.j1 k l n x true else runes_first.j1 k l n x (decide ((l.length : Int) < n))) (fun k => by simp only [runes_first.j0]) ?_
  refine ev_neg (by omega) ?_
  by_cases hl : l.length < n
  · rw [decide_eq_true (by omega)]
    rcases hj1 true with h | h
    · exact ev_eq h (by simp [hl])
    · cases h.1
  · rw [decide_eq_false (by omega)]
    rcases hj1 false with h | h
    · exact ev_eq h (by simp [hl])
    · exact absurd h.2 hl
end Go.Proofs.YtaoiogpgncjolaaDoor.Pure

/- What package runes reads of bytes: its printed functions answer by plain functions. -/
namespace Go.Proofs.YtaoiogpgncjolaaDoor.Pure
open Go.RowKit Go.Proofs.YtaoiogpgncjolaaDoorW.PrintWords Go.Proofs.YtaoiogpgncjolaaDoorW.PrintLast Go.Proofs.YtaoiogpgncjolaaDoorW.PrintMore Go.Proofs.YtaoiogpgncjolaaDoor.X Go.Proofs.YtaoiogpgncjolaaDoor.Hand
set_option linter.unusedSimpArgs false
set_option linter.unusedVariables false

theorem size2 {r : Int} (h : r < 2048) : (if r < 128 then (1 : Int) else if r < 2048 then 2 else if r < 65536 then 3 else 4) = 2 ↔ 128 ≤ r := by
  repeat' split
  all_goals omega
theorem size3 {r : Int} (h : r < 65536) : (if r < 128 then (1 : Int) else if r < 2048 then 2 else if r < 65536 then 3 else 4) = 3 ↔ 2048 ≤ r := by
  repeat' split
  all_goals omega
theorem size4 {r : Int} : (if r < 128 then (1 : Int) else if r < 2048 then 2 else if r < 65536 then 3 else 4) = 4 ↔ 65536 ≤ r := by
  repeat' split
  all_goals omega
theorem told2 {x d : Int} (hx : 0 ≤ x) (hx1 : x < 32) : told 2 (accum x [d]) = if cont d = true ∧ 128 ≤ x * 64 + (d - 128) then (x * 64 + (d - 128), 2) else (65533, 1) := by
  simp only [accum]
  by_cases hd : cont d = true
  · have hd' := (cont_iff d).1 hd
    have hv : validB (x * 64 + (d - 128)) = true := (validB_iff _).2 (by omega)
    have hs := size2 (r := x * 64 + (d - 128)) (by omega)
    simp only [hd, if_true, told, hv, true_and, hs]
  · simp [hd, told]
theorem told3 {x d e : Int} (hx : 0 ≤ x) (hx1 : x < 16) : told 3 (accum x [d, e]) = if cont d = true ∧ cont e = true ∧ 2048 ≤ (x * 64 + (d - 128)) * 64 + (e - 128) ∧ validB ((x * 64 + (d - 128)) * 64 + (e - 128)) = true then ((x * 64 + (d - 128)) * 64 + (e - 128), 3) else (65533, 1) := by
  simp only [accum]
  by_cases hd : cont d = true
  · by_cases he : cont e = true
    · have hd' := (cont_iff d).1 hd
      have he' := (cont_iff e).1 he
      have hs := size3 (r := (x * 64 + (d - 128)) * 64 + (e - 128)) (by omega)
      simp only [hd, he, if_true, told, true_and, hs, and_comm]
    · simp [hd, he, told]
  · simp [hd, told]
theorem told4 {x d e f : Int} : told 4 (accum x [d, e, f]) = if cont d = true ∧ cont e = true ∧ cont f = true ∧ 65536 ≤ ((x * 64 + (d - 128)) * 64 + (e - 128)) * 64 + (f - 128) ∧ validB (((x * 64 + (d - 128)) * 64 + (e - 128)) * 64 + (f - 128)) = true
    then (((x * 64 + (d - 128)) * 64 + (e - 128)) * 64 + (f - 128), 4) else (65533, 1) := by
  simp only [accum]
  by_cases hd : cont d = true
  · by_cases he : cont e = true
    · by_cases hf : cont f = true
      · have hs := size4 (r := ((x * 64 + (d - 128)) * 64 + (e - 128)) * 64 + (f - 128))
        simp only [hd, he, hf, if_true, told, true_and, hs, and_comm]
      · simp [hd, he, hf, told]
    · simp [hd, he, told]
  · simp [hd, told]

theorem first_ev {l : List Int} (hb : Bytes l) (hl : l ≠ []) : Ev (fun k => runes_first.f k l) ((firstRune l).1, ((firstRune l).2 : Int)) := by
  obtain ⟨c, t, rfl⟩ := List.exists_cons_of_ne_nil hl
  have hc := hb c (by simp)
  have h0 : rd (c :: t) 0 = c := rfl
  unfold runes_first.f
  refine ev_pos (by simp only [List.length_cons]; omega) ?_
  simp only [h0]
  by_cases h1 : c < 128
  · refine ev_pos h1 (ev_eq (Ev.now _) ?_)
    rw [wrap32_of (by omega) (by omega)]
    simp [firstRune, h1]
  refine ev_neg h1 ?_
  by_cases h2 : 192 ≤ c ∧ c < 224
  · refine ev_pos ((u8_and224 (by omega) (by omega)).2 h2) ?_
    rw [u8_and31 c (by omega) (by omega), wrap32_of (by omega) (by omega)]
    refine ev_eq (first_j (c :: t) 2 (c % 32) hb (by omega) (by omega) (by omega) (by omega)) ?_
    have e : c % 32 = c - 192 := by omega
    rw [e]
    match t with
    | [] => simp [firstRune, h1, h2]
    | d :: t' =>
      rw [if_neg (by simp)]
      show told 2 (accum (c - 192) [d]) = _
      rw [told2 (by omega) (by omega)]
      simp only [firstRune, h1, h2, if_true, if_false, and_self]
      split <;> rfl
  refine ev_neg (fun h => h2 ((u8_and224 (by omega) (by omega)).1 h)) ?_
  by_cases h3 : 224 ≤ c ∧ c < 240
  · refine ev_pos ((u8_and240 (by omega) (by omega)).2 h3) ?_
    rw [u8_and15 c (by omega) (by omega), wrap32_of (by omega) (by omega)]
    refine ev_eq (first_j (c :: t) 3 (c % 16) hb (by omega) (by omega) (by omega) (by omega)) ?_
    have e : c % 16 = c - 224 := by omega
    rw [e]
    match t with
    | [] => simp [firstRune, h1, h2, h3]
    | [d] => simp [firstRune, h1, h2, h3]
    | d :: e :: t' =>
      rw [if_neg (by simp)]
      show told 3 (accum (c - 224) [d, e]) = _
      rw [told3 (by omega) (by omega)]
      simp only [firstRune, h1, h2, h3, if_true, if_false, and_self]
      split <;> rfl
  refine ev_neg (fun h => h3 ((u8_and240 (by omega) (by omega)).1 h)) ?_
  by_cases h4 : 240 ≤ c ∧ c < 248
  · refine ev_pos ((u8_and248 (by omega) (by omega)).2 h4) ?_
    rw [u8_and7 c (by omega) (by omega), wrap32_of (by omega) (by omega)]
    refine ev_eq (first_j (c :: t) 4 (c % 8) hb (by omega) (by omega) (by omega) (by omega)) ?_
    have e : c % 8 = c - 240 := by omega
    rw [e]
    match t with
    | [] => simp [firstRune, h1, h2, h3, h4]
    | [d] => simp [firstRune, h1, h2, h3, h4]
    | [d, e] => simp [firstRune, h1, h2, h3, h4]
    | d :: e :: f :: t' =>
      rw [if_neg (by simp)]
      show told 4 (accum (c - 240) [d, e, f]) = _
      rw [told4]
      simp only [firstRune, h1, h2, h3, h4, if_true, if_false, and_self]
      split <;> rfl
  refine ev_neg (fun h => h4 ((u8_and248 (by omega) (by omega)).1 h)) ?_
  refine Ev.step (f := fun k => runes_first.j1 k (c :: t) 0 0 true) (fun k => by simp only [runes_first.j0, if_true]) ?_
  refine Ev.step (f := fun _ => some (65533, 1)) (fun k => by simp only [runes_first.j1, if_true]) (ev_eq (Ev.now _) ?_)
  simp [firstRune, h1, h2, h3, h4]

theorem decode_l : ∀ x, Bytes x → ∀ o : List Int, o.length + x.length < 35184372088832 → Ev (fun k => runes_Decode.l0 k x o) (o ++ decode x) :=
  bytes_ind (P := fun x => ∀ o : List Int, o.length + x.length < 35184372088832 → Ev (fun k => runes_Decode.l0 k x o) (o ++ decode x))
    (fun o ho => Ev.step (f := fun _ => some o) (fun k => by simp [runes_Decode.l0]) (ev_eq (Ev.now _) (by simp [decode_nil])))
    fun x hb hx ih o ho => by
      have h0 : 0 < x.length := List.length_pos_iff.2 hx
      have h1 := first_fits hb hx
      have h2 := first_len x
      refine Ev.step (f := fun k => (runes_first.f k x).bind fun bt => if o.length < 35184372088832 then (if 0 ≤ bt.2 then (if bt.2 ≤ (x.length : Int) then runes_Decode.l0 k (x.drop (bt.2 : Int).toNat) (o ++ [bt.1]) else none) else none) else none) (fun k => ?_) ?_
      · simp only [runes_Decode.l0]
        rw [if_pos (by omega)]
      · refine Ev.bind (first_ev hb hx) (ev_pos (by omega) (ev_pos (by omega) (ev_pos (by simp only; omega) ?_)))
        simp only [Int.toNat_natCast]
        refine ev_eq (ih (o ++ [(firstRune x).1]) ?_) ?_
        · rw [List.length_append, List.length_drop, List.length_singleton]
          omega
        · rw [decode_cons hb hx, List.append_assoc]
          rfl
theorem decode_ev {l : List Int} (hb : Bytes l) (h : l.length < 35184372088832) : Ev (fun k => runes_Decode.f k l) (decode l) := by
  unfold runes_Decode.f
  exact ev_eq (decode_l l hb [] (by simpa using h)) (by simp)

theorem sum_l (l : List Int) (hl : l.length ≤ 4611686018427387904) : ∀ (d i : Nat) (n : Int), l.length - i = d → i ≤ l.length → 0 ≤ n → n + 2 * (l.length - i) ≤ 9223372036854775807 →
    Ev (fun k => runes_Sum.l0 k n l (l.length : Int) (i : Int)) (n + sum (l.drop i)) := by
  intro d
  induction d with
  | zero =>
    intro i n hd hi h0 hn
    refine Ev.step (f := fun _ => some n) (fun k => ?_) (ev_eq (Ev.now _) ?_)
    · simp only [runes_Sum.l0]
      rw [if_neg (by omega)]
    · rw [List.drop_eq_nil_of_le (by omega), sum_nil]
      omega
  | succ d ih =>
    intro i n hd hi h0 hn
    have hlt : i < l.length := by omega
    have hw := wid_range l[i]
    refine Ev.step (f := fun k => runes_Sum.l0 k (n + wid l[i]) l (l.length : Int) ((i + 1 : Nat) : Int)) (fun k => ?_) (ev_eq (ih (i + 1) (n + wid l[i]) (by omega) (by omega) (by omega) (by omega)) ?_)
    · simp only [runes_Sum.l0]
      rw [if_pos (by omega), if_pos (by omega), if_pos (by omega), rd_nat l i hlt, show runes_Width.f l[i] = some (wid l[i]) from rfl, Option.bind_some, wrap_of (x := n + wid l[i]) (by omega) (by omega), wrap_of (x := (i : Int) + 1) (by omega) (by omega)]
      rfl
    · rw [List.drop_eq_getElem_cons hlt, sum_cons]
      omega
theorem sum_ev (l : List Int) (hl : l.length ≤ 4611686018427387903) : Ev (fun k => runes_Sum.f k l) (sum l) := by
  unfold runes_Sum.f
  exact ev_eq (sum_l l (by omega) l.length 0 0 (by omega) (by omega) (by omega) (by omega)) (by simp)
end Go.Proofs.YtaoiogpgncjolaaDoor.Pure

/- The reference's test of a rune. -/
namespace Go.Proofs.YtaoiogpgncjolaaDoor.Pure
open Go Go.RowKit Go.Proofs.YtaoiogpgncjolaaDoorW.PrintWords Go.Proofs.YtaoiogpgncjolaaDoorW.PrintLast Go.Proofs.YtaoiogpgncjolaaDoorW.PrintMore Go.Proofs.YtaoiogpgncjolaaDoor.X Go.Proofs.YtaoiogpgncjolaaDoor.Hand
set_option linter.unusedSimpArgs false
set_option linter.unusedVariables false
theorem rvalid_eq (a : Int) : flongref02_Valid.f a = some (validB a) := by
  unfold flongref02_Valid.f
  by_cases h1 : a ≥ 0 <;> by_cases h2 : a < 1114112 <;> by_cases h3 : a < 55296 <;> simp only [h1, h2, h3, if_true, if_false] <;> congr 1 <;> (rw [Bool.eq_iff_iff]; simp [validB]; omega)
end Go.Proofs.YtaoiogpgncjolaaDoor.Pure

/- The references of layer 2 that look at one rune. -/
namespace Go.Proofs.YtaoiogpgncjolaaDoor.Pure
open Go.RowKit Go.Proofs.YtaoiogpgncjolaaDoorW.PrintWords Go.Proofs.YtaoiogpgncjolaaDoorW.PrintLast Go.Proofs.YtaoiogpgncjolaaDoorW.PrintMore Go.Proofs.YtaoiogpgncjolaaDoor.X Go.Proofs.YtaoiogpgncjolaaDoor.Hand
set_option linter.unusedSimpArgs false
set_option linter.unusedVariables false
theorem rcontrol_eq (a : Int) : flongref02_Control.f a = some (controlB a) := by
  unfold flongref02_Control.f
  by_cases h1 : a ≥ 0 <;> by_cases h2 : a ≤ 31 <;> by_cases h3 : a ≥ 127 <;> by_cases h4 : a ≤ 159 <;> by_cases h5 : a = 8232 <;> simp only [h1, h2, h3, h4, h5, if_true, if_false] <;> congr 1 <;> (rw [Bool.eq_iff_iff]; simp [controlB]; omega)
theorem rsafe_eq (a : Int) : flongref02_Safe.f a = some (safe a) := by
  unfold flongref02_Safe.f
  rw [rvalid_eq, Option.bind_some]
  by_cases h1 : validB a = true
  · rw [if_pos h1, rcontrol_eq, Option.bind_some]
    cases h2 : controlB a <;> simp [safe, h1, h2]
  · rw [if_neg h1]
    simp [safe, h1]
theorem within_step (r : Int) (ls : List Int) (n : Nat) (hn : ls.length = 2 * n) (hs : n ≤ 1000) (i : Nat) (hlt : i < n) (k : Nat) : flongref02_within.l0 (k + 1) r ls ((2 * i : Nat) : Int) =
    if r ≥ lowAt ls i then (if r ≤ highAt ls i then some true else flongref02_within.l0 k r ls ((2 * (i + 1) : Nat) : Int)) else flongref02_within.l0 k r ls ((2 * (i + 1) : Nat) : Int) := by
  have e0 : rd ls ((2 * i : Nat) : Int) = lowAt ls i := by
    rw [rd_nat ls (2 * i) (by omega)]
    simp [lowAt, List.getD_eq_getElem?_getD, Nat.mul_comm i 2, List.getElem?_eq_getElem (show 2 * i < ls.length by omega)]
  have e1 : rd ls (((2 * i : Nat) : Int) + 1) = highAt ls i := by
    rw [show ((2 * i : Nat) : Int) + 1 = ((2 * i + 1 : Nat) : Int) from by omega, rd_nat ls (2 * i + 1) (by omega)]
    simp [highAt, List.getD_eq_getElem?_getD, Nat.mul_comm i 2, List.getElem?_eq_getElem (show 2 * i + 1 < ls.length by omega)]
  simp only [flongref02_within.l0]
  rw [wrap_of (x := ((2 * i : Nat) : Int) + 1) (by omega) (by omega), wrap_of (x := ((2 * i : Nat) : Int) + 2) (by omega) (by omega), if_pos (by omega), if_pos (by omega), if_pos (by omega), e0, e1, show ((2 * i : Nat) : Int) + 2 = ((2 * (i + 1) : Nat) : Int) from by omega]
  split
  · rw [if_pos (by omega)]
  · rfl
theorem within_end (r : Int) (ls : List Int) (n : Nat) (hn : ls.length = 2 * n) (hs : n ≤ 1000) (k : Nat) : flongref02_within.l0 (k + 1) r ls ((2 * n : Nat) : Int) = some false := by
  simp only [flongref02_within.l0]
  rw [wrap_of (by omega) (by omega), if_neg (by omega)]
theorem part_range (r : Int) (ls : List Int) (n i : Nat) (hlt : i < n) : (∃ j, i ≤ j ∧ j < n ∧ lowAt ls j ≤ r ∧ r ≤ highAt ls j) ↔ (lowAt ls i ≤ r ∧ r ≤ highAt ls i) ∨ ∃ j, i + 1 ≤ j ∧ j < n ∧ lowAt ls j ≤ r ∧ r ≤ highAt ls j := by
  constructor
  · rintro ⟨j, h1, h2, h3⟩
    by_cases e : j = i
    · subst e; exact .inl h3
    · exact .inr ⟨j, by omega, h2, h3⟩
  · rintro (h | ⟨j, h1, h2, h3⟩)
    · exact ⟨i, Nat.le_refl _, hlt, h⟩
    · exact ⟨j, by omega, h2, h3⟩
theorem within_l (r : Int) (ls : List Int) (n : Nat) (hn : ls.length = 2 * n) (hs : n ≤ 1000) : ∀ (d i : Nat), n - i = d → i ≤ n → ∀ b : Bool, (b = true ↔ ∃ j, i ≤ j ∧ j < n ∧ lowAt ls j ≤ r ∧ r ≤ highAt ls j) → Ev (fun k => flongref02_within.l0 k r ls ((2 * i : Nat) : Int)) b := by
  intro d
  induction d with
  | zero =>
    intro i hd hi b hb
    obtain rfl : i = n := by clear hb; omega
    refine Ev.step (f := fun _ => some false) (fun k => within_end r ls i hn hs k) (ev_eq (Ev.now _) ?_)
    cases b with
    | false => rfl
    | true =>
      obtain ⟨j, h1, h2, _⟩ := hb.1 rfl
      exact absurd h2 (Nat.not_lt.2 h1)
  | succ d ih =>
    intro i hd hi b hb
    have hlt : i < n := by clear hb; omega
    have hnext := ih (i + 1) (by clear hb; omega) (by clear hb; omega)
    refine Ev.step (within_step r ls n hn hs i hlt) ?_
    refine ev_ite (fun h => ev_ite (fun h' => ev_eq (Ev.now _) ?_) (fun h' => hnext b ?_)) (fun h => hnext b ?_)
    · exact ((hb.trans (part_range r ls n i hlt)).2 (.inl ⟨h, h'⟩)).symm
    · rw [hb, part_range r ls n i hlt]
      exact ⟨fun z => z.resolve_left (fun q => h' q.2), .inr⟩
    · rw [hb, part_range r ls n i hlt]
      exact ⟨fun z => z.resolve_left (fun q => h q.1), .inr⟩
theorem within_ev (r : Int) (ls : List Int) (n : Nat) (hn : ls.length = 2 * n) (hs : n ≤ 1000) : Ev (fun k => flongref02_within.f k r ls) (inRange ls n r) := by
  unfold flongref02_within.f
  refine within_l r ls n hn hs n 0 (by omega) (by omega) _ ?_
  rw [inRange_true]
  constructor
  · rintro ⟨j, h2, h3⟩; exact ⟨j, Nat.zero_le _, h2, h3⟩
  · rintro ⟨j, _, h2, h3⟩; exact ⟨j, h2, h3⟩
theorem rwidth_ev (r : Int) : Ev (fun k => flongref02_Width.f k r) (wid r) := by
  have hj : ∀ b : Bool, Ev (fun k => flongref02_Width.j0 k r b) (if b = true then 0 else if inRange noneL 12 r = true then 0 else if inRange wideL 16 r = true then 2 else 1) := by
    intro b
    refine Ev.step (f := fun k => if b = true then some 0 else ((flongref02_within.f k r noneL).bind fun t => if t = true then some 0 else ((flongref02_within.f k r wideL).bind fun t => if t = true then some 2 else some 1))) (fun k => by simp only [flongref02_Width.j0, noneL, wideL]) ?_
    refine ev_ite (fun h => ev_eq (Ev.now _) (by simp [h])) (fun h => Ev.bind (within_ev r noneL 12 rfl (by omega)) (ev_ite (fun h1 => ev_eq (Ev.now _) (by simp [h, h1])) (fun h1 => Ev.bind (within_ev r wideL 16 rfl (by omega)) (ev_ite (fun h2 => ev_eq (Ev.now _) (by simp [h, h1, h2])) (fun h2 => ev_eq (Ev.now _) (by simp [h, h1, h2]))))))
  unfold flongref02_Width.f
  refine ev_bind1 (rvalid_eq r) (ev_ite (fun h => ev_bind1 (rcontrol_eq r) (ev_eq (hj _) ?_)) (fun h => ev_eq (hj _) ?_))
  · simp [wid, h]
  · simp [wid, h]
end Go.Proofs.YtaoiogpgncjolaaDoor.Pure

/- The reference's bytes of one rune. -/
namespace Go.Proofs.YtaoiogpgncjolaaDoor.Pure
open Go.RowKit Go.Proofs.YtaoiogpgncjolaaDoorW.PrintWords Go.Proofs.YtaoiogpgncjolaaDoorW.PrintLast Go.Proofs.YtaoiogpgncjolaaDoorW.PrintMore Go.Proofs.YtaoiogpgncjolaaDoor.X Go.Proofs.YtaoiogpgncjolaaDoor.Hand
set_option linter.unusedSimpArgs false
set_option linter.unusedVariables false

theorem rone_j {x : Int} (h : validB x = true) : Ev (fun k => flongref02_One.j0 k x) (enc x) := by
  have h' := (validB_iff x).1 h
  have t64 : Int.tdiv x 64 = x / 64 := Int.tdiv_eq_ediv_of_nonneg (by omega)
  have t4096 : Int.tdiv x 4096 = x / 4096 := Int.tdiv_eq_ediv_of_nonneg (by omega)
  have t26 : Int.tdiv x 262144 = x / 262144 := Int.tdiv_eq_ediv_of_nonneg (by omega)
  have m : ∀ y : Int, 0 ≤ y → Int.tmod y 64 = y % 64 := fun y hy => Int.tmod_eq_emod_of_nonneg hy
  refine Ev.step (f := fun _ => some (enc x)) (fun k => ?_) (Ev.now _)
  simp only [flongref02_One.j0, enc, t64, t4096, t26]
  rw [wrap_of (x := x / 64) (by omega) (by omega), wrap_of (x := x / 4096) (by omega) (by omega), wrap_of (x := x / 262144) (by omega) (by omega), m x (by omega), m (x / 64) (by omega), m (x / 4096) (by omega),
    wrap_of (x := 192 + x / 64) (by omega) (by omega), wrap_of (x := 224 + x / 4096) (by omega) (by omega), wrap_of (x := 240 + x / 262144) (by omega) (by omega), wrap_of (x := 128 + x % 64) (by omega) (by omega), wrap_of (x := 128 + x / 64 % 64) (by omega) (by omega), wrap_of (x := 128 + x / 4096 % 64) (by omega) (by omega)]
  split
  · rw [show x % 256 = x from by omega]
  · split
    · rw [show (192 + x / 64) % 256 = 192 + x / 64 from by omega, show (128 + x % 64) % 256 = 128 + x % 64 from by omega]
    · split
      · rw [show (224 + x / 4096) % 256 = 224 + x / 4096 from by omega, show (128 + x % 64) % 256 = 128 + x % 64 from by omega, show (128 + x / 64 % 64) % 256 = 128 + x / 64 % 64 from by omega]
      · rw [show (240 + x / 262144) % 256 = 240 + x / 262144 from by omega, show (128 + x % 64) % 256 = 128 + x % 64 from by omega, show (128 + x / 64 % 64) % 256 = 128 + x / 64 % 64 from by omega, show (128 + x / 4096 % 64) % 256 = 128 + x / 4096 % 64 from by omega]
theorem rone_ev (r : Int) : Ev (fun k => flongref02_One.f k r) (one r) := by
  unfold flongref02_One.f
  refine ev_bind1 (rvalid_eq r) (ev_ite (fun h => ?_) (fun h => ?_))
  · have h' := (validB_iff r).1 h
    rw [wrap_of (by omega) (by omega)]
    exact ev_eq (rone_j h) (by simp [one, h])
  · exact ev_eq (rone_j valid_odd) (by simp [one, h])
end Go.Proofs.YtaoiogpgncjolaaDoor.Pure

/- The references of layer 2: their printed functions answer by the same plain functions. -/
namespace Go.Proofs.YtaoiogpgncjolaaDoor.Pure
open Go.RowKit Go.Proofs.YtaoiogpgncjolaaDoorW.PrintWords Go.Proofs.YtaoiogpgncjolaaDoorW.PrintLast Go.Proofs.YtaoiogpgncjolaaDoorW.PrintMore Go.Proofs.YtaoiogpgncjolaaDoor.X Go.Proofs.YtaoiogpgncjolaaDoor.Hand
set_option linter.unusedSimpArgs false
set_option linter.unusedVariables false

theorem rencode_l (l : List Int) : ∀ (d i : Nat) (o : List Int), l.length - i = d → i ≤ l.length → o.length + 4 * (l.length - i) < 140737488355328 → l.length ≤ 9223372036854775807 →
    Ev (fun k => flongref02_Encode.l0 k l o (i : Int)) (o ++ encode (l.drop i)) := by
  intro d
  induction d with
  | zero =>
    intro i o hd hi ho hl
    refine Ev.step (f := fun _ => some o) (fun k => ?_) (ev_eq (Ev.now _) ?_)
    · simp only [flongref02_Encode.l0]
      rw [if_neg (by omega)]
    · rw [List.drop_eq_nil_of_le (by omega)]
      simp [encode_nil]
  | succ d ih =>
    intro i o hd hi ho hl
    have hlt : i < l.length := by omega
    have h1 := one_len l[i]
    refine Ev.step (f := fun k => (flongref02_One.f k l[i]).bind fun t => if o.length + t.length < 140737488355328 then flongref02_Encode.l0 k l (o ++ t) ((i + 1 : Nat) : Int) else none) (fun k => ?_) ?_
    · simp only [flongref02_Encode.l0]
      rw [if_pos (by omega), if_pos (by omega), rd_nat l i hlt, wrap_of (by omega) (by omega)]
      rfl
    · refine Ev.bind (rone_ev _) (ev_pos (by omega) (ev_eq (ih (i + 1) _ (by omega) (by omega) (by rw [List.length_append]; omega) hl) ?_))
      rw [List.drop_eq_getElem_cons hlt, encode_cons, List.append_assoc]
theorem rencode_ev (l : List Int) (h : 4 * l.length < 140737488355328) : Ev (fun k => flongref02_Encode.f k l) (encode l) := by
  unfold flongref02_Encode.f
  exact ev_eq (rencode_l l l.length 0 [] (by omega) (by omega) (by simpa using h) (by omega)) (by simp)

/-- Do two rows of numbers hold the same? -/
theorem rsame_l (a b : List Int) (hl : a.length = b.length) (hs : a.length ≤ 9223372036854775807) : ∀ (d i : Nat), a.length - i = d → i ≤ a.length → Ev (fun k => flongref02_Same.l0 k a b (i : Int)) (decide (a.drop i = b.drop i)) := by
  intro d
  induction d with
  | zero =>
    intro i hd hi
    refine Ev.step (f := fun _ => some true) (fun k => ?_) (ev_eq (Ev.now _) ?_)
    · simp only [flongref02_Same.l0]
      rw [if_neg (by omega)]
    · rw [List.drop_eq_nil_of_le (by omega), List.drop_eq_nil_of_le (by omega)]
      simp
  | succ d ih =>
    intro i hd hi
    have h1 : i < a.length := by omega
    have h2 : i < b.length := by omega
    refine Ev.step (f := fun k => if a[i] = b[i] then flongref02_Same.l0 k a b ((i + 1 : Nat) : Int) else some false) (fun k => ?_) ?_
    · simp only [flongref02_Same.l0]
      rw [if_pos (by omega), if_pos (by omega), if_pos (by omega), rd_nat a i h1, rd_nat b i h2, wrap_of (by omega) (by omega)]
      rfl
    · rw [List.drop_eq_getElem_cons h1, List.drop_eq_getElem_cons h2]
      refine ev_ite (fun h => ev_eq (ih (i + 1) (by omega) (by omega)) ?_) (fun h => ev_eq (Ev.now _) ?_)
      · exact decide_eq_decide.2 ⟨fun z => by rw [h, z], fun z => (List.cons.inj z).2⟩
      · exact (decide_eq_false (fun z => h (List.cons.inj z).1)).symm
theorem rsame_ev (a b : List Int) (hs : a.length ≤ 9223372036854775807) : Ev (fun k => flongref02_Same.f k a b) (decide (a = b)) := by
  unfold flongref02_Same.f
  by_cases hl : a.length = b.length
  · exact ev_pos (by omega) (ev_eq (rsame_l a b hl hs a.length 0 (by omega) (by omega)) (by simp))
  · refine ev_neg (by omega) (ev_eq (Ev.now _) ?_)
    have : a ≠ b := fun h => hl (by rw [h])
    simp [this]
theorem rsame_true {a b : List Int} (h : a = b) (hs : a.length ≤ 9223372036854775807) : Ev (fun k => flongref02_Same.f k a b) true := ev_eq (rsame_ev a b hs) (by simp [h])

/-! ### widths -/
end Go.Proofs.YtaoiogpgncjolaaDoor.Pure

/- The reference's reading of bytes, rune by rune as each is written: it is the same plain function. -/
namespace Go.Proofs.YtaoiogpgncjolaaDoor.Pure
open Go.RowKit Go.Proofs.YtaoiogpgncjolaaDoorW.PrintWords Go.Proofs.YtaoiogpgncjolaaDoorW.PrintLast Go.Proofs.YtaoiogpgncjolaaDoorW.PrintMore Go.Proofs.YtaoiogpgncjolaaDoor.X Go.Proofs.YtaoiogpgncjolaaDoor.Hand
set_option linter.unusedSimpArgs false
set_option linter.unusedVariables false

/-- What bytes are worth, as if they were one rune's. -/
def val : List Int → Int
  | [a] => a
  | [a, b] => (a - 192) * 64 + b - 128
  | [a, b, c] => ((a - 224) * 64 + b - 128) * 64 + c - 128
  | [a, b, c, d] => (((a - 240) * 64 + b - 128) * 64 + c - 128) * 64 + d - 128
  | _ => 0
theorem val_enc {r : Int} (h : validB r = true) : val (enc r) = r := by
  have h' := (validB_iff r).1 h
  unfold enc
  split
  · rfl
  · split
    · simp only [val]; omega
    · split
      · simp only [val]; omega
      · simp only [val]; omega

theorem value_step (l : List Int) (i : Nat) (x y r : Int) (hx : -1000000000 ≤ x) (hx1 : x ≤ 1000000000) (hi : l[i]? = some y) (hy : 0 ≤ y) (hy1 : y ≤ 255) (hl : l.length ≤ 4)
    (k : Ev (fun k => flongref02_value.l0 k l (x * 64 + y - 128) ((i + 1 : Nat) : Int)) r) : Ev (fun k => flongref02_value.l0 k l x (i : Int)) r := by
  obtain ⟨hlt, hiy⟩ := List.getElem?_eq_some_iff.1 hi
  refine Ev.step (f := fun k => flongref02_value.l0 k l (x * 64 + y - 128) ((i + 1 : Nat) : Int)) (fun k => ?_) k
  simp only [flongref02_value.l0]
  rw [if_pos (by omega), if_pos (by omega), rd_nat l i hlt, hiy, wrap_of (x := y) (by omega) (by omega), wrap_of (x := x * 64) (by omega) (by omega), wrap_of (x := x * 64 + y) (by omega) (by omega), wrap_of (x := x * 64 + y - 128) (by omega) (by omega), wrap_of (x := (i : Int) + 1) (by omega) (by omega)]
  rfl
theorem value_end (l : List Int) (x : Int) : Ev (fun k => flongref02_value.l0 k l x (l.length : Int)) x := by
  refine Ev.step (f := fun _ => some x) (fun k => ?_) (Ev.now _)
  simp only [flongref02_value.l0]
  rw [if_neg (by omega)]
theorem value_j (l : List Int) (x r : Int) (k : Ev (fun k => flongref02_value.l0 k l x ((1 : Nat) : Int)) r) : Ev (fun k => flongref02_value.j0 k l x) r :=
  Ev.step (f := fun k => flongref02_value.l0 k l x ((1 : Nat) : Int)) (fun k => by simp only [flongref02_value.j0]; rfl) k
theorem value_ev (l : List Int) (hb : Bytes l) (h1 : l ≠ []) (hl : l.length ≤ 4) : Ev (fun k => flongref02_value.f k l) (val l) := by
  have hpos : 0 < l.length := List.length_pos_iff.2 h1
  match l, hb, hpos, hl with
  | [a], hb, _, _ =>
    have ha := hb a (by simp)
    unfold flongref02_value.f
    refine ev_pos (by simp) (ev_neg (by simp) (ev_neg (by simp) (ev_neg (by simp) ?_)))
    rw [show rd [a] 0 = a from rfl, wrap_of (x := a) (by omega) (by omega)]
    exact value_j _ _ _ (value_end [a] a)
  | [a, b], hb, _, _ =>
    have ha := hb a (by simp)
    have hb' := hb b (by simp)
    unfold flongref02_value.f
    refine ev_pos (by simp) (ev_pos (by simp) ?_)
    rw [show rd [a, b] 0 = a from rfl, wrap_of (x := a) (by omega) (by omega), wrap_of (by omega) (by omega)]
    exact value_j _ _ _ (value_step _ 1 _ b _ (by omega) (by omega) rfl hb'.1 hb'.2 (by simp) (value_end [a, b] _))
  | [a, b, c], hb, _, _ =>
    have ha := hb a (by simp)
    have hb' := hb b (by simp)
    have hc := hb c (by simp)
    unfold flongref02_value.f
    refine ev_pos (by simp) (ev_neg (by simp) (ev_pos (by simp) ?_))
    rw [show rd [a, b, c] 0 = a from rfl, wrap_of (x := a) (by omega) (by omega), wrap_of (by omega) (by omega)]
    exact value_j _ _ _ (value_step _ 1 _ b _ (by omega) (by omega) rfl hb'.1 hb'.2 (by simp) (value_step _ 2 _ c _ (by omega) (by omega) rfl hc.1 hc.2 (by simp) (value_end [a, b, c] _)))
  | [a, b, c, d], hb, _, _ =>
    have ha := hb a (by simp)
    have hb' := hb b (by simp)
    have hc := hb c (by simp)
    have hd := hb d (by simp)
    unfold flongref02_value.f
    refine ev_pos (by simp) (ev_neg (by simp) (ev_neg (by simp) (ev_pos (by simp) ?_)))
    rw [show rd [a, b, c, d] 0 = a from rfl, wrap_of (x := a) (by omega) (by omega), wrap_of (by omega) (by omega)]
    exact value_j _ _ _ (value_step _ 1 _ b _ (by omega) (by omega) rfl hb'.1 hb'.2 (by simp) (value_step _ 2 _ c _ (by omega) (by omega) rfl hc.1 hc.2 (by simp) (value_step _ 3 _ d _ (by omega) (by omega) rfl hd.1 hd.2 (by simp) (value_end [a, b, c, d] _))))

/-- Bytes as a text: two are one just if the numbers are. -/
theorem str_eq {a b : List Int} (ha : Bytes a) (hb : Bytes b) : ((strOfNums a).toList == (strOfNums b).toList) = decide (a = b) := by
  have key : (strOfNums a).toList = (strOfNums b).toList ↔ a = b := by
    rw [ByteArray.toList_eq, ByteArray.toList_eq, strOfNums_data, strOfNums_data]
    constructor
    · intro h
      have h2 := congrArg (List.map fun u : UInt8 => (u.toNat : Int)) h
      rw [List.map_map, List.map_map] at h2
      have e : ∀ l : List Int, Bytes l → l.map ((fun u : UInt8 => (u.toNat : Int)) ∘ fun n => UInt8.ofNat n.toNat) = l := by
        intro l hl
        conv => rhs; rw [← List.map_id l]
        refine List.map_congr_left fun x hx => ?_
        have := hl x hx
        simp
        omega
      rwa [e a ha, e b hb] at h2
    · rintro rfl; rfl
  rw [Bool.eq_iff_iff, beq_iff_eq, decide_eq_true_iff]
  exact key
theorem bytes_take {l : List Int} (h : Bytes l) (n : Nat) : Bytes (l.take n) := fun x hx => h x (List.mem_of_mem_take hx)

theorem val_range (l : List Int) (hb : Bytes l) : -1000000000 ≤ val l ∧ val l ≤ 1000000000 := by
  match l, hb with
  | [], _ => simp [val]
  | [a], hb =>
    have ha := hb a (by simp)
    simp only [val]; omega
  | [a, b], hb =>
    have ha := hb a (by simp)
    have hb' := hb b (by simp)
    simp only [val]; omega
  | [a, b, c], hb =>
    have ha := hb a (by simp)
    have hb' := hb b (by simp)
    have hc := hb c (by simp)
    simp only [val]; omega
  | [a, b, c, d], hb =>
    have ha := hb a (by simp)
    have hb' := hb b (by simp)
    have hc := hb c (by simp)
    have hd := hb d (by simp)
    simp only [val]; omega
  | _ :: _ :: _ :: _ :: _ :: _, _ => simp [val]

/-- Are bytes just one rune's? -/
theorem is_ev (l : List Int) (hb : Bytes l) (h1 : l ≠ []) (hl : l.length ≤ 4) : Ev (fun k => flongref02_is.f k l) (decide (validB (val l) = true ∧ enc (val l) = l)) := by
  have hv := val_range l hb
  unfold flongref02_is.f
  refine Ev.bind (value_ev l hb h1 hl) ?_
  by_cases h : validB (val l) = true
  · have h' := (validB_iff _).1 h
    refine ev_neg (by omega) (ev_neg (by omega) ?_)
    rw [wrap32_of (by omega) (by omega)]
    refine ev_bind1 (rvalid_eq _) (ev_pos h (Ev.bind (rone_ev _) (ev_eq (Ev.now _) ?_)))
    rw [one_valid h, str_eq (enc_bytes h) hb]
    simp [h]
  · have hf : decide (validB (val l) = true ∧ enc (val l) = l) = false := by simp [h]
    rw [hf]
    refine ev_ite (fun _ => Ev.now _) (fun h2 => ev_ite (fun _ => Ev.now _) (fun h3 => ?_))
    rw [wrap32_of (by omega) (by omega)]
    exact ev_bind1 (rvalid_eq _) (ev_neg h (Ev.now _))

/-- The number of bytes that the reference finds: that of the first rune, 0 where there is none. -/
theorem is_at {l : List Int} (hb : Bytes l) (hl : l ≠ []) (m : Nat) (hm : 1 ≤ m) (hm2 : m ≤ l.length) (hm4 : m ≤ 4) :
    (validB (val (l.take m)) = true ∧ enc (val (l.take m)) = l.take m) ↔ (firstRune l).2 = m ∧ l.take m = enc (firstRune l).1 ∧ validB (firstRune l).1 = true := by
  constructor
  · rintro ⟨h1, h2⟩
    have := first_of_take h1 h2.symm hm2
    rw [this]
    exact ⟨rfl, h2.symm, h1⟩
  · rintro ⟨h1, h2, h3⟩
    rw [h2, val_enc h3]
    exact ⟨h3, rfl⟩

/-- The rest of the round: the number of bytes is found, or there is none. -/
theorem rdecode_out (x o : List Int) (i n : Nat) (m : Int) (r : List Int) (hb : Bytes x) (hi : i < x.length) (hx : x.length ≤ 1000000000) (ho : o.length < 35184372088832)
    (hn : (n = 0 ∧ (firstRune (x.drop i)) = (65533, 1)) ∨ (n = (firstRune (x.drop i)).2 ∧ (x.drop i).take n = enc (firstRune (x.drop i)).1 ∧ validB (firstRune (x.drop i)).1 = true))
    (h : Ev (fun k => flongref02_Decode.l0 k x (o ++ [(firstRune (x.drop i)).1]) ((i + (firstRune (x.drop i)).2 : Nat) : Int)) r) : Ev (fun k => flongref02_Decode.j2 k x o (i : Int) (n : Int) m false) r := by
  have hbd := bytes_drop hb i
  have hne : x.drop i ≠ [] := by
    intro e
    have := congrArg List.length e
    rw [List.length_drop] at this
    simp at this
    omega
  have hfit := first_fits hbd hne
  have h14 := first_len (x.drop i)
  rw [List.length_drop] at hfit
  rcases hn with ⟨rfl, h1⟩ | ⟨h0, h1, h2⟩
  · rw [h1] at h
    refine Ev.step (f := fun k => flongref02_Decode.l0 k x (o ++ [65533]) ((i + 1 : Nat) : Int)) (fun k => ?_) h
    simp only [flongref02_Decode.j2]
    rw [if_neg (by simp), if_pos (by omega), if_pos ho, wrap_of (by omega) (by omega)]
    rfl
  · have h2' := (validB_iff _).1 h2
    have hcut : (x.take (i + n)).drop i = (x.drop i).take n := by rw [List.drop_take, Nat.add_sub_cancel_left]
    have hv : val ((x.drop i).take n) = (firstRune (x.drop i)).1 := by rw [h1, val_enc h2]
    have hlen : ((x.drop i).take n).length = n := by rw [List.length_take, List.length_drop]; omega
    refine Ev.step (f := fun k => (flongref02_value.f k ((x.drop i).take n)).bind fun t => if o.length < 35184372088832 then flongref02_Decode.l0 k x (o ++ [wrap32 t]) ((i + n : Nat) : Int) else none) (fun k => ?_) ?_
    · simp only [flongref02_Decode.j2]
      rw [if_neg (by simp), if_neg (by omega), wrap_of (x := (i : Int) + (n : Int)) (by omega) (by omega), if_pos (by omega), if_pos (by omega), if_pos (by omega), show ((i : Int) + (n : Int)).toNat = i + n from by omega, Int.toNat_natCast, hcut]
      rfl
    · refine Ev.bind (value_ev _ (bytes_take hbd _) (fun e => by rw [e] at hlen; simp at hlen; omega) (by omega)) (ev_pos ho ?_)
      rw [hv, wrap32_of (by omega) (by omega), h0]
      exact h

theorem rdecode_round (x o : List Int) (i : Nat) (r : List Int) (hb : Bytes x) (hi : i < x.length) (hx : x.length ≤ 1000000000) (ho : o.length < 35184372088832)
    (h : Ev (fun k => flongref02_Decode.l0 k x (o ++ [(firstRune (x.drop i)).1]) ((i + (firstRune (x.drop i)).2 : Nat) : Int)) r) :
    ∀ (d m : Nat), 5 - m = d → 1 ≤ m → m ≤ 5 → (∀ q, 1 ≤ q → q < m → ¬ ((firstRune (x.drop i)).2 = q ∧ (x.drop i).take q = enc (firstRune (x.drop i)).1 ∧ validB (firstRune (x.drop i)).1 = true)) →
      Ev (fun k => flongref02_Decode.l1 k x o (i : Int) 0 (m : Int)) r := by
  have hbd := bytes_drop hb i
  have hne : x.drop i ≠ [] := by
    intro e
    have := congrArg List.length e
    rw [List.length_drop] at this
    simp at this
    omega
  have hfit := first_fits hbd hne
  have h14 := first_len (x.drop i)
  rw [List.length_drop] at hfit
  have hout0 : ∀ m : Nat, (∀ q, 1 ≤ q → q < m → ¬ ((firstRune (x.drop i)).2 = q ∧ (x.drop i).take q = enc (firstRune (x.drop i)).1 ∧ validB (firstRune (x.drop i)).1 = true)) → (4 < m ∨ x.length < i + m) →
      Ev (fun k => flongref02_Decode.j2 k x o (i : Int) ((0 : Nat) : Int) (m : Int) false) r := by
    intro m hno hend
    refine rdecode_out x o i 0 m r hb hi hx ho (.inl ⟨rfl, ?_⟩) h
    rcases first_spec hbd hne with ⟨h1, h2, h3⟩ | h1
    · exact absurd ⟨rfl, h3, h1⟩ (hno _ h14.1 (by omega))
    · exact h1
  intro d
  induction d with
  | zero =>
    intro m hd h1 h5 hno
    obtain rfl : m = 5 := by omega
    refine Ev.step (f := fun k => flongref02_Decode.j2 k x o (i : Int) ((0 : Nat) : Int) ((5 : Nat) : Int) false) (fun k => ?_) (hout0 5 hno (.inl (by omega)))
    simp only [flongref02_Decode.l1]
    rw [if_neg (by omega)]
    rfl
  | succ d ih =>
    intro m hd h1 h5 hno
    by_cases hfitm : i + m ≤ x.length
    · have hcut : (x.take (i + m)).drop i = (x.drop i).take m := by rw [List.drop_take, Nat.add_sub_cancel_left]
      have hlen : ((x.drop i).take m).length = m := by rw [List.length_take, List.length_drop]; omega
      refine Ev.step (f := fun k => flongref02_Decode.j2 k x o (i : Int) 0 (m : Int) true) (fun k => ?_) ?_
      · simp only [flongref02_Decode.l1]
        rw [if_pos (by omega), wrap_of (by omega) (by omega), if_pos (by omega)]
        rfl
      · refine Ev.step (f := fun k => (flongref02_is.f k ((x.drop i).take m)).bind fun t => if t = true then flongref02_Decode.l1 k x o (i : Int) (m : Int) ((m + 1 : Nat) : Int) else flongref02_Decode.l1 k x o (i : Int) 0 ((m + 1 : Nat) : Int)) (fun k => ?_) ?_
        · simp only [flongref02_Decode.j2, if_true]
          rw [wrap_of (x := (i : Int) + (m : Int)) (by omega) (by omega), if_pos (by omega), if_pos (by omega), if_pos (by omega), show ((i : Int) + (m : Int)).toNat = i + m from by omega, Int.toNat_natCast, hcut, wrap_of (x := (m : Int) + 1) (by omega) (by omega)]
          rfl
        · refine Ev.bind (is_ev _ (bytes_take hbd _) (fun e => by rw [e] at hlen; simp at hlen; omega) (by omega)) ?_
          have hat := is_at hbd hne m h1 (by rw [List.length_drop]; omega) (by omega)
          by_cases hq : (firstRune (x.drop i)).2 = m ∧ (x.drop i).take m = enc (firstRune (x.drop i)).1 ∧ validB (firstRune (x.drop i)).1 = true
          · refine ev_pos (decide_eq_true (hat.2 hq)) ?_
            refine Ev.step (f := fun k => flongref02_Decode.j2 k x o (i : Int) (m : Int) ((m + 1 : Nat) : Int) false) (fun k => ?_) (rdecode_out x o i m _ r hb hi hx ho (.inr ⟨hq.1.symm, hq.2⟩) h)
            simp only [flongref02_Decode.l1]
            have hm0 : ((m : Int) == 0) = false := by simp; omega
            rw [hm0]
            split
            · split <;> rfl
            · rfl
          · refine ev_neg (by rw [decide_eq_false (fun z => hq (hat.1 z))]; simp) (ih (m + 1) (by omega) (by omega) (by omega) ?_)
            intro q hq1 hq2
            by_cases e : q = m
            · subst e; exact hq
            · exact hno q hq1 (by omega)
    · refine Ev.step (f := fun k => flongref02_Decode.j2 k x o (i : Int) ((0 : Nat) : Int) (m : Int) false) (fun k => ?_) (hout0 m hno (.inr (by omega)))
      simp only [flongref02_Decode.l1]
      rw [if_pos (by omega), wrap_of (by omega) (by omega), if_neg (by omega)]
      rfl

theorem rdecode_l (x : List Int) (hb : Bytes x) (hx : x.length ≤ 1000000000) : ∀ (d i : Nat) (o : List Int), x.length - i ≤ d → i ≤ x.length → o.length + x.length < 35184372088832 + i → Ev (fun k => flongref02_Decode.l0 k x o (i : Int)) (o ++ decode (x.drop i)) := by
  intro d
  induction d with
  | zero =>
    intro i o hd hi ho
    refine Ev.step (f := fun _ => some o) (fun k => ?_) (ev_eq (Ev.now _) ?_)
    · simp only [flongref02_Decode.l0]
      rw [if_neg (by omega)]
    · rw [List.drop_eq_nil_of_le (by omega)]
      simp [decode_nil]
  | succ d ih =>
    intro i o hd hi ho
    by_cases hlt : i < x.length
    · have hbd := bytes_drop hb i
      have hne : x.drop i ≠ [] := by
        intro e
        have := congrArg List.length e
        rw [List.length_drop] at this
        simp at this
        omega
      have hfit := first_fits hbd hne
      have h14 := first_len (x.drop i)
      rw [List.length_drop] at hfit
      refine Ev.step (f := fun k => flongref02_Decode.l1 k x o (i : Int) 0 ((1 : Nat) : Int)) (fun k => ?_) ?_
      · simp only [flongref02_Decode.l0]
        rw [if_pos (by omega)]
        rfl
      · refine rdecode_round x o i _ hb hlt hx (by omega) (ev_eq (ih (i + (firstRune (x.drop i)).2) (o ++ [(firstRune (x.drop i)).1]) (by omega) (by omega) (by rw [List.length_append, List.length_singleton]; omega)) ?_) 4 1 (by omega) (by omega) (by omega) (fun q h1 h2 => by omega)
        rw [decode_cons hbd hne, List.drop_drop, List.append_assoc]
        rfl
    · refine Ev.step (f := fun _ => some o) (fun k => ?_) (ev_eq (Ev.now _) ?_)
      · simp only [flongref02_Decode.l0]
        rw [if_neg (by omega)]
      · rw [List.drop_eq_nil_of_le (by omega)]
        simp [decode_nil]
theorem rdecode_ev {l : List Int} (hb : Bytes l) (h : l.length ≤ 1000000000) : Ev (fun k => flongref02_Decode.f k l) (decode l) := by
  unfold flongref02_Decode.f
  exact ev_eq (rdecode_l l hb h l.length 0 [] (by omega) (by omega) (by simp; omega)) (by simp)
end Go.Proofs.YtaoiogpgncjolaaDoor.Pure

/- Were all runes there: what was read, written again, is what was read. -/
namespace Go.Proofs.YtaoiogpgncjolaaDoor.Pure
open Go.RowKit Go.Proofs.YtaoiogpgncjolaaDoorW.PrintWords Go.Proofs.YtaoiogpgncjolaaDoorW.PrintLast Go.Proofs.YtaoiogpgncjolaaDoor.X Go.Proofs.YtaoiogpgncjolaaDoor.Hand
theorem right_ev {l : List Int} (hb : Bytes l) (h : l.length ≤ 1000000000) : Ev (fun k => runes_Right.f k l) (decide (encode (decode l) = l)) := by
  have hl := (decode_length l hb).1
  unfold runes_Right.f
  exact Ev.bind (decode_ev hb (by omega)) (Ev.bind (encode_ev _ (by omega)) (ev_eq (Ev.now _) (str_eq (encode_bytes _) hb)))
theorem bsame_eq {a b : List Int} (ha : Bytes a) (hb : Bytes b) : flongref00_Same.f a b = some (decide (a = b)) := by
  unfold flongref00_Same.f
  rw [str_eq ha hb]
end Go.Proofs.YtaoiogpgncjolaaDoor.Pure
