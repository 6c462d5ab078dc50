/- Runes and their bytes, as plain functions over whole numbers: what is written is read, and only what was written is read as anything. -/
import Derived.Test.YtaoiogpgncjolaaDoorHand02b
namespace Go.Proofs.YtaoiogpgncjolaaDoor.Pure
open Go.Proofs.YtaoiogpgncjolaaDoor.Hand
set_option linter.unusedVariables false
set_option linter.unusedSimpArgs false

/-- The bytes of a rune that may be. -/
def enc (r : Int) : List Int :=
  if r < 128 then [r] else if r < 2048 then [192 + r / 64, 128 + r % 64] else if r < 65536 then [224 + r / 4096, 128 + r / 64 % 64, 128 + r % 64]
  else [240 + r / 262144, 128 + r / 4096 % 64, 128 + r / 64 % 64, 128 + r % 64]
/-- The bytes of any rune. -/
def one (r : Int) : List Int := enc (if validB r = true then r else 65533)
def encode (l : List Int) : List Int := l.flatMap one
def cont (d : Int) : Bool := decide (128 ≤ d) && decide (d < 192)
/-- The first rune, and how many bytes it has; 1 of one that is none. -/
def firstRune : List Int → Int × Nat
  | [] => (65533, 1)
  | c :: t =>
    if c < 128 then (c, 1)
    else if 192 ≤ c ∧ c < 224 then
      match t with
      | d :: _ => if cont d = true ∧ 128 ≤ (c - 192) * 64 + (d - 128) then ((c - 192) * 64 + (d - 128), 2) else (65533, 1)
      | _ => (65533, 1)
    else if 224 ≤ c ∧ c < 240 then
      match t with
      | d :: e :: _ => if cont d = true ∧ cont e = true ∧ 2048 ≤ ((c - 224) * 64 + (d - 128)) * 64 + (e - 128) ∧ validB (((c - 224) * 64 + (d - 128)) * 64 + (e - 128)) = true then (((c - 224) * 64 + (d - 128)) * 64 + (e - 128), 3) else (65533, 1)
      | _ => (65533, 1)
    else if 240 ≤ c ∧ c < 248 then
      match t with
      | d :: e :: f :: _ => if cont d = true ∧ cont e = true ∧ cont f = true ∧ 65536 ≤ (((c - 240) * 64 + (d - 128)) * 64 + (e - 128)) * 64 + (f - 128) ∧ validB ((((c - 240) * 64 + (d - 128)) * 64 + (e - 128)) * 64 + (f - 128)) = true
          then ((((c - 240) * 64 + (d - 128)) * 64 + (e - 128)) * 64 + (f - 128), 4) else (65533, 1)
      | _ => (65533, 1)
    else (65533, 1)
def decodeN : Nat → List Int → List Int
  | 0, _ => []
  | n + 1, l => if l = [] then [] else (firstRune l).1 :: decodeN n (l.drop (firstRune l).2)
def decode (l : List Int) : List Int := decodeN l.length l
/-- All of them bytes. -/
def Bytes (l : List Int) : Prop := ∀ x ∈ l, 0 ≤ x ∧ x ≤ 255

theorem validB_iff' (a : Int) : validB a = true ↔ 0 ≤ a ∧ a ≤ 1114111 ∧ (a < 55296 ∨ 57343 < a) := by
  simp [validB]
theorem cont_iff (d : Int) : cont d = true ↔ 128 ≤ d ∧ d < 192 := by simp [cont]

theorem first_enc {r : Int} (h : validB r = true) (t : List Int) : firstRune (enc r ++ t) = (r, (enc r).length) := by
  have h' := (validB_iff' r).1 h
  unfold enc
  split
  · simp [firstRune, *]
  · split
    · have e : (192 + r / 64 - 192) * 64 + (128 + r % 64 - 128) = r := by omega
      simp only [firstRune, List.cons_append, List.nil_append, List.length_cons, List.length_nil]
      rw [if_neg (by omega), if_pos (by omega), e, if_pos ⟨(cont_iff _).2 (by omega), by omega⟩]
    · split
      · have e : ((224 + r / 4096 - 224) * 64 + (128 + r / 64 % 64 - 128)) * 64 + (128 + r % 64 - 128) = r := by omega
        simp only [firstRune, List.cons_append, List.nil_append, List.length_cons, List.length_nil]
        rw [if_neg (by omega), if_neg (by omega), if_pos (by omega), e, if_pos ⟨(cont_iff _).2 (by omega), (cont_iff _).2 (by omega), by omega, h⟩]
      · have e : (((240 + r / 262144 - 240) * 64 + (128 + r / 4096 % 64 - 128)) * 64 + (128 + r / 64 % 64 - 128)) * 64 + (128 + r % 64 - 128) = r := by omega
        simp only [firstRune, List.cons_append, List.nil_append, List.length_cons, List.length_nil]
        rw [if_neg (by omega), if_neg (by omega), if_neg (by omega), if_pos (by omega), e, if_pos ⟨(cont_iff _).2 (by omega), (cont_iff _).2 (by omega), (cont_iff _).2 (by omega), by omega, h⟩]

theorem valid_odd : validB 65533 = true := by decide +kernel
theorem enc_len (r : Int) : 1 ≤ (enc r).length ∧ (enc r).length ≤ 4 := by
  unfold enc
  split
  · simp
  · split
    · simp
    · split <;> simp
theorem enc_bytes {r : Int} (h : validB r = true) : Bytes (enc r) := by
  have h' := (validB_iff' r).1 h
  unfold enc Bytes
  split
  · simp; omega
  · split
    · simp; omega
    · split <;> (simp; omega)
theorem enc_ne (r : Int) : enc r ≠ [] := fun h => by have := enc_len r; rw [h] at this; simp at this

/-- What is told first: a rune's bytes stand there, or it is told for what is none, one byte. -/
theorem first_spec {l : List Int} (hb : Bytes l) (hl : l ≠ []) : (validB (firstRune l).1 = true ∧ (firstRune l).2 = (enc (firstRune l).1).length ∧ l.take (firstRune l).2 = enc (firstRune l).1) ∨ firstRune l = (65533, 1) := by
  match l, hl with
  | c :: t, _ =>
    have hc := hb c (by simp)
    simp only [firstRune]
    split
    · left
      refine ⟨(validB_iff' _).2 (by simp; omega), ?_⟩
      simp [enc, *]
    · split
      · rename_i h1 h2
        match t with
        | d :: t' =>
          simp only
          split
          · rename_i h3
            have hd := (cont_iff d).1 h3.1
            left
            refine ⟨(validB_iff' _).2 (by simp; omega), ?_⟩
            simp only [enc]
            rw [if_neg (by omega), if_pos (by omega)]
            refine ⟨rfl, ?_⟩
            simp
            omega
          · exact .inr rfl
        | [] => exact .inr rfl
      · split
        · rename_i h1 h2 h3
          match t with
          | d :: e :: t' =>
            simp only
            split
            · rename_i h4
              have hd := (cont_iff d).1 h4.1
              have he := (cont_iff e).1 h4.2.1
              have h5 := h4.2.2.1
              left
              refine ⟨h4.2.2.2, ?_⟩
              simp only [enc]
              rw [if_neg (by omega), if_neg (by omega), if_pos (by omega)]
              refine ⟨rfl, ?_⟩
              simp
              omega
            · exact .inr rfl
          | [d] => exact .inr rfl
          | [] => exact .inr rfl
        · split
          · rename_i h1 h2 h3 h4
            match t with
            | d :: e :: f :: t' =>
              simp only
              split
              · rename_i h5
                have hd := (cont_iff d).1 h5.1
                have he := (cont_iff e).1 h5.2.1
                have hf := (cont_iff f).1 h5.2.2.1
                have h6 := h5.2.2.2.1
                left
                refine ⟨h5.2.2.2.2, ?_⟩
                simp only [enc]
                rw [if_neg (by omega), if_neg (by omega), if_neg (by omega)]
                refine ⟨rfl, ?_⟩
                simp
                omega
              · exact .inr rfl
            | [d, e] => exact .inr rfl
            | [d] => exact .inr rfl
            | [] => exact .inr rfl
          · exact .inr rfl

theorem first_len (l : List Int) : 1 ≤ (firstRune l).2 ∧ (firstRune l).2 ≤ 4 := by
  unfold firstRune
  repeat' split
  all_goals simp
theorem first_fits {l : List Int} (hb : Bytes l) (hl : l ≠ []) : (firstRune l).2 ≤ l.length := by
  rcases first_spec hb hl with ⟨_, h2, h3⟩ | h
  · have := congrArg List.length h3
    rw [List.length_take] at this
    omega
  · rw [h]
    cases l
    · exact absurd rfl hl
    · simp
theorem first_valid {l : List Int} (hb : Bytes l) (hl : l ≠ []) : validB (firstRune l).1 = true := by
  rcases first_spec hb hl with ⟨h, _⟩ | h
  · exact h
  · rw [h]; exact valid_odd

theorem bytes_drop {l : List Int} (h : Bytes l) (n : Nat) : Bytes (l.drop n) := fun x hx => h x (List.mem_of_mem_drop hx)
theorem decodeN_more : ∀ (n m : Nat) (l : List Int), Bytes l → l.length ≤ n → l.length ≤ m → decodeN n l = decodeN m l
  | 0, 0, _, _, _, _ => rfl
  | 0, m + 1, l, _, h, _ => by
    have : l = [] := List.eq_nil_of_length_eq_zero (by omega)
    simp [decodeN, this]
  | n + 1, 0, l, _, _, h => by
    have : l = [] := List.eq_nil_of_length_eq_zero (by omega)
    simp [decodeN, this]
  | n + 1, m + 1, l, hb, h, h' => by
    unfold decodeN
    split
    · rfl
    · rename_i hl
      have := first_len l
      have hn := List.length_drop (i := (firstRune l).2) (l := l)
      have h0 : 0 < l.length := List.length_pos_iff.2 hl
      rw [decodeN_more n m _ (bytes_drop hb _) (by omega) (by omega)]
theorem decode_nil : decode [] = [] := rfl
theorem decode_cons {l : List Int} (hb : Bytes l) (hl : l ≠ []) : decode l = (firstRune l).1 :: decode (l.drop (firstRune l).2) := by
  have h0 : 0 < l.length := List.length_pos_iff.2 hl
  have h1 := first_len l
  have hn := List.length_drop (i := (firstRune l).2) (l := l)
  obtain ⟨n, hn'⟩ : ∃ n, l.length = n + 1 := ⟨l.length - 1, by omega⟩
  show decodeN l.length l = _
  rw [hn']
  unfold decodeN
  rw [if_neg hl]
  congr 1
  exact decodeN_more _ _ _ (bytes_drop hb _) (by omega) (by omega)

/-- Down from a row of bytes to the rest behind its first rune. -/
theorem bytes_ind {P : List Int → Prop} (h0 : P []) (hs : ∀ l, Bytes l → l ≠ [] → P (l.drop (firstRune l).2) → P l) : ∀ l, Bytes l → P l := by
  have key : ∀ (n : Nat) (l : List Int), l.length ≤ n → Bytes l → P l := by
    intro n
    induction n with
    | zero =>
      intro l hl _
      rw [List.eq_nil_of_length_eq_zero (by omega : l.length = 0)]
      exact h0
    | succ n ih =>
      intro l hl hb
      by_cases he : l = []
      · rw [he]; exact h0
      · refine hs l hb he (ih _ ?_ (bytes_drop hb _))
        have := first_len l
        have hn := List.length_drop (i := (firstRune l).2) (l := l)
        have h0 : 0 < l.length := List.length_pos_iff.2 he
        omega
  exact fun l hb => key l.length l (Nat.le_refl _) hb

theorem decode_valid : ∀ l, Bytes l → ∀ r ∈ decode l, validB r = true :=
  bytes_ind (P := fun l => ∀ r ∈ decode l, validB r = true) (by simp [decode_nil]) fun l hb hl ih r hr => by
    rw [decode_cons hb hl] at hr
    rcases List.mem_cons.1 hr with rfl | h
    · exact first_valid hb hl
    · exact ih r h
theorem decode_length : ∀ l, Bytes l → (decode l).length ≤ l.length ∧ (l ≠ [] → decode l ≠ []) :=
  bytes_ind (P := fun l => (decode l).length ≤ l.length ∧ (l ≠ [] → decode l ≠ [])) (by simp [decode_nil]) fun l hb hl ih => by
    rw [decode_cons hb hl]
    have := first_len l
    have hn := List.length_drop (i := (firstRune l).2) (l := l)
    have h0 : 0 < l.length := List.length_pos_iff.2 hl
    have h1 := ih.1
    refine ⟨?_, fun _ => by simp⟩
    rw [List.length_cons]
    omega

theorem one_valid {r : Int} (h : validB r = true) : one r = enc r := by simp [one, h]
theorem one_bytes (r : Int) : Bytes (one r) := by
  unfold one
  split
  · rename_i h; exact enc_bytes h
  · exact enc_bytes valid_odd
theorem one_len (r : Int) : 1 ≤ (one r).length ∧ (one r).length ≤ 4 := enc_len _
theorem bytes_append {a b : List Int} (ha : Bytes a) (hb : Bytes b) : Bytes (a ++ b) := fun x hx => by
  rcases List.mem_append.1 hx with h | h
  · exact ha x h
  · exact hb x h
theorem encode_bytes (l : List Int) : Bytes (encode l) := fun x hx => by
  obtain ⟨r, _, h⟩ := List.mem_flatMap.1 hx
  exact one_bytes r x h
theorem encode_nil : encode [] = [] := rfl
theorem encode_cons (r : Int) (l : List Int) : encode (r :: l) = one r ++ encode l := by simp [encode]
theorem encode_append (a b : List Int) : encode (a ++ b) = encode a ++ encode b := by simp [encode]
theorem encode_length (l : List Int) : (encode l).length ≤ 4 * l.length := by
  induction l with
  | nil => simp [encode_nil]
  | cons r l ih =>
    have := one_len r
    rw [encode_cons, List.length_append, List.length_cons]
    omega

/-- What is written of runes that may be, whatever stands behind, is read as they were. -/
theorem decode_encode : ∀ (l : List Int) (b : List Int), (∀ r ∈ l, validB r = true) → Bytes b → decode (encode l ++ b) = l ++ decode b
  | [], b, _, _ => by simp [encode_nil]
  | r :: l, b, h, hb => by
    have hr := h r (by simp)
    have e : encode (r :: l) ++ b = enc r ++ (encode l ++ b) := by rw [encode_cons, one_valid hr, List.append_assoc]
    have hB : Bytes (enc r ++ (encode l ++ b)) := bytes_append (enc_bytes hr) (bytes_append (encode_bytes l) hb)
    have hne : enc r ++ (encode l ++ b) ≠ [] := by simp [enc_ne]
    rw [e, decode_cons hB hne, first_enc hr]
    simp only [List.drop_left, List.cons_append]
    rw [decode_encode l b (fun x hx => h x (List.mem_cons_of_mem _ hx)) hb]
theorem decode_encode' {l : List Int} (h : ∀ r ∈ l, validB r = true) : decode (encode l) = l := by
  have := decode_encode l [] h (by simp [Bytes])
  simpa [decode_nil] using this
theorem decode_again {a : List Int} (h : Bytes a) : decode (encode (decode a)) = decode a := decode_encode' (decode_valid a h)
/-- One row behind another one that is right. -/
theorem decode_append {a b : List Int} (ha : Bytes a) (hb : Bytes b) (hr : encode (decode a) = a) : decode (a ++ b) = decode a ++ decode b := by
  have := decode_encode (decode a) b (decode_valid a ha) hb
  rwa [hr] at this
/-- Bytes that are a rune's are read as it: no other number of bytes is. -/
theorem first_of_take {l : List Int} {k : Nat} {r : Int} (h : validB r = true) (e : l.take k = enc r) (hk : k ≤ l.length) : firstRune l = (r, k) := by
  have h1 : l = enc r ++ l.drop k := by rw [← e, List.take_append_drop]
  have h2 := first_enc h (l.drop k)
  rw [← h1] at h2
  rw [h2]
  congr 1
  rw [← e, List.length_take]
  omega
end Go.Proofs.YtaoiogpgncjolaaDoor.Pure
