/- SpecQ: several of this session's texts in one. -/
import Derived.Test.YtdjepocklmlnbaaDoorVMore
import Derived.Test.YtdjepocklmlnbaaDoorX0
import Derived.Test.YtdjepocklmlnbaaDoorHandI
import Derived.Test.YtdjepocklmlnbaaDoorHandA
import Derived.Test.YtdjepocklmlnbaaDoorHandW
import Derived.Test.YtdjepocklmlnbaaDoorX2
import Derived.Laws.BitsLemmas
import Derived.Test.YtdjepocklmlnbaaDoorX7
import Derived.Test.YtdjepocklmlnbaaDoorX8
import Derived.Test.YtdjepocklmlnbaaDoorX9
import Derived.Test.YtdjepocklmlnbaaDoorX4
import Derived.Test.YtdjepocklmlnbaaDoorX5
import Derived.Test.YtdjepocklmlnbaaDoorX6
import Derived.Test.YtdjepocklmlnbaaDoorX3
/- Plain lemmas on printed functions: what holds from some number of rounds on. -/
namespace Go.Proofs.YtdjepocklmlnbaaDoor.Pure
open Go.RowKit Go.Proofs.YtdjepocklmlnbaaDoorW.PrintWords Go.Proofs.YtdjepocklmlnbaaDoorW.PrintLast

theorem ev_pos {α : Type} {c : Prop} [Decidable c] {f g : Nat → Option α} {r : α} (h : c) (k : Ev f r) : Ev (fun n => if c then f n else g n) r := by
  obtain ⟨K, k⟩ := k
  exact ⟨K, fun n hn => by simp only [if_pos h]; exact k n hn⟩
theorem ev_neg {α : Type} {c : Prop} [Decidable c] {f g : Nat → Option α} {r : α} (h : ¬ c) (k : Ev g r) : Ev (fun n => if c then f n else g n) r := by
  obtain ⟨K, k⟩ := k
  exact ⟨K, fun n hn => by simp only [if_neg h]; exact k n hn⟩
theorem ev_ite {α : Type} {c : Prop} [Decidable c] {f g : Nat → Option α} {r : α} (h : c → Ev f r) (k : ¬ c → Ev g r) : Ev (fun n => if c then f n else g n) r := by
  by_cases hc : c
  · exact ev_pos hc (h hc)
  · exact ev_neg hc (k hc)
theorem ev_eq {α : Type} {g : Nat → Option α} {r r' : α} (h : Ev g r) (e : r = r') : Ev g r' := e ▸ h
/-- What answers at once. -/
theorem ev_bind1 {α β : Type} {g : Option α} {f : Nat → α → Option β} {a : α} {r : β} (h : g = some a) (k : Ev (fun n => f n a) r) : Ev (fun n => g.bind (f n)) r := by
  subst h
  exact k
theorem ev_one {α : Type} {g : Option α} {r : α} (h : g = some r) : Ev (fun _ => g) r := ⟨0, fun _ _ => h⟩
theorem wrap_of {x : Int} (h0 : -9223372036854775808 ≤ x) (h1 : x ≤ 9223372036854775807) : wrap64 x = x := by
  unfold wrap64
  omega
theorem wrap32_of {x : Int} (h0 : -2147483648 ≤ x) (h1 : x ≤ 2147483647) : wrap32 x = x := by
  unfold wrap32
  omega
theorem wf_u8 {x : Int} (h : (Lit.int .u8 x).wf = true) : 0 ≤ x ∧ x ≤ 255 := by
  have h' : (decide (IntKind.min .u8 ≤ x) && decide (x ≤ IntKind.max .u8)) = true := h
  rw [Bool.and_eq_true, decide_eq_true_eq, decide_eq_true_eq, show IntKind.min .u8 = 0 from rfl, show IntKind.max .u8 = 255 from rfl] at h'
  exact h'
end Go.Proofs.YtdjepocklmlnbaaDoor.Pure

/- A loop that goes up to a length, whatever its state. -/
namespace Go.Proofs.YtdjepocklmlnbaaDoor.Pure
open Go.RowKit Go.Proofs.YtdjepocklmlnbaaDoorW.PrintWords Go.Proofs.YtdjepocklmlnbaaDoorW.PrintLast

theorem loop_up {σ β : Type} (L : Nat → σ → Int → Option β) (n : Nat) (res : σ → Nat → β) (I : σ → Nat → Prop)
    (hend : ∀ s, I s n → Ev (fun k => L k s (n : Int)) (res s n))
    (hstep : ∀ s i, i < n → I s i → (∀ s', I s' (i + 1) → Ev (fun k => L k s' ((i + 1 : Nat) : Int)) (res s' (i + 1))) → Ev (fun k => L k s (i : Int)) (res s i)) :
    ∀ s i, i ≤ n → I s i → Ev (fun k => L k s (i : Int)) (res s i) := by
  have h : ∀ d i, n - i = d → i ≤ n → ∀ s, I s i → Ev (fun k => L k s (i : Int)) (res s i) := by
    intro d
    induction d with
    | zero =>
      intro i hd hi s hs
      obtain rfl : i = n := by omega
      exact hend s hs
    | succ d ih =>
      intro i hd hi s hs
      exact hstep s i (by omega) hs (fun s' hs' => ih (i + 1) (by omega) (by omega) s' hs')
  exact fun s i hi hs => h (n - i) i rfl hi s hs
theorem wrap_up {i n : Nat} (h : i < n) (hn : n ≤ 9223372036854775807) : wrap64 ((i : Int) + 1) = ((i + 1 : Nat) : Int) := by
  rw [wrap_of (by omega) (by omega)]
  omega
end Go.Proofs.YtdjepocklmlnbaaDoor.Pure

/- Rows of glyphs, plainly. -/
namespace Go.Proofs.YtdjepocklmlnbaaDoor.Pure
open Go.RowKit Go.Proofs.YtdjepocklmlnbaaDoorW.PrintWords Go.Proofs.YtdjepocklmlnbaaDoorW.PrintLast Go.Proofs.YtdjepocklmlnbaaDoorW.PrintMore Go.Proofs.YtdjepocklmlnbaaDoor.X

abbrev Gl := S44
theorem rdG (l : List Gl) (i : Nat) (h : i < l.length) : rd_T44 l (i : Int) = l[i] := by
  simp [rd_T44, List.getD_eq_getElem?_getD, List.getElem?_eq_getElem h]
theorem gl_ext {a b : Gl} (h0 : a.f0 = b.f0) (h1 : a.f1 = b.f1) : a = b := by
  cases a
  cases b
  simp_all
instance : DecidableEq Gl := fun a b => if h : a.f0 = b.f0 ∧ a.f1 = b.f1 then .isTrue (gl_ext h.1 h.2) else .isFalse (fun e => h (by rw [e]; exact ⟨rfl, rfl⟩))
theorem gl_ne (a b : Gl) : ((!((a.f0) == (b.f0)) || (!((a.f1) == (b.f1)))) = true) ↔ a ≠ b := by
  constructor
  · intro h e
    subst e
    simp at h
  · intro h
    by_cases h0 : a.f0 = b.f0
    · have h1 : a.f1 ≠ b.f1 := fun h1 => h (gl_ext h0 h1)
      simp [h1]
    · simp [h0]
theorem drop_ne {a b : List Gl} {i : Nat} (ha : i < a.length) (hb : i < b.length) : a.drop i = b.drop i ↔ a[i] = b[i] ∧ a.drop (i + 1) = b.drop (i + 1) := by
  rw [List.drop_eq_getElem_cons ha, List.drop_eq_getElem_cons hb, List.cons.injEq]
end Go.Proofs.YtdjepocklmlnbaaDoor.Pure

/- Runs: rows of glyphs set alike, one behind the other. What makes them such, and that nothing else does. -/
namespace Go.Proofs.YtdjepocklmlnbaaDoor.Pure
open Go.RowKit Go.Proofs.YtdjepocklmlnbaaDoorW.PrintWords Go.Proofs.YtdjepocklmlnbaaDoorW.PrintLast Go.Proofs.YtdjepocklmlnbaaDoorW.PrintMore Go.Proofs.YtdjepocklmlnbaaDoor.X Go.Proofs.YtdjepocklmlnbaaDoor.Hand
set_option linter.unusedSimpArgs false
set_option linter.unusedVariables false
/-- A row's first. -/
def hd (l : List Gl) : Gl := rd_T44 l 0
theorem hd_cons (g : Gl) (t : List Gl) : hd (g :: t) = g := by simp [hd, rd_T44]
theorem hd_eq {l : List Gl} (h : 0 < l.length) : hd l = l[0] := by
  cases l with
  | nil => simp at h
  | cons g t => rw [hd_cons]; rfl
structure IsRuns (rows : List (List Gl)) (l : List Gl) : Prop where
  flat : rows.flatten = l
  pos : ∀ r ∈ rows, 0 < r.length
  same : ∀ r ∈ rows, ∀ x ∈ r, x.f1 = (hd r).f1
  alt : ∀ (i : Nat) (h : i + 1 < rows.length), (hd rows[i + 1]).f1 ≠ (hd (rows[i]'(by omega))).f1
theorem IsRuns.tail {a : List Gl} {az : List (List Gl)} {l : List Gl} (h : IsRuns (a :: az) l) : IsRuns az az.flatten :=
  ⟨rfl, fun r hr => h.pos r (List.mem_cons_of_mem _ hr), fun r hr => h.same r (List.mem_cons_of_mem _ hr), fun i hi => by
    have := h.alt (i + 1) (by simp only [List.length_cons]; omega)
    simpa using this⟩
theorem runLen_same (l : List Gl) (j : Nat) (hj : j < runLen l) : (l[j]'(Nat.lt_of_lt_of_le hj (runLen_le l))).f1 = (hd l).f1 := by
  have hle := runLen_le l
  have hjl : j < l.length := by omega
  unfold runLen at hj
  cases hf : l.findIdx? (fun g => g.f1 != (rd_T44 l 0).f1) with
  | none =>
    have := List.findIdx?_eq_none_iff.1 hf l[j] (List.getElem_mem _)
    simpa [hd] using this
  | some i =>
    rw [hf] at hj
    obtain ⟨h1, h2, h3⟩ := List.findIdx?_eq_some_iff_getElem.1 hf
    have := h3 j (by simpa using hj)
    simpa [hd] using this
theorem runLen_next (l : List Gl) (h : runLen l < l.length) : (l[runLen l]).f1 ≠ (hd l).f1 := by
  cases hf : l.findIdx? (fun g => g.f1 != (rd_T44 l 0).f1) with
  | none =>
    exfalso
    unfold runLen at h
    rw [hf] at h
    simp at h
  | some i =>
    obtain ⟨h1, h2, h3⟩ := List.findIdx?_eq_some_iff_getElem.1 hf
    have e : runLen l = i := by unfold runLen; rw [hf]; rfl
    simp only [e]
    simpa [hd] using h2
theorem runs_are : ∀ (n : Nat) (l : List Gl), l.length ≤ n → IsRuns (runs l) l
  | 0, l, h => by
    obtain rfl := List.eq_nil_of_length_eq_zero (show l.length = 0 by omega)
    rw [runs_nil rfl]
    exact ⟨rfl, by simp, by simp, fun i hi => by simp at hi⟩
  | n + 1, l, h => by
    by_cases h0 : l.length = 0
    · obtain rfl := List.eq_nil_of_length_eq_zero h0
      rw [runs_nil rfl]
      exact ⟨rfl, by simp, by simp, fun i hi => by simp at hi⟩
    · have hp := runLen_pos (l := l) (by omega)
      have hle := runLen_le l
      have ih := runs_are n (l.drop (runLen l)) (by rw [List.length_drop]; omega)
      have ht : 0 < (l.take (runLen l)).length := by rw [List.length_take]; omega
      have hh : hd (l.take (runLen l)) = hd l := by
        rw [hd_eq ht, hd_eq (by omega), List.getElem_take]
      rw [runs_cons (by omega)]
      refine ⟨by rw [List.flatten_cons, ih.flat, List.take_append_drop], ?_, ?_, ?_⟩
      · intro r hr
        rcases List.mem_cons.1 hr with rfl | hr
        · exact ht
        · exact ih.pos r hr
      · intro r hr x hx
        rcases List.mem_cons.1 hr with rfl | hr
        · obtain ⟨j, hj, rfl⟩ := List.getElem_of_mem hx
          rw [hh, List.getElem_take]
          rw [List.length_take] at hj
          exact runLen_same l j (by omega)
        · exact ih.same r hr x hx
      · intro i hi
        cases i with
        | zero =>
          simp only [List.length_cons] at hi
          have h1 : 0 < (l.drop (runLen l)).length := by
            rcases Nat.eq_zero_or_pos (l.drop (runLen l)).length with e | e
            · rw [runs_nil e] at hi
              simp at hi
            · exact e
          have h2 : (runs (l.drop (runLen l)))[0]'(by omega) = (l.drop (runLen l)).take (runLen (l.drop (runLen l))) := by
            simp only [runs_cons h1]
            rfl
          have h3 : hd ((l.drop (runLen l)).take (runLen (l.drop (runLen l)))) = l[runLen l]'(by rw [List.length_drop] at h1; omega) := by
            have hp2 := runLen_pos h1
            rw [hd_eq (by rw [List.length_take]; omega), List.getElem_take, List.getElem_drop]
            simp
          show (hd ((runs (l.drop (runLen l)))[0]'(by omega))).f1 ≠ (hd (l.take (runLen l))).f1
          rw [h2, h3, hh]
          exact runLen_next l (by rw [List.length_drop] at h1; omega)
        | succ i =>
          simp only [List.length_cons] at hi
          have := ih.alt i (by omega)
          simpa using this
theorem runs_IsRuns (l : List Gl) : IsRuns (runs l) l := runs_are l.length l (Nat.le_refl _)
end Go.Proofs.YtdjepocklmlnbaaDoor.Pure

/- Runes and their bytes, as plain functions over whole numbers: what is written is read, and only what was written is read as anything. -/
namespace Go.Proofs.YtdjepocklmlnbaaDoor.Pure
open Go.Proofs.YtdjepocklmlnbaaDoor.Hand
set_option linter.unusedVariables false
set_option linter.unusedSimpArgs false

/-- The bytes of a rune that may be. -/
def enc (r : Int) : List Int :=
  if r < 128 then [r] else if r < 2048 then [192 + r / 64, 128 + r % 64] else if r < 65536 then [224 + r / 4096, 128 + r / 64 % 64, 128 + r % 64]
  else [240 + r / 262144, 128 + r / 4096 % 64, 128 + r / 64 % 64, 128 + r % 64]
/-- The bytes of any rune. -/
def one (r : Int) : List Int := enc (if validB r = true then r else 65533)
def encode (l : List Int) : List Int := l.flatMap one
def cont (d : Int) : Bool := decide (128 ≤ d) && decide (d < 192)
/-- The first rune, and how many bytes it has; 1 of one that is none. -/
def firstRune : List Int → Int × Nat
  | [] => (65533, 1)
  | c :: t =>
    if c < 128 then (c, 1)
    else if 192 ≤ c ∧ c < 224 then
      match t with
      | d :: _ => if cont d = true ∧ 128 ≤ (c - 192) * 64 + (d - 128) then ((c - 192) * 64 + (d - 128), 2) else (65533, 1)
      | _ => (65533, 1)
    else if 224 ≤ c ∧ c < 240 then
      match t with
      | d :: e :: _ => if cont d = true ∧ cont e = true ∧ 2048 ≤ ((c - 224) * 64 + (d - 128)) * 64 + (e - 128) ∧ validB (((c - 224) * 64 + (d - 128)) * 64 + (e - 128)) = true then (((c - 224) * 64 + (d - 128)) * 64 + (e - 128), 3) else (65533, 1)
      | _ => (65533, 1)
    else if 240 ≤ c ∧ c < 248 then
      match t with
      | d :: e :: f :: _ => if cont d = true ∧ cont e = true ∧ cont f = true ∧ 65536 ≤ (((c - 240) * 64 + (d - 128)) * 64 + (e - 128)) * 64 + (f - 128) ∧ validB ((((c - 240) * 64 + (d - 128)) * 64 + (e - 128)) * 64 + (f - 128)) = true
          then ((((c - 240) * 64 + (d - 128)) * 64 + (e - 128)) * 64 + (f - 128), 4) else (65533, 1)
      | _ => (65533, 1)
    else (65533, 1)
def decodeN : Nat → List Int → List Int
  | 0, _ => []
  | n + 1, l => if l = [] then [] else (firstRune l).1 :: decodeN n (l.drop (firstRune l).2)
def decode (l : List Int) : List Int := decodeN l.length l
/-- All of them bytes. -/
def Bytes (l : List Int) : Prop := ∀ x ∈ l, 0 ≤ x ∧ x ≤ 255

theorem validB_iff' (a : Int) : validB a = true ↔ 0 ≤ a ∧ a ≤ 1114111 ∧ (a < 55296 ∨ 57343 < a) := by
  simp [validB]
theorem cont_iff (d : Int) : cont d = true ↔ 128 ≤ d ∧ d < 192 := by simp [cont]

theorem valid_odd : validB 65533 = true := by decide +kernel
theorem enc_len (r : Int) : 1 ≤ (enc r).length ∧ (enc r).length ≤ 4 := by
  unfold enc
  split
  · simp
  · split
    · simp
    · split <;> simp
theorem enc_bytes {r : Int} (h : validB r = true) : Bytes (enc r) := by
  have h' := (validB_iff' r).1 h
  unfold enc Bytes
  split
  · simp; omega
  · split
    · simp; omega
    · split <;> (simp; omega)
/-- What is told first: a rune's bytes stand there, or it is told for what is none, one byte. -/
theorem first_spec {l : List Int} (hb : Bytes l) (hl : l ≠ []) : (validB (firstRune l).1 = true ∧ (firstRune l).2 = (enc (firstRune l).1).length ∧ l.take (firstRune l).2 = enc (firstRune l).1) ∨ firstRune l = (65533, 1) := by
  match l, hl with
  | c :: t, _ =>
    have hc := hb c (by simp)
    simp only [firstRune]
    split
    · left
      refine ⟨(validB_iff' _).2 (by simp; omega), ?_⟩
      simp [enc, *]
    · split
      · rename_i h1 h2
        match t with
        | d :: t' =>
          simp only
          split
          · rename_i h3
            have hd := (cont_iff d).1 h3.1
            left
            refine ⟨(validB_iff' _).2 (by simp; omega), ?_⟩
            simp only [enc]
            rw [if_neg (by omega), if_pos (by omega)]
            refine ⟨rfl, ?_⟩
            simp
            omega
          · exact .inr rfl
        | [] => exact .inr rfl
      · split
        · rename_i h1 h2 h3
          match t with
          | d :: e :: t' =>
            simp only
            split
            · rename_i h4
              have hd := (cont_iff d).1 h4.1
              have he := (cont_iff e).1 h4.2.1
              have h5 := h4.2.2.1
              left
              refine ⟨h4.2.2.2, ?_⟩
              simp only [enc]
              rw [if_neg (by omega), if_neg (by omega), if_pos (by omega)]
              refine ⟨rfl, ?_⟩
              simp
              omega
            · exact .inr rfl
          | [d] => exact .inr rfl
          | [] => exact .inr rfl
        · split
          · rename_i h1 h2 h3 h4
            match t with
            | d :: e :: f :: t' =>
              simp only
              split
              · rename_i h5
                have hd := (cont_iff d).1 h5.1
                have he := (cont_iff e).1 h5.2.1
                have hf := (cont_iff f).1 h5.2.2.1
                have h6 := h5.2.2.2.1
                left
                refine ⟨h5.2.2.2.2, ?_⟩
                simp only [enc]
                rw [if_neg (by omega), if_neg (by omega), if_neg (by omega)]
                refine ⟨rfl, ?_⟩
                simp
                omega
              · exact .inr rfl
            | [d, e] => exact .inr rfl
            | [d] => exact .inr rfl
            | [] => exact .inr rfl
          · exact .inr rfl

theorem first_len (l : List Int) : 1 ≤ (firstRune l).2 ∧ (firstRune l).2 ≤ 4 := by
  unfold firstRune
  repeat' split
  all_goals simp
theorem first_fits {l : List Int} (hb : Bytes l) (hl : l ≠ []) : (firstRune l).2 ≤ l.length := by
  rcases first_spec hb hl with ⟨_, h2, h3⟩ | h
  · have := congrArg List.length h3
    rw [List.length_take] at this
    omega
  · rw [h]
    cases l
    · exact absurd rfl hl
    · simp
theorem bytes_drop {l : List Int} (h : Bytes l) (n : Nat) : Bytes (l.drop n) := fun x hx => h x (List.mem_of_mem_drop hx)
theorem decodeN_more : ∀ (n m : Nat) (l : List Int), Bytes l → l.length ≤ n → l.length ≤ m → decodeN n l = decodeN m l
  | 0, 0, _, _, _, _ => rfl
  | 0, m + 1, l, _, h, _ => by
    have : l = [] := List.eq_nil_of_length_eq_zero (by omega)
    simp [decodeN, this]
  | n + 1, 0, l, _, _, h => by
    have : l = [] := List.eq_nil_of_length_eq_zero (by omega)
    simp [decodeN, this]
  | n + 1, m + 1, l, hb, h, h' => by
    unfold decodeN
    split
    · rfl
    · rename_i hl
      have := first_len l
      have hn := List.length_drop (i := (firstRune l).2) (l := l)
      have h0 : 0 < l.length := List.length_pos_iff.2 hl
      rw [decodeN_more n m _ (bytes_drop hb _) (by omega) (by omega)]
theorem decode_nil : decode [] = [] := rfl
theorem decode_cons {l : List Int} (hb : Bytes l) (hl : l ≠ []) : decode l = (firstRune l).1 :: decode (l.drop (firstRune l).2) := by
  have h0 : 0 < l.length := List.length_pos_iff.2 hl
  have h1 := first_len l
  have hn := List.length_drop (i := (firstRune l).2) (l := l)
  obtain ⟨n, hn'⟩ : ∃ n, l.length = n + 1 := ⟨l.length - 1, by omega⟩
  show decodeN l.length l = _
  rw [hn']
  unfold decodeN
  rw [if_neg hl]
  congr 1
  exact decodeN_more _ _ _ (bytes_drop hb _) (by omega) (by omega)

/-- Down from a row of bytes to the rest behind its first rune. -/
theorem bytes_ind {P : List Int → Prop} (h0 : P []) (hs : ∀ l, Bytes l → l ≠ [] → P (l.drop (firstRune l).2) → P l) : ∀ l, Bytes l → P l := by
  have key : ∀ (n : Nat) (l : List Int), l.length ≤ n → Bytes l → P l := by
    intro n
    induction n with
    | zero =>
      intro l hl _
      rw [List.eq_nil_of_length_eq_zero (by omega : l.length = 0)]
      exact h0
    | succ n ih =>
      intro l hl hb
      by_cases he : l = []
      · rw [he]; exact h0
      · refine hs l hb he (ih _ ?_ (bytes_drop hb _))
        have := first_len l
        have hn := List.length_drop (i := (firstRune l).2) (l := l)
        have h0 : 0 < l.length := List.length_pos_iff.2 he
        omega
  exact fun l hb => key l.length l (Nat.le_refl _) hb

theorem decode_length : ∀ l, Bytes l → (decode l).length ≤ l.length ∧ (l ≠ [] → decode l ≠ []) :=
  bytes_ind (P := fun l => (decode l).length ≤ l.length ∧ (l ≠ [] → decode l ≠ [])) (by simp [decode_nil]) fun l hb hl ih => by
    rw [decode_cons hb hl]
    have := first_len l
    have hn := List.length_drop (i := (firstRune l).2) (l := l)
    have h0 : 0 < l.length := List.length_pos_iff.2 hl
    have h1 := ih.1
    refine ⟨?_, fun _ => by simp⟩
    rw [List.length_cons]
    omega

theorem one_bytes (r : Int) : Bytes (one r) := by
  unfold one
  split
  · rename_i h; exact enc_bytes h
  · exact enc_bytes valid_odd
theorem one_len (r : Int) : 1 ≤ (one r).length ∧ (one r).length ≤ 4 := enc_len _
theorem bytes_append {a b : List Int} (ha : Bytes a) (hb : Bytes b) : Bytes (a ++ b) := fun x hx => by
  rcases List.mem_append.1 hx with h | h
  · exact ha x h
  · exact hb x h
theorem encode_bytes (l : List Int) : Bytes (encode l) := fun x hx => by
  obtain ⟨r, _, h⟩ := List.mem_flatMap.1 hx
  exact one_bytes r x h
theorem encode_nil : encode [] = [] := rfl
theorem encode_cons (r : Int) (l : List Int) : encode (r :: l) = one r ++ encode l := by simp [encode]
theorem encode_length (l : List Int) : (encode l).length ≤ 4 * l.length := by
  induction l with
  | nil => simp [encode_nil]
  | cons r l ih =>
    have := one_len r
    rw [encode_cons, List.length_append, List.length_cons]
    omega

end Go.Proofs.YtdjepocklmlnbaaDoor.Pure

/- A sign wherever the setting changes is a sign ahead of each run and one behind it. -/
namespace Go.Proofs.YtdjepocklmlnbaaDoor.Pure
open Go Go.RowKit Go.Proofs.YtdjepocklmlnbaaDoorW.PrintWords Go.Proofs.YtdjepocklmlnbaaDoorW.PrintLast Go.Proofs.YtdjepocklmlnbaaDoorW.PrintMore Go.Proofs.YtdjepocklmlnbaaDoor.X Go.Proofs.YtdjepocklmlnbaaDoor.Hand
set_option linter.unusedSimpArgs false
set_option linter.unusedVariables false
/-- A sign's bytes. -/
def sgL (s : Int) : List Int := bytesOf (signS (s % 4).toNat)
/-- The document's way: glyph by glyph, was: how the last one is set. -/
def refGo : List Gl → Int → List Int
  | [], was => if was = 0 then [] else sgL 0
  | g :: t, was => (if g.f1 = was then [] else (if was = 0 then [] else sgL 0) ++ (if g.f1 = 0 then [] else sgL g.f1)) ++ (encode [g.f0] ++ refGo t g.f1)
/-- The package's way: run by run. -/
def runB (y : List Gl) : List Int := if (hd y).f1 = 0 then encode (y.map (·.f0)) else (sgL (hd y).f1 ++ encode (y.map (·.f0))) ++ sgL 0
def outB (rs : List (List Gl)) : List Int := (rs.map runB).flatten
theorem go_same : ∀ (y t : List Gl) (s : Int), (∀ g ∈ y, g.f1 = s) → refGo (y ++ t) s = encode (y.map (·.f0)) ++ refGo t s
  | [], t, s, _ => by simp [encode_nil]
  | g :: y, t, s, h => by
    have hg := h g (by simp)
    rw [List.cons_append, refGo, if_pos hg, hg, go_same y t s (fun x hx => h x (by simp [hx])), List.nil_append, List.map_cons, encode_cons, encode_cons, encode_nil, List.append_nil, List.append_assoc]
theorem go_next (t : List Gl) (s : Int) (h : t = [] ∨ (hd t).f1 ≠ s) : refGo t s = (if s = 0 then [] else sgL 0) ++ refGo t 0 := by
  cases t with
  | nil => simp [refGo]
  | cons g t =>
    have hs : g.f1 ≠ s := by
      rcases h with h | h
      · cases h
      · rwa [hd_cons] at h
    rw [refGo, if_neg hs, refGo]
    by_cases h0 : g.f1 = 0
    · rw [if_pos h0, if_pos h0, List.append_nil, List.nil_append]
    · rw [if_neg h0, if_neg h0, if_pos rfl, List.nil_append, List.append_assoc]
theorem outB_eq : ∀ (rs : List (List Gl)) (l : List Gl), IsRuns rs l → outB rs = refGo l 0
  | [], l, h => by
    have := h.flat
    rw [← this]
    rfl
  | y :: rs, l, h => by
    have hf := h.flat
    rw [List.flatten_cons] at hf
    have hp := h.pos y (by simp)
    have hsame := h.same y (by simp)
    have ih := outB_eq rs rs.flatten h.tail
    have hnext : rs.flatten = [] ∨ (hd rs.flatten).f1 ≠ (hd y).f1 := by
      cases rs with
      | nil => exact .inl rfl
      | cons y2 rs =>
        right
        have ha := h.alt 0 (by simp)
        have hp2 := h.pos y2 (by simp)
        simp only [List.getElem_cons_succ, List.getElem_cons_zero] at ha
        have e : hd (y2 :: rs).flatten = hd y2 := by
          cases y2 with
          | nil => simp at hp2
          | cons g t => rw [List.flatten_cons, List.cons_append, hd_cons, hd_cons]
        rwa [e]
    have e1 : outB (y :: rs) = runB y ++ outB rs := by simp [outB]
    rw [e1, ih, ← hf]
    obtain ⟨g, t, rfl⟩ : ∃ g t, y = g :: t := by
      cases y with
      | nil => simp at hp
      | cons g t => exact ⟨g, t, rfl⟩
    rw [hd_cons] at hsame hnext
    rw [List.cons_append, refGo, go_same t rs.flatten g.f1 (fun x hx => hsame x (by simp [hx])), go_next rs.flatten g.f1 hnext]
    unfold runB
    rw [hd_cons, List.map_cons, encode_cons, encode_cons, encode_nil, List.append_nil]
    by_cases h0 : g.f1 = 0
    · rw [if_pos h0, if_pos h0, if_pos h0, List.nil_append, List.nil_append, List.append_assoc]
    · rw [if_neg h0, if_neg h0, if_neg h0, if_neg h0, if_pos rfl, List.nil_append]
      simp only [List.append_assoc]
end Go.Proofs.YtdjepocklmlnbaaDoor.Pure

/- What package runes computes of one rune: its printed functions answer by plain functions. -/
namespace Go.Proofs.YtdjepocklmlnbaaDoor.Pure
open Go.RowKit Go.Proofs.YtdjepocklmlnbaaDoorW.PrintWords Go.Proofs.YtdjepocklmlnbaaDoorW.PrintLast Go.Proofs.YtdjepocklmlnbaaDoorW.PrintMore Go.Proofs.YtdjepocklmlnbaaDoor.X Go.Proofs.YtdjepocklmlnbaaDoor.Hand
set_option linter.unusedSimpArgs false

theorem valid_eq (a : Int) : runes_Valid.f a = some (validB a) := by
  unfold runes_Valid.f
  by_cases h1 : a ≥ 0 <;> by_cases h2 : a ≤ 1114111 <;> by_cases h3 : a < 55296 <;> simp only [h1, h2, h3, if_true, if_false] <;> congr 1 <;> (rw [Bool.eq_iff_iff]; simp [validB]; omega)

theorem validB_iff (a : Int) : validB a = true ↔ 0 ≤ a ∧ a ≤ 1114111 ∧ (a < 55296 ∨ 57343 < a) := by
  simp [validB]
theorem control_ev (a : Int) : Ev (fun k => runes_Control.f k a) (controlB a) := by
  have j1 : ∀ x : Bool, Ev (fun k => runes_Control.j1 k a x) (x || (decide (a = 8232) || decide (a = 8233))) := by
    intro x
    refine Ev.step (f := fun _ => if x = true then some true else if a = 8232 then some true else if a = 8233 then some true else some false) (fun k => by simp only [runes_Control.j1]) ?_
    refine ev_one ?_
    cases x <;> simp
    split <;> simp_all
    split <;> simp_all
  have j0 : ∀ x : Bool, Ev (fun k => runes_Control.j0 k a x) (x || ((decide (127 ≤ a) && decide (a ≤ 159)) || (decide (a = 8232) || decide (a = 8233)))) := by
    intro x
    refine Ev.step (f := fun k => if x = true then runes_Control.j1 k a x else if a ≥ 127 then runes_Control.j1 k a (decide (a ≤ 159)) else runes_Control.j1 k a false) (fun k => by simp only [runes_Control.j0]) ?_
    refine ev_ite (fun h => ev_eq (j1 _) (by simp [h])) (fun h => ev_ite (fun h2 => ev_eq (j1 _) (by simp_all <;> omega)) (fun h2 => ev_eq (j1 _) (by simp_all <;> omega)))
  unfold runes_Control.f
  exact ev_ite (fun h => ev_eq (j0 _) (by simp_all [controlB] <;> omega)) (fun h => ev_eq (j0 _) (by simp_all [controlB] <;> omega))

/-- What may be written in a rune's place. -/
def safe (a : Int) : Int := if validB a = true ∧ controlB a = false then a else 65533
theorem safe_ev (a : Int) : Ev (fun k => runes_Safe.f k a) (safe a) := by
  unfold runes_Safe.f
  refine ev_bind1 (valid_eq a) ?_
  refine ev_ite (fun h => ?_) (fun h => ev_eq (Ev.now _) (by simp_all [safe]))
  refine Ev.bind (control_ev a) ?_
  refine ev_ite (fun h2 => ev_eq (Ev.now _) (by simp_all [safe])) (fun h2 => ev_eq (Ev.now _) (by simp_all [safe]))

theorem safe_valid (a : Int) : validB (safe a) = true := by
  unfold safe
  split
  · rename_i h
    exact h.1
  · decide +kernel
theorem safe_control (a : Int) : controlB (safe a) = false := by
  unfold safe
  split
  · rename_i h
    exact h.2
  · decide +kernel
theorem safe_safe (a : Int) : safe (safe a) = safe a := by
  have h1 := safe_valid a
  have h2 := safe_control a
  generalize safe a = b at h1 h2
  simp [safe, h1, h2]
end Go.Proofs.YtdjepocklmlnbaaDoor.Pure

/- What may be written of a row. -/
namespace Go.Proofs.YtdjepocklmlnbaaDoor.Pure
open Go.RowKit Go.Proofs.YtdjepocklmlnbaaDoorW.PrintWords Go.Proofs.YtdjepocklmlnbaaDoorW.PrintLast Go.Proofs.YtdjepocklmlnbaaDoorW.PrintMore Go.Proofs.YtdjepocklmlnbaaDoor.X Go.Proofs.YtdjepocklmlnbaaDoor.Hand
set_option linter.unusedSimpArgs false
set_option linter.unusedVariables false
/-- One glyph, as it may be written. -/
def cleanG (g : Gl) : Gl := ⟨safe (if g.f0 = 160 then 32 else g.f0), Go.bits .and .u8 g.f1 3⟩
def clean (l : List Gl) : List Gl := (l.map cleanG).dropWhile (fun g => !decide (wid g.f0 > 0))
theorem clean_ev (l : List Gl) (h : l.length < 17592186044416) : Ev (fun k => cells_Clean.f k l) (clean l) := by
  unfold cells_Clean.f
  refine ev_eq (loop_up (fun k o i => cells_Clean.l0 k o l (l.length : Int) i) l.length (fun o i => if o = [] then clean (l.drop i) else o ++ (l.drop i).map cleanG) (fun o i => o.length ≤ i) ?_ ?_ [] 0 (by omega) (by simp)) (by simp)
  · intro o _
    refine Ev.step (f := fun _ => some o) (fun k => by simp only [cells_Clean.l0]; rw [if_neg (by omega)]) (ev_eq (Ev.now _) ?_)
    rw [List.drop_length]
    split
    · rename_i e
      rw [e]
      rfl
    · simp
  · intro o i hi ho ih
    have hj : ∀ x : Int, (if l[i].f0 = 160 then 32 else l[i].f0) = x → Ev (fun k => cells_Clean.j1 k o l (l.length : Int) (i : Int) x l[i].f1) (if o = [] then clean (l.drop i) else o ++ (l.drop i).map cleanG) := by
      intro x hx
      have hg : cleanG l[i] = ⟨safe x, Go.bits .and .u8 l[i].f1 3⟩ := by rw [cleanG, hx]
      refine Ev.step (f := fun k => (runes_Safe.f k x).bind fun t => (if (o.length : Int) > 0 then (cells_Clean.l0 k (o ++ [(⟨t, Go.bits .and .u8 l[i].f1 3⟩ : Gl)]) l (l.length : Int) ((i + 1 : Nat) : Int)) else (if wid t > 0 then (cells_Clean.l0 k (o ++ [(⟨t, Go.bits .and .u8 l[i].f1 3⟩ : Gl)]) l (l.length : Int) ((i + 1 : Nat) : Int)) else (cells_Clean.l0 k o l (l.length : Int) ((i + 1 : Nat) : Int))))) (fun k => ?_) ?_
      · simp only [cells_Clean.j1]
        rw [wrap_up hi (by omega)]
        congr 1
        funext t
        rw [show runes_Width.f t = some (wid t) from rfl, Option.bind_some, if_pos (show o.length < 17592186044416 by omega)]
      · refine Ev.bind (safe_ev x) ?_
        rw [← hg]
        have h1 : Ev (fun k => cells_Clean.l0 k (o ++ [cleanG l[i]]) l (l.length : Int) ((i + 1 : Nat) : Int)) (o ++ cleanG l[i] :: (l.drop (i + 1)).map cleanG) := by
          refine ev_eq (ih (o ++ [cleanG l[i]]) (by simp; omega)) ?_
          rw [if_neg (by simp), List.append_assoc]
          rfl
        refine ev_ite (fun hc => ev_eq h1 ?_) (fun hc => ?_)
        · rw [if_neg (by intro e; rw [e] at hc; simp at hc), List.drop_eq_getElem_cons hi, List.map_cons]
        · obtain rfl : o = [] := by
            rcases o with _ | ⟨_, _⟩
            · rfl
            · exfalso
              apply hc
              simp only [List.length_cons]
              omega
          rw [if_pos rfl]
          have hw : wid (safe x) = wid (cleanG l[i]).f0 := by rw [hg]
          rw [hw]
          refine ev_ite (fun hp => ev_eq h1 ?_) (fun hp => ev_eq (ih [] (by simp)) ?_)
          · rw [List.drop_eq_getElem_cons hi, clean, List.map_cons, List.dropWhile_cons, if_neg (by simp [hp])]
            rfl
          · rw [if_pos rfl, List.drop_eq_getElem_cons hi, clean, clean, List.map_cons, List.dropWhile_cons, if_pos (by simp [hp])]
    refine Ev.step (f := fun k => if l[i].f0 = 160 then cells_Clean.j1 k o l (l.length : Int) (i : Int) 32 l[i].f1 else cells_Clean.j1 k o l (l.length : Int) (i : Int) l[i].f0 l[i].f1) (fun k => ?_) ?_
    · simp only [cells_Clean.l0]
      rw [if_pos (by omega), if_pos (by omega), if_pos (by omega), rdG l i hi]
    · exact ev_ite (fun hc => hj 32 (if_pos hc)) (fun hc => hj _ (if_neg hc))
end Go.Proofs.YtdjepocklmlnbaaDoor.Pure

/- What may be written: plainly. -/
namespace Go.Proofs.YtdjepocklmlnbaaDoor.Pure
open Go.RowKit Go.Proofs.YtdjepocklmlnbaaDoorW.PrintWords Go.Proofs.YtdjepocklmlnbaaDoorW.PrintLast Go.Proofs.YtdjepocklmlnbaaDoorW.PrintMore Go.Proofs.YtdjepocklmlnbaaDoor.X Go.Proofs.YtdjepocklmlnbaaDoor.Hand
set_option linter.unusedSimpArgs false
set_option linter.unusedVariables false
theorem safe_160 {x : Int} (h : x ≠ 160) : safe x ≠ 160 := by
  unfold safe
  split
  · exact h
  · decide
theorem and3 {x : Int} (h : 0 ≤ x ∧ x ≤ 255) : 0 ≤ Go.bits .and .u8 x 3 ∧ Go.bits .and .u8 x 3 ≤ 3 ∧ Go.bits .and .u8 (Go.bits .and .u8 x 3) 3 = Go.bits .and .u8 x 3 := by
  have h1 : ∀ n : Nat, n < 256 → 0 ≤ Go.bits .and .u8 (n : Int) 3 ∧ Go.bits .and .u8 (n : Int) 3 ≤ 3 ∧ Go.bits .and .u8 (Go.bits .and .u8 (n : Int) 3) 3 = Go.bits .and .u8 (n : Int) 3 := by decide +kernel
  obtain ⟨n, rfl⟩ := Int.eq_ofNat_of_zero_le h.1
  exact h1 n (by omega)
/-- Cleaned: what it is. -/
def Cl (g : Gl) : Prop := safe g.f0 = g.f0 ∧ g.f0 ≠ 160 ∧ 0 ≤ g.f1 ∧ g.f1 ≤ 3 ∧ Go.bits .and .u8 g.f1 3 = g.f1
theorem cleanG_Cl (g : Gl) (h : 0 ≤ g.f1 ∧ g.f1 ≤ 255) : Cl (cleanG g) := by
  have h3 := and3 h
  refine ⟨safe_safe _, safe_160 ?_, h3.1, h3.2.1, h3.2.2⟩
  split
  · decide
  · assumption
theorem clean_Cl (l : List Gl) (h : ∀ g ∈ l, 0 ≤ g.f1 ∧ g.f1 ≤ 255) : ∀ g ∈ clean l, Cl g := by
  intro g hg
  have := (List.dropWhile_sublist _).subset hg
  obtain ⟨x, hx, rfl⟩ := List.mem_map.1 this
  exact cleanG_Cl x (h x hx)
theorem clean_length (l : List Gl) : (clean l).length ≤ l.length := by
  have := (List.dropWhile_sublist (fun g : Gl => !decide (wid g.f0 > 0)) (l := l.map cleanG)).length_le
  simpa [clean] using this
end Go.Proofs.YtdjepocklmlnbaaDoor.Pure

/- A row trimmed. -/
namespace Go.Proofs.YtdjepocklmlnbaaDoor.Pure
open Go.RowKit Go.Proofs.YtdjepocklmlnbaaDoorW.PrintWords Go.Proofs.YtdjepocklmlnbaaDoorW.PrintLast Go.Proofs.YtdjepocklmlnbaaDoorW.PrintMore Go.Proofs.YtdjepocklmlnbaaDoor.X Go.Proofs.YtdjepocklmlnbaaDoor.Hand
set_option linter.unusedSimpArgs false
set_option linter.unusedVariables false
theorem clone_eq {l : List Gl} (h : l.length < 17592186044416) : clone_G.f l = some l := by
  unfold clone_G.f
  rw [if_pos h]
/-- So many are left of a row trimmed. -/
structure IsTrim (l : List Gl) (m : Nat) : Prop where
  le : m ≤ l.length
  last : ∀ g : Gl, 0 < m → l[m - 1]? = some g → g.f0 ≠ 32
  rest : ∀ (i : Nat) (g : Gl), m ≤ i → l[i]? = some g → g.f0 = 32
theorem exists_trim (l : List Gl) : ∃ m, IsTrim l m := by
  have h : ∀ n, n ≤ l.length → ∃ m, m ≤ n ∧ (∀ g : Gl, 0 < m → l[m - 1]? = some g → g.f0 ≠ 32) ∧ ∀ (i : Nat) (g : Gl), m ≤ i → i < n → l[i]? = some g → g.f0 = 32 := by
    intro n
    induction n with
    | zero => exact fun _ => ⟨0, Nat.le_refl _, fun g h => absurd h (by omega), fun i g _ h => absurd h (by omega)⟩
    | succ n ih =>
      intro hn
      by_cases hc : (l[n]'(by omega)).f0 = 32
      · obtain ⟨m, h1, h2, h3⟩ := ih (by omega)
        refine ⟨m, by omega, h2, fun i g hi hlt hg => ?_⟩
        by_cases e : i = n
        · subst e
          rw [List.getElem?_eq_getElem (by omega)] at hg
          obtain rfl := Option.some.inj hg
          exact hc
        · exact h3 i g hi (by omega) hg
      · refine ⟨n + 1, Nat.le_refl _, fun g _ hg => ?_, fun i g hi hlt => by omega⟩
        rw [Nat.add_sub_cancel, List.getElem?_eq_getElem (by omega)] at hg
        obtain rfl := Option.some.inj hg
        exact hc
  obtain ⟨m, h1, h2, h3⟩ := h l.length (Nat.le_refl _)
  exact ⟨m, h1, h2, fun i g hi hg => h3 i g hi (List.getElem?_eq_some_iff.1 hg).1 hg⟩
theorem trim_ev {l : List Gl} {m : Nat} (hm : IsTrim l m) (h : l.length < 17592186044416) : Ev (fun k => cells_Trim.f k l) (l.take m) := by
  have hle := hm.le
  have hend : (if 0 ≤ (m : Int) then (if (m : Int) ≤ (l.length : Int) then ((clone_G.f (l.take (m : Int).toNat)).bind fun t286 => (some t286)) else (none)) else (none)) = some (l.take m) := by
    rw [if_pos (by omega), if_pos (by omega), Int.toNat_natCast, clone_eq (by rw [List.length_take]; omega), Option.bind_some]
  have key : ∀ d n, n - m = d → m ≤ n → n ≤ l.length → Ev (fun k => cells_Trim.l0 k l (n : Int)) (l.take m) := by
    intro d
    induction d with
    | zero =>
      intro n hd h1 h2
      obtain rfl : n = m := by omega
      refine Ev.step (f := fun _ => some (l.take n)) (fun k => ?_) (Ev.now _)
      simp only [cells_Trim.l0]
      by_cases hp : 0 < n
      · have hg := hm.last l[n - 1] hp (List.getElem?_eq_getElem (by omega))
        rw [if_pos (by omega), wrap_of (by omega) (by omega), show (n : Int) - 1 = ((n - 1 : Nat) : Int) by omega, if_pos (by omega), if_pos (by omega), rdG l (n - 1) (by omega), if_neg hg, hend]
      · rw [if_neg (by omega), hend]
    | succ d ih =>
      intro n hd h1 h2
      have hg := hm.rest (n - 1) (l[n - 1]'(by omega)) (by omega) (List.getElem?_eq_getElem (by omega))
      refine Ev.step (f := fun k => cells_Trim.l0 k l ((n - 1 : Nat) : Int)) (fun k => ?_) (ih (n - 1) (by omega) (by omega) (by omega))
      simp only [cells_Trim.l0]
      rw [if_pos (by omega), wrap_of (by omega) (by omega), show (n : Int) - 1 = ((n - 1 : Nat) : Int) by omega, if_pos (by omega), if_pos (by omega), rdG l (n - 1) (by omega), if_pos hg]
  unfold cells_Trim.f
  exact key (l.length - m) l.length rfl hle (Nat.le_refl _)
end Go.Proofs.YtdjepocklmlnbaaDoor.Pure

/- A row made normal, and erased: package plain's and the reference's. -/
namespace Go.Proofs.YtdjepocklmlnbaaDoor.Pure
open Go.RowKit Go.Proofs.YtdjepocklmlnbaaDoorW.PrintWords Go.Proofs.YtdjepocklmlnbaaDoorW.PrintLast Go.Proofs.YtdjepocklmlnbaaDoorW.PrintMore Go.Proofs.YtdjepocklmlnbaaDoor.X Go.Proofs.YtdjepocklmlnbaaDoor.Hand
set_option linter.unusedSimpArgs false
set_option linter.unusedVariables false
/-- How a glyph is set, behind one that is set as p (none: first). -/
def setOf (p : Option Int) (g : Gl) : Int := if g.f0 = 32 then 0 else match p with | some s => if wid g.f0 = 0 then s else g.f1 | none => g.f1
def normGo : Option Int → List Gl → List Gl
  | _, [] => []
  | p, g :: t => ⟨g.f0, setOf p g⟩ :: normGo (some (setOf p g)) t
/-- How the last is set. -/
def lastS (o : List Gl) : Option Int := o.getLast?.map (·.f1)
theorem lastS_snoc (o : List Gl) (g : Gl) : lastS (o ++ [g]) = some g.f1 := by simp [lastS]
theorem normGo_length : ∀ (l : List Gl) (p : Option Int), (normGo p l).length = l.length
  | [], _ => rfl
  | g :: t, p => by rw [normGo, List.length_cons, normGo_length t, List.length_cons]
theorem set_mid (o : List Gl) (g x : Gl) (t : List Gl) : (o ++ g :: t).set o.length x = (o ++ [x]) ++ t := by
  rw [List.set_append_right _ _ (Nat.le_refl _), Nat.sub_self, List.set_cons_zero, List.append_assoc]
  rfl
theorem rd_mid (o : List Gl) (g : Gl) (t : List Gl) : rd_T44 (o ++ g :: t) (o.length : Int) = g := by
  rw [rdG _ _ (by rw [List.length_append, List.length_cons]; omega)]
  simp
theorem rd_before (o : List Gl) (y g : Gl) (t : List Gl) : rd_T44 ((o ++ [y]) ++ g :: t) (((o ++ [y]).length - 1 : Nat) : Int) = y := by
  have e : (o ++ [y]).length - 1 = o.length := by simp
  rw [e, rdG _ _ (by rw [List.length_append, List.length_append, List.length_singleton, List.length_cons]; omega)]
  simp
theorem normal_ev (l : List Gl) {m : Nat} (hm : IsTrim (clean l) m) (h : l.length ≤ 1000000) : Ev (fun k => plain_Normal.f k l) (normGo none ((clean l).take m)) := by
  have hcl := clean_length l
  unfold plain_Normal.f
  refine Ev.bind (clean_ev l (by omega)) (Ev.bind (trim_ev hm (by omega)) ?_)
  have hlen : ((clean l).take m).length ≤ 1000000 := by rw [List.length_take]; omega
  generalize (clean l).take m = c at hlen
  refine ev_eq (loop_up (fun k o i => plain_Normal.l0 k (o ++ c.drop o.length) (c.length : Int) i) c.length (fun o i => o ++ normGo (lastS o) (c.drop i)) (fun o i => o.length = i) ?_ ?_ [] 0 (by omega) rfl) (by simp [lastS])
  · intro o ho
    refine Ev.step (f := fun _ => some (o ++ c.drop o.length)) (fun k => by simp only [plain_Normal.l0]; rw [if_neg (by omega)]) (ev_eq (Ev.now _) ?_)
    rw [ho, List.drop_length, normGo]
  · intro o i hi ho ih
    subst ho
    obtain ⟨g, t, hgt⟩ : ∃ g t, c.drop o.length = g :: t := ⟨c[o.length], c.drop (o.length + 1), List.drop_eq_getElem_cons hi⟩
    have ht : c.drop (o.length + 1) = t := by
      have := List.drop_eq_getElem_cons hi
      rw [hgt] at this
      injection this with _ h2
      exact h2.symm
    have hxl : (o ++ g :: t).length = c.length := by
      have := congrArg List.length hgt
      rw [List.length_drop] at this
      rw [List.length_append, ← this]
      omega
    have hnext : ∀ x : Gl, x = ⟨g.f0, setOf (lastS o) g⟩ → Ev (fun k => plain_Normal.l0 k ((o ++ [x]) ++ t) (c.length : Int) ((o.length + 1 : Nat) : Int)) (o ++ normGo (lastS o) (g :: t)) := by
      intro x hx
      have h1 := ih (o ++ [x]) (by simp)
      rw [show (o ++ [x]).length = o.length + 1 by simp, ht] at h1
      refine ev_eq h1 ?_
      rw [lastS_snoc, normGo, hx, List.append_assoc]
      rfl
    have hsame : ∀ x : Gl, x = g → (o ++ [x]) ++ t = o ++ g :: t := by
      intro x hx
      rw [hx, List.append_assoc]
      rfl
    rw [hgt]
    by_cases h32 : g.f0 = 32
    · refine Ev.step (f := fun k => plain_Normal.l0 k ((o ++ [⟨g.f0, 0⟩]) ++ t) (c.length : Int) ((o.length + 1 : Nat) : Int)) (fun k => ?_) (hnext ⟨g.f0, 0⟩ (by simp [setOf, h32]))
      simp only [plain_Normal.l0]
      rw [if_pos (by omega), if_pos (by omega), if_pos (by omega), rd_mid, if_pos h32, Int.toNat_natCast, set_mid, wrap_up hi (by omega)]
    · rcases List.eq_nil_or_concat o with ho | ⟨o', y, ho⟩
      · have hn := hnext g (gl_ext rfl (by simp [setOf, h32, ho, lastS]))
        rw [hsame g rfl] at hn
        refine Ev.step (f := fun k => plain_Normal.l0 k (o ++ g :: t) (c.length : Int) ((o.length + 1 : Nat) : Int)) (fun k => ?_) hn
        have h0 : o.length = 0 := by rw [ho]; rfl
        simp only [plain_Normal.l0]
        rw [if_pos (by omega), if_pos (by omega), if_pos (by omega), rd_mid, if_neg h32, if_neg (by omega), wrap_up hi (by omega)]
      · rw [List.concat_eq_append] at ho
        have hol : o.length = o'.length + 1 := by rw [ho]; simp
        have hls : lastS o = some y.f1 := by rw [ho, lastS_snoc]
        have hprev : rd_T44 (o ++ g :: t) ((o.length - 1 : Nat) : Int) = y := by
          rw [ho]
          exact rd_before o' y g t
        by_cases hz : wid g.f0 = 0
        · refine Ev.step (fun k => ?_) (hnext ⟨g.f0, y.f1⟩ (by simp [setOf, h32, hls, hz]))
          simp only [plain_Normal.l0]
          rw [if_pos (by omega), if_pos (by omega), if_pos (by omega), rd_mid, if_neg h32, if_pos (by omega), show runes_Width.f g.f0 = some (wid g.f0) from rfl, Option.bind_some, if_pos hz, wrap_of (x := (o.length : Int) - 1) (by omega) (by omega), show (o.length : Int) - 1 = ((o.length - 1 : Nat) : Int) by omega, if_pos (by omega), if_pos (by omega), hprev, Int.toNat_natCast, set_mid, wrap_up hi (by omega)]
        · have hn := hnext g (gl_ext rfl (by simp [setOf, h32, hls, hz]))
          rw [hsame g rfl] at hn
          refine Ev.step (fun k => ?_) hn
          simp only [plain_Normal.l0]
          rw [if_pos (by omega), if_pos (by omega), if_pos (by omega), rd_mid, if_neg h32, if_pos (by omega), show runes_Width.f g.f0 = some (wid g.f0) from rfl, Option.bind_some, if_neg hz, wrap_up hi (by omega)]
end Go.Proofs.YtdjepocklmlnbaaDoor.Pure

/- Rows as they may be written. -/
namespace Go.Proofs.YtdjepocklmlnbaaDoor.Pure
open Go.RowKit Go.Proofs.YtdjepocklmlnbaaDoorW.PrintWords Go.Proofs.YtdjepocklmlnbaaDoorW.PrintLast Go.Proofs.YtdjepocklmlnbaaDoorW.PrintMore Go.Proofs.YtdjepocklmlnbaaDoor.X Go.Proofs.YtdjepocklmlnbaaDoor.Hand
set_option linter.unusedSimpArgs false
set_option linter.unusedVariables false
/-- A row, normal. -/
noncomputable def nrm (l : List Gl) : List Gl := normGo none ((clean l).take (exists_trim (clean l)).choose)
theorem nrm_length (l : List Gl) : (nrm l).length ≤ l.length := by
  have := clean_length l
  unfold nrm
  rw [normGo_length, List.length_take]
  omega
end Go.Proofs.YtdjepocklmlnbaaDoor.Pure

/- A list of numbers, read at a place. -/
namespace Go.Proofs.YtdjepocklmlnbaaDoor.Pure
open Go.RowKit Go.Proofs.YtdjepocklmlnbaaDoorW.PrintWords Go.Proofs.YtdjepocklmlnbaaDoorW.PrintLast Go.Proofs.YtdjepocklmlnbaaDoorW.PrintMore
set_option linter.unusedSimpArgs false
set_option linter.unusedVariables false
theorem rd_nat (l : List Int) (i : Nat) (h : i < l.length) : rd l (i : Int) = l[i] := by
  simp [rd, List.getD_eq_getElem?_getD, List.getElem?_eq_getElem h]
end Go.Proofs.YtdjepocklmlnbaaDoor.Pure

/- What package runes computes of bytes and of rows: its printed functions answer by plain functions. -/
namespace Go.Proofs.YtdjepocklmlnbaaDoor.Pure
open Go.RowKit Go.Proofs.YtdjepocklmlnbaaDoorW.PrintWords Go.Proofs.YtdjepocklmlnbaaDoorW.PrintLast Go.Proofs.YtdjepocklmlnbaaDoorW.PrintMore Go.Proofs.YtdjepocklmlnbaaDoor.X Go.Proofs.YtdjepocklmlnbaaDoor.Hand
set_option linter.unusedSimpArgs false
set_option linter.unusedVariables false

theorem size_eq (a : Int) : runes_size.f a = some (if a < 128 then 1 else if a < 2048 then 2 else if a < 65536 then 3 else 4) := by
  unfold runes_size.f
  repeat' split
  all_goals rfl
theorem i32_and63 {x : Int} (h₀ : 0 ≤ x) (h₁ : x < 2147483648) : Go.bits .and .i32 x 63 = x % 64 := bits_mask .i32 31 (by decide) wraps_i32 6 (by decide) x h₀ h₁
theorem step_one (x : Int) (n : Int) (b : List Int) (i : Nat) (hx : 0 ≤ x) (hx1 : x < 2147483648) (hi : 0 < i) (hib : i < b.length) (hb : b.length ≤ 4) (r : List Int)
    (k : Ev (fun k => runes_one.l0 k (x / 64) n (b.set i (128 + x % 64)) ((i : Int) - 1)) r) : Ev (fun k => runes_one.l0 k x n b (i : Int)) r := by
  refine Ev.step (f := fun k => runes_one.l0 k (x / 64) n (b.set i (128 + x % 64)) ((i : Int) - 1)) (fun k => ?_) k
  simp only [runes_one.l0]
  rw [if_pos (by omega), if_pos (by omega), if_pos (by omega), i32_and63 hx hx1, show (x % 64) % 256 = x % 64 from by omega, u8_or128 (x % 64) (by omega) (by omega), wrap_of (x := (i : Int) - 1) (by omega) (by omega), Int.toNat_natCast]
theorem last_one (x : Int) (n : Int) (b : List Int) (h : Int) (hn : 0 ≤ n) (hb : 0 < b.length) (hv : Go.bits .or .u8 ((shr .i64 3840 n) % 256) (x % 256) = h) : Ev (fun k => runes_one.l0 k x n b 0) (b.set 0 h) := by
  refine Ev.step (f := fun _ => some (b.set 0 h)) (fun k => ?_) (Ev.now _)
  simp only [runes_one.l0]
  rw [if_neg (by omega), if_pos hn, if_pos (by omega), hv]
  rfl
theorem one_j {x : Int} (h : validB x = true) : Ev (fun k => runes_one.j0 k x) (enc x) := by
  have h' := (validB_iff x).1 h
  refine Ev.step (f := fun k => (runes_size.f x).bind fun t => if t = 1 then some [x % 256] else if 0 ≤ t then (if (t : Int).toNat ≤ 281474976710656 then runes_one.l0 k x t (List.replicate (t : Int).toNat 0) (wrap64 (t - 1)) else none) else none) (fun k => by simp only [runes_one.j0]) ?_
  refine ev_bind1 (size_eq x) ?_
  unfold enc
  by_cases h1 : x < 128
  · simp only [h1, if_true]
    refine ev_eq (Ev.now _) ?_
    rw [show x % 256 = x from by omega]
  · by_cases h2 : x < 2048
    · simp only [h1, h2, if_true, if_false]
      refine ev_neg (by omega) (ev_pos (by omega) (ev_pos (by decide) ?_))
      refine Ev.congr (f := fun k => runes_one.l0 k x 2 [0, 0] ((1 : Nat) : Int)) (fun k => by rw [wrap_of (by omega) (by omega)]; rfl) ?_
      refine step_one x 2 [0, 0] 1 (by omega) (by omega) (by omega) (by simp) (by simp) _ ?_
      refine ev_eq (last_one (x / 64) 2 _ (192 + x / 64) (by omega) (by simp) ?_) (by rfl)
      rw [show (shr .i64 3840 2) % 256 = 192 by decide +kernel, show (x / 64) % 256 = x / 64 from by omega]
      exact u8_or192 _ (by omega) (by omega)
    · by_cases h3 : x < 65536
      · simp only [h1, h2, h3, if_true, if_false]
        refine ev_neg (by omega) (ev_pos (by omega) (ev_pos (by decide) ?_))
        refine Ev.congr (f := fun k => runes_one.l0 k x 3 [0, 0, 0] ((2 : Nat) : Int)) (fun k => by rw [wrap_of (by omega) (by omega)]; rfl) ?_
        refine step_one x 3 [0, 0, 0] 2 (by omega) (by omega) (by omega) (by simp) (by simp) _ ?_
        refine step_one (x / 64) 3 _ 1 (by omega) (by omega) (by omega) (by simp) (by simp) _ ?_
        refine ev_eq (last_one (x / 64 / 64) 3 _ (224 + x / 4096) (by omega) (by simp) ?_) (by rfl)
        rw [show (shr .i64 3840 3) % 256 = 224 by decide +kernel, show (x / 64 / 64) % 256 = x / 4096 from by omega]
        exact u8_or224 _ (by omega) (by omega)
      · simp only [h1, h2, h3, if_false]
        refine ev_neg (by omega) (ev_pos (by omega) (ev_pos (by decide) ?_))
        refine Ev.congr (f := fun k => runes_one.l0 k x 4 [0, 0, 0, 0] ((3 : Nat) : Int)) (fun k => by rw [wrap_of (by omega) (by omega)]; rfl) ?_
        refine step_one x 4 [0, 0, 0, 0] 3 (by omega) (by omega) (by omega) (by simp) (by simp) _ ?_
        refine step_one (x / 64) 4 _ 2 (by omega) (by omega) (by omega) (by simp) (by simp) _ ?_
        refine step_one (x / 64 / 64) 4 _ 1 (by omega) (by omega) (by omega) (by simp) (by simp) _ ?_
        refine ev_eq (last_one (x / 64 / 64 / 64) 4 _ (240 + x / 262144) (by omega) (by simp) ?_) ?_
        · rw [show (shr .i64 3840 4) % 256 = 240 by decide +kernel, show (x / 64 / 64 / 64) % 256 = x / 262144 from by omega]
          exact u8_or240 _ (by omega) (by omega)
        · simp
          omega
theorem one_ev (r : Int) : Ev (fun k => runes_one.f k r) (one r) := by
  unfold runes_one.f
  refine ev_bind1 (valid_eq r) (ev_ite (fun h => ?_) (fun h => ?_))
  · exact ev_eq (one_j h) (by simp [one, h])
  · exact ev_eq (one_j valid_odd) (by simp [one, h])

theorem encode_l (l : List Int) : ∀ (d i : Nat) (o : List Int), l.length - i = d → i ≤ l.length → o.length + 4 * (l.length - i) < 140737488355328 → l.length ≤ 9223372036854775807 →
    Ev (fun k => runes_Encode.l0 k o l (l.length : Int) (i : Int)) (o ++ encode (l.drop i)) := by
  intro d
  induction d with
  | zero =>
    intro i o hd hi ho hl
    refine Ev.step (f := fun _ => some o) (fun k => ?_) (ev_eq (Ev.now _) ?_)
    · simp only [runes_Encode.l0]
      rw [if_neg (by omega)]
    · rw [List.drop_eq_nil_of_le (by omega)]
      simp [encode_nil]
  | succ d ih =>
    intro i o hd hi ho hl
    have hlt : i < l.length := by omega
    have h1 := one_len l[i]
    refine Ev.step (f := fun k => (runes_one.f k l[i]).bind fun t => if o.length + t.length < 140737488355328 then runes_Encode.l0 k (o ++ t) l (l.length : Int) ((i + 1 : Nat) : Int) else none) (fun k => ?_) ?_
    · simp only [runes_Encode.l0]
      rw [if_pos (by omega), if_pos (by omega), if_pos (by omega), rd_nat l i hlt, wrap_of (by omega) (by omega)]
      rfl
    · refine Ev.bind (one_ev _) (ev_pos (by omega) (ev_eq (ih (i + 1) _ (by omega) (by omega) (by rw [List.length_append]; omega) hl) ?_))
      rw [List.drop_eq_getElem_cons hlt, encode_cons, List.append_assoc]
theorem encode_ev (l : List Int) (h : 4 * l.length < 140737488355328) : Ev (fun k => runes_Encode.f k l) (encode l) := by
  unfold runes_Encode.f
  exact ev_eq (encode_l l l.length 0 [] (by omega) (by omega) (by simpa using h) (by omega)) (by simp)

/-! ### reading -/
end Go.Proofs.YtdjepocklmlnbaaDoor.Pure

/- Package cells: a row's runes, its text; a text's glyphs. -/
namespace Go.Proofs.YtdjepocklmlnbaaDoor.Pure
open Go.RowKit Go.Proofs.YtdjepocklmlnbaaDoorW.PrintWords Go.Proofs.YtdjepocklmlnbaaDoorW.PrintLast Go.Proofs.YtdjepocklmlnbaaDoorW.PrintMore Go.Proofs.YtdjepocklmlnbaaDoor.X Go.Proofs.YtdjepocklmlnbaaDoor.Hand
set_option linter.unusedSimpArgs false
set_option linter.unusedVariables false

/-- The runes of a row. -/
def runesOf (l : List Gl) : List Int := l.map (·.f0)
def ofRunes (s : Int) (l : List Int) : List Gl := l.map (fun r => ⟨r, s⟩)
theorem ofRunes_append (s : Int) (a b : List Int) : ofRunes s (a ++ b) = ofRunes s a ++ ofRunes s b := by simp [ofRunes]
theorem ofRunes_length (s : Int) (l : List Int) : (ofRunes s l).length = l.length := by simp [ofRunes]
theorem runesOf_nil : runesOf [] = [] := rfl
theorem runesOf_cons (g : Gl) (l : List Gl) : runesOf (g :: l) = g.f0 :: runesOf l := rfl
theorem runesOf_length (l : List Gl) : (runesOf l).length = l.length := by simp [runesOf]
theorem text_ev (l : List Gl) (h : l.length < 8796093022208) : Ev (fun k => cells_Text.f k l) (strOfNums (encode (runesOf l))) := by
  unfold cells_Text.f
  refine ev_eq (loop_up (fun k o i => cells_Text.l0 k o l (l.length : Int) i) l.length (fun o i => strOfNums (encode (o ++ runesOf (l.drop i)))) (fun o i => o.length = i) ?_ ?_ [] 0 (by omega) rfl) (by simp)
  · intro o ho
    refine Ev.step (f := fun k => (runes_Encode.f k o).bind fun t => some (strOfNums t)) (fun k => by simp only [cells_Text.l0]; rw [if_neg (by omega)]) (Ev.bind (encode_ev o (by omega)) (ev_eq (Ev.now _) (by rw [List.drop_length, runesOf_nil, List.append_nil])))
  · intro o i hi ho ih
    refine Ev.step (f := fun k => cells_Text.l0 k (o ++ [l[i].f0]) l (l.length : Int) ((i + 1 : Nat) : Int)) (fun k => ?_) (ev_eq (ih (o ++ [l[i].f0]) (by simp [ho])) ?_)
    · simp only [cells_Text.l0]
      rw [if_pos (by omega), if_pos (by omega), if_pos (by omega), if_pos (by omega), rdG l i hi, wrap_up hi (by omega)]
    · rw [List.drop_eq_getElem_cons hi, runesOf_cons, List.append_assoc]
      rfl
end Go.Proofs.YtdjepocklmlnbaaDoor.Pure

/- Numbers as a text, and back. -/
namespace Go.Proofs.YtdjepocklmlnbaaDoor.Pure
open Go Go.RowKit Go.Proofs.YtdjepocklmlnbaaDoorW.PrintWords Go.Proofs.YtdjepocklmlnbaaDoorW.PrintLast Go.Proofs.YtdjepocklmlnbaaDoorW.PrintMore Go.Proofs.YtdjepocklmlnbaaDoor.X Go.Proofs.YtdjepocklmlnbaaDoor.Hand
set_option linter.unusedSimpArgs false
set_option linter.unusedVariables false
theorem numsStr_append (a b : List Int) : strOfNums (a ++ b) = strOfNums a ++ strOfNums b := by
  apply ByteArray.ext
  apply Array.ext'
  rw [ByteArray.data_append, Array.toList_append, strOfNums_data, strOfNums_data, strOfNums_data, List.map_append]
theorem numsStr_size (a : List Int) : (strOfNums a).size = a.length := by
  rw [← data_length, strOfNums_data, List.length_map]
theorem numsStr_back {b : List Int} (hb : Bytes b) : bytesOf (strOfNums b) = b := by
  unfold bytesOf
  rw [strOfNums_data, List.map_map]
  conv => rhs; rw [← List.map_id b]
  apply List.map_congr_left
  intro x hx
  have := hb x hx
  simp
  omega
end Go.Proofs.YtdjepocklmlnbaaDoor.Pure

/- Rows with signs: the package's. -/
namespace Go.Proofs.YtdjepocklmlnbaaDoor.Pure
open Go Go.RowKit Go.Proofs.YtdjepocklmlnbaaDoorW.PrintWords Go.Proofs.YtdjepocklmlnbaaDoorW.PrintLast Go.Proofs.YtdjepocklmlnbaaDoorW.PrintMore Go.Proofs.YtdjepocklmlnbaaDoor.X Go.Proofs.YtdjepocklmlnbaaDoor.Hand
set_option linter.unusedSimpArgs false
set_option linter.unusedVariables false
theorem sign_size (i : Nat) : (signS i).size ≤ 6 := by
  match i with
  | 0 | 1 | 2 => decide
  | _ + 3 => show (⟨#[27, 91, 49, 59, 52, 109]⟩ : ByteArray).size ≤ 6; decide
theorem sgL_length (s : Int) : (sgL s).length ≤ 6 := by
  unfold sgL
  rw [bytesOf_length]
  exact sign_size _
theorem signS_str (i : Nat) : signS i = strOfNums (bytesOf (signS i)) := by
  match i with
  | 0 | 1 | 2 => decide +kernel
  | _ + 3 => show (⟨#[27, 91, 49, 59, 52, 109]⟩ : ByteArray) = strOfNums (bytesOf ⟨#[27, 91, 49, 59, 52, 109]⟩); decide +kernel
theorem sgL_Bytes (s : Int) : Bytes (sgL s) := by
  intro x hx
  unfold sgL bytesOf at hx
  obtain ⟨u, _, rfl⟩ := List.mem_map.1 hx
  have := u.toNat_lt
  omega
theorem sign_eq {s : Int} (h : 0 ≤ s ∧ s ≤ 255) : ansi_Sign.f s = some (strOfNums (sgL s)) := by
  unfold ansi_Sign.f
  rw [if_pos h, sgL, ← signS_str]
theorem setOf_range {p : Option Int} {g : Gl} (hp : ∀ s, p = some s → 0 ≤ s ∧ s ≤ 3) (hg : 0 ≤ g.f1 ∧ g.f1 ≤ 3) : 0 ≤ setOf p g ∧ setOf p g ≤ 3 := by
  unfold setOf
  split
  · omega
  · cases p with
    | none => exact hg
    | some s =>
      simp only
      split
      · exact hp s rfl
      · exact hg
theorem normGo_range : ∀ (l : List Gl) (p : Option Int), (∀ s, p = some s → 0 ≤ s ∧ s ≤ 3) → (∀ g ∈ l, 0 ≤ g.f1 ∧ g.f1 ≤ 3) → ∀ g ∈ normGo p l, 0 ≤ g.f1 ∧ g.f1 ≤ 3
  | [], _, _, _, g, h => by simp [normGo] at h
  | x :: t, p, hp, hl, g, h => by
    have hx := setOf_range hp (hl x (by simp))
    rw [normGo] at h
    rcases List.mem_cons.1 h with rfl | h
    · exact hx
    · exact normGo_range t _ (fun s e => by injection e with e; rw [← e]; exact hx) (fun y hy => hl y (by simp [hy])) g h
theorem rowB_ev : ∀ (rs : List (List Gl)) (o : List Int), (∀ y ∈ rs, 0 < y.length ∧ y.length ≤ 5000 ∧ ∀ g ∈ y, 0 ≤ g.f1 ∧ g.f1 ≤ 255) → o.length + 30000 * rs.length ≤ 1000000000 → Ev (fun k => rowB k rs o) (o ++ outB rs)
  | [], o, _, _ => ev_eq (Ev.now _) (by simp [outB])
  | y :: t, o, h, hl => by
    obtain ⟨hp, hy, hs⟩ := h y (by simp)
    have hen := encode_length (runesOf y)
    rw [runesOf_length] at hen
    have hhd : hd y = rd_T44 y 0 := rfl
    have hs0 : 0 ≤ (hd y).f1 ∧ (hd y).f1 ≤ 255 := by
      rw [hd_eq hp]
      exact hs _ (List.getElem_mem hp)
    have e1 : outB (y :: t) = runB y ++ outB t := by simp [outB]
    rw [e1]
    simp only [List.length_cons] at hl
    have hsl := sgL_length (hd y).f1
    have hsl0 := sgL_length 0
    rw [hhd] at hs0 hsl
    simp only [rowB]
    refine ev_neg (by omega) (ev_ite (fun h0 => ?_) (fun h0 => ?_))
    · refine Ev.bind (text_ev _ (by omega)) (ev_pos (by rw [numsStr_size]; omega) ?_)
      rw [numsStr_back (encode_bytes _)]
      refine ev_eq (rowB_ev t _ (fun x hx => h x (by simp [hx])) (by rw [List.length_append]; omega)) ?_
      rw [runB, hhd, if_pos h0, List.append_assoc]
      rfl
    · refine ev_bind1 (sign_eq hs0) (Ev.bind (text_ev _ (by omega)) (ev_bind1 (sign_eq (by decide)) (ev_pos (by rw [numsStr_size, numsStr_size, numsStr_size]; omega) ?_)))
      rw [numsStr_back (encode_bytes _), numsStr_back (sgL_Bytes _), numsStr_back (sgL_Bytes _)]
      refine ev_eq (rowB_ev t _ (fun x hx => h x (by simp [hx])) (by simp only [List.length_append]; omega)) ?_
      rw [runB, hhd, if_neg h0]
      simp only [List.append_assoc]
      rfl
theorem nrm_set {l : List Gl} (h : ∀ g ∈ l, 0 ≤ g.f1 ∧ g.f1 ≤ 255) : ∀ g ∈ nrm l, 0 ≤ g.f1 ∧ g.f1 ≤ 3 :=
  normGo_range _ none (fun s e => by cases e) (fun g hg => by
    have := clean_Cl l h g (List.mem_of_mem_take hg)
    exact ⟨this.2.2.1, this.2.2.2.1⟩)
theorem part_le : ∀ (rs : List (List Gl)) (y : List Gl), y ∈ rs → y.length ≤ rs.flatten.length ∧ ∀ g ∈ y, g ∈ rs.flatten
  | [], y, h => by simp at h
  | z :: t, y, h => by
    rw [List.flatten_cons, List.length_append]
    rcases List.mem_cons.1 h with rfl | h
    · exact ⟨by omega, fun g hg => List.mem_append_left _ hg⟩
    · have := part_le t y h
      exact ⟨by omega, fun g hg => List.mem_append_right _ (this.2 g hg)⟩
theorem row_ev {l : List Gl} (hl : l.length ≤ 3000) (h : ∀ g ∈ l, 0 ≤ g.f1 ∧ g.f1 ≤ 255) : Ev (fun k => ansi_Row.f k l) (refGo (nrm l) 0) := by
  have hn := nrm_length l
  have hset := nrm_set h
  have hnl := normal_ev l (exists_trim (clean l)).choose_spec (by omega)
  change Ev _ (nrm l) at hnl
  unfold ansi_Row.f
  refine Ev.bind hnl ?_
  revert hn hset
  generalize nrm l = c
  intro hn hset
  have hi := runs_IsRuns c
  have hrl := runs_length c.length c (Nat.le_refl _)
  refine ev_bind1 (a := runs c) (by unfold cells_Runs.f; rw [if_pos (by omega)]) (ev_pos (by omega) (ev_eq (rowB_ev (runs c) [] (fun y hy => ?_) (by simp only [List.length_nil]; omega)) (by rw [List.nil_append, outB_eq _ _ hi])))
  have hp := part_le (runs c) y hy
  rw [hi.flat] at hp
  exact ⟨hi.pos y hy, by omega, fun g hg => by have := hset g (hp.2 g hg); omega⟩
end Go.Proofs.YtdjepocklmlnbaaDoor.Pure

/- Whether bytes begin so: strings.HasPrefix. -/
namespace Go.Proofs.YtdjepocklmlnbaaDoor.Pure
open Go Go.RowKit Go.Proofs.YtdjepocklmlnbaaDoorW.PrintWords Go.Proofs.YtdjepocklmlnbaaDoorW.PrintLast Go.Proofs.YtdjepocklmlnbaaDoorW.PrintMore Go.Proofs.YtdjepocklmlnbaaDoor.X Go.Proofs.YtdjepocklmlnbaaDoor.Hand
set_option linter.unusedSimpArgs false
set_option linter.unusedVariables false
theorem str_part (c : List Int) (i j : Nat) : (strOfNums c).extract i j = strOfNums ((c.take j).drop i) := by
  apply ByteArray.ext
  apply Array.ext'
  rw [ByteArray.data_extract, Array.toList_extract, strOfNums_data, strOfNums_data, List.extract_eq_take_drop, List.drop_take, List.map_take, List.map_drop]
theorem str_same {a b : List Int} (ha : Bytes a) (hb : Bytes b) : ((strOfNums a).toList == (strOfNums b).toList) = decide (a = b) := by
  have key : (strOfNums a).toList = (strOfNums b).toList ↔ a = b := by
    rw [ByteArray.toList_eq, ByteArray.toList_eq]
    constructor
    · intro h
      have h2 : bytesOf (strOfNums a) = bytesOf (strOfNums b) := by unfold bytesOf; rw [h]
      rwa [numsStr_back ha, numsStr_back hb] at h2
    · intro h
      rw [h]
  by_cases h : a = b
  · rw [decide_eq_true h, beq_iff_eq]
    exact key.2 h
  · rw [decide_eq_false h, beq_eq_false_iff_ne]
    exact fun e => h (key.1 e)
theorem prefix_eq {b p : List Int} (hb : Bytes b) (hp : Bytes p) : strings_HasPrefix.f (strOfNums b) (strOfNums p) = some (decide (p <+: b)) := by
  unfold strings_HasPrefix.f stringslite_HasPrefix.f
  rw [numsStr_size, numsStr_size]
  by_cases h : p.length ≤ b.length
  · rw [if_pos (by omega), if_pos (by omega), if_pos (by omega), Option.bind_some, str_part, Int.toNat_natCast, List.drop_zero, str_same (fun x hx => hb x (List.mem_of_mem_take hx)) hp]
    congr 1
    rw [decide_eq_decide, List.prefix_iff_eq_take]
    exact eq_comm
  · rw [if_neg (by omega), Option.bind_some]
    congr 1
    symm
    rw [decide_eq_false_iff_not]
    exact fun e => h e.length_le
end Go.Proofs.YtdjepocklmlnbaaDoor.Pure

/- The sign that bytes begin with; bytes of which each 27 begins a sign, and how many there are. -/
namespace Go.Proofs.YtdjepocklmlnbaaDoor.Pure
open Go Go.RowKit Go.Proofs.YtdjepocklmlnbaaDoorW.PrintWords Go.Proofs.YtdjepocklmlnbaaDoorW.PrintLast Go.Proofs.YtdjepocklmlnbaaDoorW.PrintMore Go.Proofs.YtdjepocklmlnbaaDoor.X Go.Proofs.YtdjepocklmlnbaaDoor.Hand
set_option linter.unusedSimpArgs false
set_option linter.unusedVariables false
/-- The sign that bytes begin with: how it sets, and how long it is. -/
def sgn (b : List Int) : Option (Int × Nat) :=
  if sgL 0 <+: b then some (0, 4) else if sgL 1 <+: b then some (1, 4) else if sgL 2 <+: b then some (2, 4) else if sgL 3 <+: b then some (3, 6) else none
/-- Signs' answer. -/
def sgnV (b : List Int) : Int × Int × Bool := match sgn b with | some (s, n) => (s, (n : Int), true) | none => (0, 0, false)
theorem signs_eq {b : List Int} (hb : Bytes b) : ansi_Signs.f b = some (sgnV b) := by
  have e0 : signS 0 = strOfNums (sgL 0) := signS_str 0
  have e1 : signS 1 = strOfNums (sgL 1) := signS_str 1
  have e2 : signS 2 = strOfNums (sgL 2) := signS_str 2
  have e3 : signS 3 = strOfNums (sgL 3) := signS_str 3
  unfold ansi_Signs.f
  rw [show (4 : Nat) = 3 + 1 from rfl, ansi_Signs.l, show (3 : Nat) = 2 + 1 from rfl, ansi_Signs.l, show (2 : Nat) = 1 + 1 from rfl, ansi_Signs.l, show (1 : Nat) = 0 + 1 from rfl, ansi_Signs.l, ansi_Signs.l]
  simp only [Nat.zero_add, Nat.reduceAdd]
  rw [e0, e1, e2, e3, prefix_eq hb (sgL_Bytes 0), prefix_eq hb (sgL_Bytes 1), prefix_eq hb (sgL_Bytes 2), prefix_eq hb (sgL_Bytes 3)]
  simp only [Option.bind_some, decide_eq_true_eq, numsStr_size]
  unfold sgnV sgn
  split
  · rfl
  · split
    · rfl
    · split
      · rfl
      · split
        · rfl
        · rfl
theorem sgn_some {b : List Int} {s : Int} {n : Nat} (h : sgn b = some (s, n)) : 0 ≤ s ∧ s ≤ 3 ∧ n = (sgL s).length ∧ sgL s <+: b := by
  unfold sgn at h
  split at h
  · rename_i hp
    cases h
    exact ⟨by decide, by decide, by decide +kernel, hp⟩
  · split at h
    · rename_i hp
      cases h
      exact ⟨by decide, by decide, by decide +kernel, hp⟩
    · split at h
      · rename_i hp
        cases h
        exact ⟨by decide, by decide, by decide +kernel, hp⟩
      · split at h
        · rename_i hp
          cases h
          exact ⟨by decide, by decide, by decide +kernel, hp⟩
        · cases h
def c27 (b : List Int) : Nat := b.countP (fun x => x == 27)
end Go.Proofs.YtdjepocklmlnbaaDoor.Pure

/- The first rune of bytes. -/
namespace Go.Proofs.YtdjepocklmlnbaaDoor.Pure
open Go.RowKit Go.Proofs.YtdjepocklmlnbaaDoorW.PrintWords Go.Proofs.YtdjepocklmlnbaaDoorW.PrintLast Go.Proofs.YtdjepocklmlnbaaDoorW.PrintMore Go.Proofs.YtdjepocklmlnbaaDoor.X Go.Proofs.YtdjepocklmlnbaaDoor.Hand
set_option linter.unusedSimpArgs false
set_option linter.unusedVariables false

theorem u8_and192 {x : Int} (h0 : 0 ≤ x) (h1 : x ≤ 255) : Go.bits .and .u8 x 192 = 128 ↔ (128 ≤ x ∧ x < 192) := by
  have h : ∀ n : Nat, n < 256 → (Go.bits .and .u8 (n : Int) 192 = 128 ↔ (128 ≤ (n : Int) ∧ (n : Int) < 192)) := by decide +kernel
  obtain ⟨n, rfl⟩ := Int.eq_ofNat_of_zero_le h0
  exact h n (by omega)
theorem u8_and224 {x : Int} (h0 : 0 ≤ x) (h1 : x ≤ 255) : Go.bits .and .u8 x 224 = 192 ↔ (192 ≤ x ∧ x < 224) := by
  have h : ∀ n : Nat, n < 256 → (Go.bits .and .u8 (n : Int) 224 = 192 ↔ (192 ≤ (n : Int) ∧ (n : Int) < 224)) := by decide +kernel
  obtain ⟨n, rfl⟩ := Int.eq_ofNat_of_zero_le h0
  exact h n (by omega)
theorem u8_and240 {x : Int} (h0 : 0 ≤ x) (h1 : x ≤ 255) : Go.bits .and .u8 x 240 = 224 ↔ (224 ≤ x ∧ x < 240) := by
  have h : ∀ n : Nat, n < 256 → (Go.bits .and .u8 (n : Int) 240 = 224 ↔ (224 ≤ (n : Int) ∧ (n : Int) < 240)) := by decide +kernel
  obtain ⟨n, rfl⟩ := Int.eq_ofNat_of_zero_le h0
  exact h n (by omega)
theorem u8_and248 {x : Int} (h0 : 0 ≤ x) (h1 : x ≤ 255) : Go.bits .and .u8 x 248 = 240 ↔ (240 ≤ x ∧ x < 248) := by
  have h : ∀ n : Nat, n < 256 → (Go.bits .and .u8 (n : Int) 248 = 240 ↔ (240 ≤ (n : Int) ∧ (n : Int) < 248)) := by decide +kernel
  obtain ⟨n, rfl⟩ := Int.eq_ofNat_of_zero_le h0
  exact h n (by omega)

/-- The value of the bytes behind the first one; none where one is none of these. -/
def accum : Int → List Int → Option Int
  | x, [] => some x
  | x, d :: t => if cont d = true then accum (x * 64 + (d - 128)) t else none
def told (n : Int) : Option Int → Int × Int
  | some x => if validB x = true ∧ (if x < 128 then (1 : Int) else if x < 2048 then 2 else if x < 65536 then 3 else 4) = n then (x, n) else (65533, 1)
  | none => (65533, 1)

theorem first_l (n : Int) (y : List Int) (hy : Bytes y) (hl : y.length ≤ 3) : ∀ (d i : Nat) (x : Int), y.length - i = d → i ≤ y.length → 0 ≤ x → x < 2 ^ (12 + 6 * i) / 128 →
    Ev (fun k => runes_first.l0 k n x y (y.length : Int) (i : Int)) (told n (accum x (y.drop i))) := by
  intro d
  induction d with
  | zero =>
    intro i x hd hi hx hx1
    refine Ev.step (f := fun _ => (runes_Valid.f x).bind fun t => if t = true then ((runes_size.f x).bind fun t => if t = n then some (x, n) else some (65533, 1)) else some (65533, 1)) (fun k => ?_) ?_
    · simp only [runes_first.l0]
      rw [if_neg (by omega)]
    · rw [List.drop_eq_nil_of_le (by omega)]
      refine ev_one ?_
      rw [valid_eq, Option.bind_some, size_eq, Option.bind_some]
      simp only [accum, told]
      by_cases h1 : validB x = true
      · rw [if_pos h1]
        by_cases h2 : (if x < 128 then (1 : Int) else if x < 2048 then 2 else if x < 65536 then 3 else 4) = n
        · rw [if_pos h2, if_pos ⟨h1, h2⟩]
        · rw [if_neg h2, if_neg (fun h => h2 h.2)]
      · rw [if_neg h1, if_neg (fun h => h1 h.1)]
  | succ d ih =>
    intro i x hd hi hx hx1
    have hlt : i < y.length := by omega
    have hb := hy y[i] (List.getElem_mem _)
    have hx2 : x < 33554432 := by
      have : i ≤ 2 := by omega
      rcases (by omega : i = 0 ∨ i = 1 ∨ i = 2) with rfl | rfl | rfl <;> omega
    have hdrop := List.drop_eq_getElem_cons hlt
    by_cases hc : cont y[i] = true
    · have hc' := (cont_iff _).1 hc
      have e1 : wrap32 (Go.bits .and .u8 y[i] 63) = y[i] - 128 := by
        rw [u8_and63 y[i] (by omega) (by omega), wrap32_of (by omega) (by omega)]
        omega
      have e2 : Go.bits .or .i32 (wrap32 (x * 64)) (wrap32 (Go.bits .and .u8 y[i] 63)) = x * 64 + (y[i] - 128) := by
        rw [e1, wrap32_of (by omega) (by omega)]
        exact i32_or6 (x * 64) (y[i] - 128) (by omega) (by omega) (by omega) (by omega) (by omega)
      refine Ev.step (f := fun k => runes_first.l0 k n (x * 64 + (y[i] - 128)) y (y.length : Int) ((i + 1 : Nat) : Int)) (fun k => ?_) ?_
      · simp only [runes_first.l0]
        rw [if_pos (by omega), if_pos (by omega), if_pos (by omega), rd_nat y i hlt, if_pos ((u8_and192 (by omega) (by omega)).2 hc'), e2, wrap_of (by omega) (by omega)]
        rfl
      · refine ev_eq (ih (i + 1) _ (by omega) (by omega) (by omega) ?_) ?_
        · rcases (by omega : i = 0 ∨ i = 1 ∨ i = 2) with rfl | rfl | rfl <;> omega
        · rw [hdrop]
          simp [accum, hc]
    · have hc' : ¬ (128 ≤ y[i] ∧ y[i] < 192) := fun h => hc ((cont_iff _).2 h)
      refine Ev.step (f := fun _ => some (65533, 1)) (fun k => ?_) (ev_eq (Ev.now _) ?_)
      · simp only [runes_first.l0]
        rw [if_pos (by omega), if_pos (by omega), if_pos (by omega), rd_nat y i hlt, if_neg (fun h => hc' ((u8_and192 (by omega) (by omega)).1 h))]
      · rw [hdrop]
        simp [accum, hc, told]

theorem first_j (l : List Int) (n : Nat) (x : Int) (hb : Bytes l) (hn : 2 ≤ n) (hn4 : n ≤ 4) (hx : 0 ≤ x) (hx1 : x < 32) :
    Ev (fun k => runes_first.j0 k l (n : Int) x) (if l.length < n then (65533, 1) else told n (accum x ((l.take n).drop 1))) := by
  have hj1 : ∀ b : Bool, Ev (fun k => runes_first.j1 k l (n : Int) x b) (if b = true then (65533, 1) else if l.length < n then (65533, 1) else told n (accum x ((l.take n).drop 1))) ∨ (b = false ∧ l.length < n) := by
    intro b
    cases b with
    | true =>
      left
      refine Ev.step (f := fun _ => some (65533, 1)) (fun k => ?_) (ev_eq (Ev.now _) (by simp))
      simp only [runes_first.j1, if_true]
    | false =>
      by_cases hl : l.length < n
      · exact .inr ⟨rfl, hl⟩
      · left
        have hlen : ((l.take n).drop 1).length ≤ 3 := by simp; omega
        refine Ev.step (f := fun k => runes_first.l0 k (n : Int) x ((l.take n).drop 1) (((l.take n).drop 1).length : Int) ((0 : Nat) : Int)) (fun k => ?_) (ev_eq (first_l n _ (fun z hz => hb z (List.mem_of_mem_take (List.mem_of_mem_drop hz))) hlen _ 0 x rfl (by omega) hx (by omega)) ?_)
        · simp only [runes_first.j1]
          rw [if_neg (by simp), if_pos (by omega), if_pos (by omega), Option.bind_some, Int.toNat_natCast]
          rfl
        · simp [hl]
  refine Ev.step (f := fun k => if (n : Int) = 0 then runes_first.j1 k l n x true else runes_first.j1 k l n x (decide ((l.length : Int) < n))) (fun k => by simp only [runes_first.j0]) ?_
  refine ev_neg (by omega) ?_
  by_cases hl : l.length < n
  · rw [decide_eq_true (by omega)]
    rcases hj1 true with h | h
    · exact ev_eq h (by simp [hl])
    · cases h.1
  · rw [decide_eq_false (by omega)]
    rcases hj1 false with h | h
    · exact ev_eq h (by simp [hl])
    · exact absurd h.2 hl
end Go.Proofs.YtdjepocklmlnbaaDoor.Pure

/- How wide a row of runes is. -/
namespace Go.Proofs.YtdjepocklmlnbaaDoor.Pure
open Go.RowKit Go.Proofs.YtdjepocklmlnbaaDoorW.PrintWords Go.Proofs.YtdjepocklmlnbaaDoorW.PrintLast Go.Proofs.YtdjepocklmlnbaaDoorW.PrintMore Go.Proofs.YtdjepocklmlnbaaDoor.X Go.Proofs.YtdjepocklmlnbaaDoor.Hand
set_option linter.unusedSimpArgs false
set_option linter.unusedVariables false
end Go.Proofs.YtdjepocklmlnbaaDoor.Pure

/- What package runes reads of bytes: its printed functions answer by plain functions. -/
namespace Go.Proofs.YtdjepocklmlnbaaDoor.Pure
open Go.RowKit Go.Proofs.YtdjepocklmlnbaaDoorW.PrintWords Go.Proofs.YtdjepocklmlnbaaDoorW.PrintLast Go.Proofs.YtdjepocklmlnbaaDoorW.PrintMore Go.Proofs.YtdjepocklmlnbaaDoor.X Go.Proofs.YtdjepocklmlnbaaDoor.Hand
set_option linter.unusedSimpArgs false
set_option linter.unusedVariables false

theorem size2 {r : Int} (h : r < 2048) : (if r < 128 then (1 : Int) else if r < 2048 then 2 else if r < 65536 then 3 else 4) = 2 ↔ 128 ≤ r := by
  repeat' split
  all_goals omega
theorem size3 {r : Int} (h : r < 65536) : (if r < 128 then (1 : Int) else if r < 2048 then 2 else if r < 65536 then 3 else 4) = 3 ↔ 2048 ≤ r := by
  repeat' split
  all_goals omega
theorem size4 {r : Int} : (if r < 128 then (1 : Int) else if r < 2048 then 2 else if r < 65536 then 3 else 4) = 4 ↔ 65536 ≤ r := by
  repeat' split
  all_goals omega
theorem told2 {x d : Int} (hx : 0 ≤ x) (hx1 : x < 32) : told 2 (accum x [d]) = if cont d = true ∧ 128 ≤ x * 64 + (d - 128) then (x * 64 + (d - 128), 2) else (65533, 1) := by
  simp only [accum]
  by_cases hd : cont d = true
  · have hd' := (cont_iff d).1 hd
    have hv : validB (x * 64 + (d - 128)) = true := (validB_iff _).2 (by omega)
    have hs := size2 (r := x * 64 + (d - 128)) (by omega)
    simp only [hd, if_true, told, hv, true_and, hs]
  · simp [hd, told]
theorem told3 {x d e : Int} (hx : 0 ≤ x) (hx1 : x < 16) : told 3 (accum x [d, e]) = if cont d = true ∧ cont e = true ∧ 2048 ≤ (x * 64 + (d - 128)) * 64 + (e - 128) ∧ validB ((x * 64 + (d - 128)) * 64 + (e - 128)) = true then ((x * 64 + (d - 128)) * 64 + (e - 128), 3) else (65533, 1) := by
  simp only [accum]
  by_cases hd : cont d = true
  · by_cases he : cont e = true
    · have hd' := (cont_iff d).1 hd
      have he' := (cont_iff e).1 he
      have hs := size3 (r := (x * 64 + (d - 128)) * 64 + (e - 128)) (by omega)
      simp only [hd, he, if_true, told, true_and, hs, and_comm]
    · simp [hd, he, told]
  · simp [hd, told]
theorem told4 {x d e f : Int} : told 4 (accum x [d, e, f]) = if cont d = true ∧ cont e = true ∧ cont f = true ∧ 65536 ≤ ((x * 64 + (d - 128)) * 64 + (e - 128)) * 64 + (f - 128) ∧ validB (((x * 64 + (d - 128)) * 64 + (e - 128)) * 64 + (f - 128)) = true
    then (((x * 64 + (d - 128)) * 64 + (e - 128)) * 64 + (f - 128), 4) else (65533, 1) := by
  simp only [accum]
  by_cases hd : cont d = true
  · by_cases he : cont e = true
    · by_cases hf : cont f = true
      · have hs := size4 (r := ((x * 64 + (d - 128)) * 64 + (e - 128)) * 64 + (f - 128))
        simp only [hd, he, hf, if_true, told, true_and, hs, and_comm]
      · simp [hd, he, hf, told]
    · simp [hd, he, told]
  · simp [hd, told]

theorem first_ev {l : List Int} (hb : Bytes l) (hl : l ≠ []) : Ev (fun k => runes_first.f k l) ((firstRune l).1, ((firstRune l).2 : Int)) := by
  obtain ⟨c, t, rfl⟩ := List.exists_cons_of_ne_nil hl
  have hc := hb c (by simp)
  have h0 : rd (c :: t) 0 = c := rfl
  unfold runes_first.f
  refine ev_pos (by simp only [List.length_cons]; omega) ?_
  simp only [h0]
  by_cases h1 : c < 128
  · refine ev_pos h1 (ev_eq (Ev.now _) ?_)
    rw [wrap32_of (by omega) (by omega)]
    simp [firstRune, h1]
  refine ev_neg h1 ?_
  by_cases h2 : 192 ≤ c ∧ c < 224
  · refine ev_pos ((u8_and224 (by omega) (by omega)).2 h2) ?_
    rw [u8_and31 c (by omega) (by omega), wrap32_of (by omega) (by omega)]
    refine ev_eq (first_j (c :: t) 2 (c % 32) hb (by omega) (by omega) (by omega) (by omega)) ?_
    have e : c % 32 = c - 192 := by omega
    rw [e]
    match t with
    | [] => simp [firstRune, h1, h2]
    | d :: t' =>
      rw [if_neg (by simp)]
      show told 2 (accum (c - 192) [d]) = _
      rw [told2 (by omega) (by omega)]
      simp only [firstRune, h1, h2, if_true, if_false, and_self]
      split <;> rfl
  refine ev_neg (fun h => h2 ((u8_and224 (by omega) (by omega)).1 h)) ?_
  by_cases h3 : 224 ≤ c ∧ c < 240
  · refine ev_pos ((u8_and240 (by omega) (by omega)).2 h3) ?_
    rw [u8_and15 c (by omega) (by omega), wrap32_of (by omega) (by omega)]
    refine ev_eq (first_j (c :: t) 3 (c % 16) hb (by omega) (by omega) (by omega) (by omega)) ?_
    have e : c % 16 = c - 224 := by omega
    rw [e]
    match t with
    | [] => simp [firstRune, h1, h2, h3]
    | [d] => simp [firstRune, h1, h2, h3]
    | d :: e :: t' =>
      rw [if_neg (by simp)]
      show told 3 (accum (c - 224) [d, e]) = _
      rw [told3 (by omega) (by omega)]
      simp only [firstRune, h1, h2, h3, if_true, if_false, and_self]
      split <;> rfl
  refine ev_neg (fun h => h3 ((u8_and240 (by omega) (by omega)).1 h)) ?_
  by_cases h4 : 240 ≤ c ∧ c < 248
  · refine ev_pos ((u8_and248 (by omega) (by omega)).2 h4) ?_
    rw [u8_and7 c (by omega) (by omega), wrap32_of (by omega) (by omega)]
    refine ev_eq (first_j (c :: t) 4 (c % 8) hb (by omega) (by omega) (by omega) (by omega)) ?_
    have e : c % 8 = c - 240 := by omega
    rw [e]
    match t with
    | [] => simp [firstRune, h1, h2, h3, h4]
    | [d] => simp [firstRune, h1, h2, h3, h4]
    | [d, e] => simp [firstRune, h1, h2, h3, h4]
    | d :: e :: f :: t' =>
      rw [if_neg (by simp)]
      show told 4 (accum (c - 240) [d, e, f]) = _
      rw [told4]
      simp only [firstRune, h1, h2, h3, h4, if_true, if_false, and_self]
      split <;> rfl
  refine ev_neg (fun h => h4 ((u8_and248 (by omega) (by omega)).1 h)) ?_
  refine Ev.step (f := fun k => runes_first.j1 k (c :: t) 0 0 true) (fun k => by simp only [runes_first.j0, if_true]) ?_
  refine Ev.step (f := fun _ => some (65533, 1)) (fun k => by simp only [runes_first.j1, if_true]) (ev_eq (Ev.now _) ?_)
  simp [firstRune, h1, h2, h3, h4]

theorem decode_l : ∀ x, Bytes x → ∀ o : List Int, o.length + x.length < 35184372088832 → Ev (fun k => runes_Decode.l0 k x o) (o ++ decode x) :=
  bytes_ind (P := fun x => ∀ o : List Int, o.length + x.length < 35184372088832 → Ev (fun k => runes_Decode.l0 k x o) (o ++ decode x))
    (fun o ho => Ev.step (f := fun _ => some o) (fun k => by simp [runes_Decode.l0]) (ev_eq (Ev.now _) (by simp [decode_nil])))
    fun x hb hx ih o ho => by
      have h0 : 0 < x.length := List.length_pos_iff.2 hx
      have h1 := first_fits hb hx
      have h2 := first_len x
      refine Ev.step (f := fun k => (runes_first.f k x).bind fun bt => if o.length < 35184372088832 then (if 0 ≤ bt.2 then (if bt.2 ≤ (x.length : Int) then runes_Decode.l0 k (x.drop (bt.2 : Int).toNat) (o ++ [bt.1]) else none) else none) else none) (fun k => ?_) ?_
      · simp only [runes_Decode.l0]
        rw [if_pos (by omega)]
      · refine Ev.bind (first_ev hb hx) (ev_pos (by omega) (ev_pos (by omega) (ev_pos (by simp only; omega) ?_)))
        simp only [Int.toNat_natCast]
        refine ev_eq (ih (o ++ [(firstRune x).1]) ?_) ?_
        · rw [List.length_append, List.length_drop, List.length_singleton]
          omega
        · rw [decode_cons hb hx, List.append_assoc]
          rfl
theorem decode_ev {l : List Int} (hb : Bytes l) (h : l.length < 35184372088832) : Ev (fun k => runes_Decode.f k l) (decode l) := by
  unfold runes_Decode.f
  exact ev_eq (decode_l l hb [] (by simpa using h)) (by simp)

end Go.Proofs.YtdjepocklmlnbaaDoor.Pure

/- Package cells: whether two rows are the same. -/
namespace Go.Proofs.YtdjepocklmlnbaaDoor.Pure
open Go.RowKit Go.Proofs.YtdjepocklmlnbaaDoorW.PrintWords Go.Proofs.YtdjepocklmlnbaaDoorW.PrintLast Go.Proofs.YtdjepocklmlnbaaDoorW.PrintMore Go.Proofs.YtdjepocklmlnbaaDoor.X Go.Proofs.YtdjepocklmlnbaaDoor.Hand
set_option linter.unusedSimpArgs false
set_option linter.unusedVariables false
theorem sameGl_ev (a b : List Gl) (h : a.length ≤ 9223372036854775807) : Ev (fun k => api_Glyph_77.f k a b) (decide (a = b)) := by
  unfold api_Glyph_77.f
  refine ev_ite (fun hl => ?_) (fun hl => ev_eq (Ev.now _) (by symm; rw [decide_eq_false_iff_not]; intro e; exact hl (by rw [e])))
  have hl' : a.length = b.length := by omega
  refine ev_eq (loop_up (σ := Unit) (fun k _ i => api_Glyph_77.l0 k a b (a.length : Int) i) a.length (fun _ i => decide (a.drop i = b.drop i)) (fun _ _ => True) ?_ ?_ () 0 (by omega) trivial) (by simp)
  · intro _ _
    exact Ev.step (f := fun _ => some true) (fun k => by simp only [api_Glyph_77.l0]; rw [if_neg (by omega)]) (ev_eq (Ev.now _) (by simp [hl']))
  · intro _ i hi _ ih
    refine Ev.step (f := fun k => if (!((a[i].f0) == (b[i].f0)) || (!((a[i].f1) == (b[i].f1)))) = true then some false else api_Glyph_77.l0 k a b (a.length : Int) ((i + 1 : Nat) : Int)) (fun k => ?_) ?_
    · simp only [api_Glyph_77.l0]
      rw [if_pos (by omega), if_pos (by omega), if_pos (by omega), if_pos (by omega), rdG a i hi, rdG b i (by omega), wrap_up hi h]
    · refine ev_ite (fun hc => ev_eq (Ev.now _) ?_) (fun hc => ev_eq (ih () trivial) ?_)
      · symm
        rw [decide_eq_false_iff_not, drop_ne hi (by omega)]
        exact fun e => (gl_ne _ _).1 hc e.1
      · have e : a[i] = b[i] := Decidable.of_not_not fun e => hc ((gl_ne _ _).2 e)
        simp only [drop_ne hi (show i < b.length by omega), e, true_and]
theorem csame_ev (a b : List Gl) (h : a.length ≤ 9223372036854775807) : Ev (fun k => cells_Same.f k a b) (decide (a = b)) := by
  unfold cells_Same.f
  exact Ev.bind (sameGl_ev a b h) (Ev.now _)
end Go.Proofs.YtdjepocklmlnbaaDoor.Pure

/- Package ansi: the glyphs of a line. -/
namespace Go.Proofs.YtdjepocklmlnbaaDoor.Pure
open Go Go.RowKit Go.Proofs.YtdjepocklmlnbaaDoorW.PrintWords Go.Proofs.YtdjepocklmlnbaaDoorW.PrintLast Go.Proofs.YtdjepocklmlnbaaDoorW.PrintMore Go.Proofs.YtdjepocklmlnbaaDoor.X Go.Proofs.YtdjepocklmlnbaaDoor.Hand
set_option linter.unusedSimpArgs false
set_option linter.unusedVariables false
/-- What stands ahead of the first 27. -/
def t27 : List Int → List Int
  | [] => []
  | x :: t => if x = 27 then [] else x :: t27 t
theorem t27_le : ∀ b : List Int, (t27 b).length ≤ b.length
  | [] => Nat.le_refl _
  | x :: t => by
    have := t27_le t
    rw [t27]
    split <;> simp <;> omega
theorem t27_take : ∀ b : List Int, b.take (t27 b).length = t27 b
  | [] => rfl
  | x :: t => by
    rw [t27]
    split
    · rfl
    · rw [List.length_cons, List.take_succ_cons, t27_take t]
theorem t27_Bytes {b : List Int} (h : Bytes b) : Bytes (t27 b) := by
  rw [← t27_take]
  exact fun x hx => h x (List.mem_of_mem_take hx)
/-- The glyphs that are read of a line, as they are set. -/
def lnP : Nat → List Int → Int → List Gl → Option (List Gl)
  | 0, _, _, _ => none
  | n + 1, b, s, o => if b = [] then some o else match sgn b with
    | some (s', m) => lnP n (b.drop m) s' o
    | none => if t27 b = [] then none else lnP n (b.drop (t27 b).length) s (o ++ ofRunes s (decode (t27 b)))
theorem lnP_length : ∀ (n : Nat) (b : List Int) (s : Int) (o r : List Gl), Bytes b → lnP n b s o = some r → r.length ≤ o.length + b.length
  | 0, _, _, _, _, _, h => by cases h
  | n + 1, b, s, o, r, hb, h => by
    rw [lnP] at h
    split at h
    · cases h
      omega
    · split at h
      · have := lnP_length n _ _ _ _ (bytes_drop hb _) h
        rw [List.length_drop] at this
        omega
      · split at h
        · cases h
        · have h1 := lnP_length n _ _ _ _ (bytes_drop hb _) h
          have h2 := t27_le b
          have h3 := (decode_length _ (t27_Bytes hb)).1
          rw [List.length_drop, List.length_append, ofRunes_length] at h1
          omega
theorem lnP_set : ∀ (n : Nat) (b : List Int) (s : Int) (o r : List Gl), lnP n b s o = some r → (0 ≤ s ∧ s ≤ 3) → (∀ g ∈ o, 0 ≤ g.f1 ∧ g.f1 ≤ 3) → ∀ g ∈ r, 0 ≤ g.f1 ∧ g.f1 ≤ 3
  | 0, _, _, _, _, h, _, _ => by cases h
  | n + 1, b, s, o, r, h, hs, ho => by
    rw [lnP] at h
    split at h
    · cases h
      exact ho
    · split at h
      · rename_i s' m hsg
        obtain ⟨h0, h3, _⟩ := sgn_some hsg
        exact lnP_set n _ _ _ _ h ⟨h0, h3⟩ ho
      · split at h
        · cases h
        · refine lnP_set n _ _ _ _ h hs (fun g hg => ?_)
          rcases List.mem_append.1 hg with h1 | h1
          · exact ho g h1
          · obtain ⟨x, _, rfl⟩ := List.mem_map.1 h1
            exact hs
/-- What is told of a line in the end: was: the line. -/
noncomputable def finV (was : List Int) : Option (List Gl) → List Gl × Bool
  | none => ([], false)
  | some o => (o, decide (refGo (nrm o) 0 = was) && decide (nrm o = o))
noncomputable def lineV (b : List Int) : List Gl × Bool := finV b (lnP (b.length + 1) b 0 [])
theorem index_ev {b : List Int} (h : b.length ≤ 1000000000) : Ev (fun k => slices_Index_byte_byte.f k b 27) (if (t27 b).length = b.length then -1 else ((t27 b).length : Int)) := by
  unfold slices_Index_byte_byte.f
  refine ev_eq (loop_up (σ := Unit) (fun k _ i => slices_Index_byte_byte.l0 k b 27 (b.length : Int) i) b.length (fun _ i => if (t27 (b.drop i)).length = b.length - i then (-1 : Int) else ((i + (t27 (b.drop i)).length : Nat) : Int)) (fun _ _ => True) ?_ ?_ () 0 (by omega) trivial) (by simp)
  · intro _ _
    refine Ev.step (f := fun _ => some (-1)) (fun k => by simp only [slices_Index_byte_byte.l0]; rw [if_neg (by omega)]) (ev_eq (Ev.now _) ?_)
    rw [List.drop_length, if_pos (by simp [t27])]
  · intro _ i hi _ ih
    have hd := List.drop_eq_getElem_cons hi
    have hle := t27_le (b.drop (i + 1))
    rw [List.length_drop] at hle
    refine Ev.step (f := fun k => if 27 = b[i] then some (i : Int) else slices_Index_byte_byte.l0 k b 27 (b.length : Int) ((i + 1 : Nat) : Int)) (fun k => ?_) (ev_ite (fun e => ev_eq (Ev.now _) ?_) (fun e => ev_eq (ih () trivial) ?_))
    · simp only [slices_Index_byte_byte.l0]
      rw [if_pos (by omega), if_pos (by omega), if_pos (by omega), rd_nat b i hi, wrap_up hi (by omega)]
    · rw [hd, t27, if_pos e.symm, if_neg (by simp; omega)]
      simp
    · have e2 : t27 (b.drop i) = b[i] :: t27 (b.drop (i + 1)) := by rw [hd, t27, if_neg (fun x => e x.symm)]
      rw [e2, List.length_cons]
      by_cases hq : (t27 (b.drop (i + 1))).length = b.length - (i + 1)
      · rw [if_pos hq, if_pos (by omega)]
      · rw [if_neg hq, if_neg (by omega)]
        omega
theorem put_ev (b : List Int) (s : Int) (was : ByteArray) (m : Nat) (hm : m ≤ b.length) (t : List Int) (o : List Gl) {R : List Gl × Bool} (hl : o.length + t.length ≤ 1000000000)
    (k : Ev (fun k => ansi_line.l0 k (b.drop m) (o ++ ofRunes s t) s was) R) : Ev (fun k => ansi_line.l1 k b o s was (m : Int) t (t.length : Int) 0) R := by
  refine loop_up (fun k o' i => ansi_line.l1 k b o' s was (m : Int) t (t.length : Int) i) t.length (fun _ _ => R) (fun o' i => o' = o ++ ofRunes s (t.take i)) ?_ ?_ o 0 (by omega) (by simp [ofRunes])
  · intro o' ho'
    rw [List.take_length] at ho'
    subst ho'
    refine Ev.step (f := fun k => ansi_line.l0 k (b.drop m) (o ++ ofRunes s t) s was) (fun k => ?_) k
    simp only [ansi_line.l1]
    rw [if_neg (by omega), if_pos (by omega), if_pos (by omega), Int.toNat_natCast]
  · intro o' i hi ho' ih
    subst ho'
    refine Ev.step (f := fun k => ansi_line.l1 k b ((o ++ ofRunes s (t.take i)) ++ [⟨t[i], s⟩]) s was (m : Int) t (t.length : Int) ((i + 1 : Nat) : Int)) (fun k => ?_) (ih _ ?_)
    · simp only [ansi_line.l1]
      rw [if_pos (by omega), if_pos (by omega), if_pos (by omega), if_pos (by rw [List.length_append, ofRunes_length, List.length_take]; omega), rd_nat t i hi, wrap_up hi (by omega)]
    · rw [List.take_succ_eq_append_getElem hi, ofRunes_append, List.append_assoc]
      rfl
theorem line_l : ∀ (n : Nat) (b : List Int) (s : Int) (o : List Gl) (was : List Int), Bytes was → Bytes b → b.length < n → o.length + b.length ≤ 100000000 → (0 ≤ s ∧ s ≤ 3) → (∀ g ∈ o, 0 ≤ g.f1 ∧ g.f1 ≤ 3) →
    (∀ r, lnP n b s o = some r → r.length ≤ 3000) → Ev (fun k => ansi_line.l0 k b o s (strOfNums was)) (finV was (lnP n b s o))
  | 0, _, _, _, _, _, _, h, _, _, _, _ => by omega
  | n + 1, b, s, o, was, hw, hb, hn, hl, hs, ho, hsm => by
    by_cases hb0 : b = []
    · subst hb0
      have e : lnP (n + 1) [] s o = some o := by rw [lnP, if_pos rfl]
      rw [e] at hsm ⊢
      have h3 := hsm o rfl
      have h8 : ∀ g ∈ o, 0 ≤ g.f1 ∧ g.f1 ≤ 255 := fun g hg => by have := ho g hg; omega
      refine Ev.step (f := fun k => (ansi_Row.f k o).bind fun t540 => (if (strOfNums t540).toList = (strOfNums was).toList then ((plain_Normal.f k o).bind fun t543 => ((cells_Same.f k t543 o).bind fun t546 => (some (o, t546)))) else (some (o, false)))) (fun k => by simp only [ansi_line.l0]; rw [if_neg (by simp)]) ?_
      refine Ev.bind (row_ev h3 h8) ?_
      have hR : Bytes (refGo (nrm o) 0) := by
        rw [← outB_eq _ _ (runs_IsRuns _)]
        intro x hx
        obtain ⟨y, hy, hx⟩ := List.mem_flatten.1 hx
        obtain ⟨z, _, rfl⟩ := List.mem_map.1 hy
        unfold runB at hx
        split at hx
        · exact encode_bytes _ x hx
        · rcases List.mem_append.1 hx with hx | hx
          · rcases List.mem_append.1 hx with hx | hx
            · exact sgL_Bytes _ x hx
            · exact encode_bytes _ x hx
          · exact sgL_Bytes _ x hx
      have hse := str_same hR hw
      by_cases hq : refGo (nrm o) 0 = was
      · rw [decide_eq_true hq] at hse
        refine ev_pos (eq_of_beq hse) ?_
        have hnl := normal_ev o (exists_trim (clean o)).choose_spec (by omega)
        change Ev _ (nrm o) at hnl
        refine Ev.bind hnl (Ev.bind (csame_ev (nrm o) o (by have := nrm_length o; omega)) (ev_eq (Ev.now _) ?_))
        rw [finV, decide_eq_true hq, Bool.true_and]
      · rw [decide_eq_false hq] at hse
        refine ev_neg (fun e => ?_) (ev_eq (Ev.now _) ?_)
        · rw [e] at hse
          simp at hse
        · rw [finV, decide_eq_false hq, Bool.false_and]
    · have hpos : 0 < b.length := List.length_pos_iff.2 hb0
      rw [lnP, if_neg hb0] at hsm ⊢
      cases hsg : sgn b with
      | some p =>
        obtain ⟨s', m⟩ := p
        rw [hsg] at hsm
        simp only at hsm ⊢
        obtain ⟨h0, h3, hm, hpre⟩ := sgn_some hsg
        have hmb := hpre.length_le
        rw [← hm] at hmb
        have hm4 : 0 < m := by
          rw [hm]
          have hc : s' = 0 ∨ s' = 1 ∨ s' = 2 ∨ s' = 3 := by omega
          rcases hc with rfl | rfl | rfl | rfl <;> decide +kernel
        have ih := line_l n (b.drop m) s' o was hw (bytes_drop hb m) (by rw [List.length_drop]; omega) (by rw [List.length_drop]; omega) ⟨h0, h3⟩ ho hsm
        refine Ev.step (f := fun k => ansi_line.l0 k (b.drop m) o s' (strOfNums was)) (fun k => ?_) ih
        simp only [ansi_line.l0]
        rw [if_pos (by omega), signs_eq hb, Option.bind_some, sgnV, hsg]
        simp only [if_true]
        rw [if_pos (by omega), if_pos (by omega), Int.toNat_natCast]
      | none =>
        rw [hsg] at hsm
        simp only at hsm ⊢
        have hle := t27_le b
        refine Ev.step (f := fun k => (slices_Index_byte_byte.f k b 27).bind fun t555 => (if t555 = 0 then (some (([] : List Gl), false)) else (if t555 < 0 then (ansi_line.j1 k b o s (strOfNums was) (b.length : Int)) else (ansi_line.j1 k b o s (strOfNums was) t555)))) (fun k => ?_) (Ev.bind (index_ev (b := b) (by omega)) ?_)
        · simp only [ansi_line.l0]
          rw [if_pos (by omega), signs_eq hb, Option.bind_some, sgnV, hsg]
          simp only [Bool.false_eq_true, if_false]
        · have hj : (t27 b ≠ []) → Ev (fun k => ansi_line.j1 k b o s (strOfNums was) ((t27 b).length : Int)) (finV was (if t27 b = [] then none else lnP n (b.drop (t27 b).length) s (o ++ ofRunes s (decode (t27 b))))) := by
            intro hne
            have hpt : 0 < (t27 b).length := List.length_pos_iff.2 hne
            have hdl := (decode_length _ (t27_Bytes hb)).1
            rw [if_neg hne] at hsm ⊢
            refine Ev.step (f := fun k => (runes_Decode.f k (t27 b)).bind fun t561 => (ansi_line.l1 k b o s (strOfNums was) ((t27 b).length : Int) t561 (t561.length : Int) 0)) (fun k => ?_) (Ev.bind (decode_ev (t27_Bytes hb) (by omega)) ?_)
            · simp only [ansi_line.j1]
              rw [if_pos (by omega), if_pos (by omega), Int.toNat_natCast, t27_take]
            · refine put_ev b s (strOfNums was) (t27 b).length hle (decode (t27 b)) o (by omega) ?_
              refine line_l n _ s _ was hw (bytes_drop hb _) (by rw [List.length_drop]; omega) (by rw [List.length_drop, List.length_append, ofRunes_length]; omega) hs (fun g hg => ?_) hsm
              rcases List.mem_append.1 hg with h1 | h1
              · exact ho g h1
              · obtain ⟨x, _, rfl⟩ := List.mem_map.1 h1
                exact hs
          by_cases hne : t27 b = []
          · rw [hne, if_neg (by simp; omega)]
            exact ev_pos (by simp) (ev_eq (Ev.now _) (by rw [if_pos rfl]; rfl))
          · have hpt : 0 < (t27 b).length := List.length_pos_iff.2 hne
            by_cases hq : (t27 b).length = b.length
            · rw [if_pos hq]
              refine ev_neg (by omega) (ev_pos (by omega) ?_)
              have := hj hne
              rw [hq] at this ⊢
              exact this
            · rw [if_neg hq]
              exact ev_neg (by omega) (ev_neg (by omega) (hj hne))
theorem line_ev {b : List Int} (hb : Bytes b) (hl : b.length ≤ 100000000) (hsm : ∀ r, lnP (b.length + 1) b 0 [] = some r → r.length ≤ 3000) : Ev (fun k => ansi_line.f k b) (lineV b) := by
  unfold ansi_line.f
  exact line_l (b.length + 1) b 0 [] b hb hb (by omega) (by simpa using hl) (by decide) (fun g hg => by simp at hg) hsm
end Go.Proofs.YtdjepocklmlnbaaDoor.Pure

/- Bytes as lines. -/
namespace Go.Proofs.YtdjepocklmlnbaaDoor.Pure
set_option linter.unusedSimpArgs false
set_option linter.unusedVariables false
/-- Bytes, cut at each line feed; cur: what stands behind the last one. -/
def splitC : List Int → List Int → List (List Int)
  | cur, [] => [cur]
  | cur, x :: t => if x = 10 then cur :: splitC [] t else splitC (cur ++ [x]) t
/-- The same, what stands behind the last line feed left out. -/
def cutC : List Int → List Int → List (List Int)
  | _, [] => []
  | cur, x :: t => if x = 10 then cur :: cutC [] t else cutC (cur ++ [x]) t
theorem cutC_snoc : ∀ (t cur : List Int), cutC cur (t ++ [10]) = splitC cur t
  | [], cur => by simp [cutC, splitC]
  | x :: t, cur => by
    rw [List.cons_append, cutC, splitC]
    split
    · rw [cutC_snoc t []]
    · rw [cutC_snoc t _]
theorem splitC_none : ∀ (t cur : List Int), (10 : Int) ∉ t → splitC cur t = [cur ++ t]
  | [], cur, _ => by simp [splitC]
  | x :: t, cur, h => by
    simp only [List.mem_cons, not_or] at h
    rw [splitC, if_neg (fun e => h.1 e.symm), splitC_none t _ h.2, List.append_assoc]
    rfl
theorem splitC_mid : ∀ (a cur d : List Int), (10 : Int) ∉ a → splitC cur (a ++ 10 :: d) = (cur ++ a) :: splitC [] d
  | [], cur, d, _ => by simp [splitC]
  | x :: a, cur, d, h => by
    simp only [List.mem_cons, not_or] at h
    rw [List.cons_append, splitC, if_neg (fun e => h.1 e.symm), splitC_mid a _ d h.2, List.append_assoc]
    rfl
theorem cutC_length : ∀ (t cur : List Int), (cutC cur t).length ≤ t.length
  | [], cur => by simp [cutC]
  | x :: t, cur => by
    rw [cutC]
    split
    · have := cutC_length t []
      simp only [List.length_cons]
      omega
    · have := cutC_length t (cur ++ [x])
      simp only [List.length_cons]
      omega
theorem cutC_sum : ∀ (t cur : List Int) (y : List Int), y ∈ cutC cur t → y.length ≤ cur.length + t.length ∧ ∀ x ∈ y, x ∈ cur ∨ x ∈ t
  | [], cur, y, h => by simp [cutC] at h
  | x :: t, cur, y, h => by
    rw [cutC] at h
    split at h
    · rcases List.mem_cons.1 h with rfl | h
      · exact ⟨by omega, fun x hx => .inl hx⟩
      · obtain ⟨h1, h2⟩ := cutC_sum t [] y h
        simp only [List.length_nil, List.length_cons] at h1 ⊢
        refine ⟨by omega, fun z hz => .inr ?_⟩
        rcases h2 z hz with h3 | h3
        · simp at h3
        · exact List.mem_cons_of_mem _ h3
    · obtain ⟨h1, h2⟩ := cutC_sum t (cur ++ [x]) y h
      simp only [List.length_append, List.length_cons, List.length_nil] at h1 ⊢
      refine ⟨by omega, fun z hz => ?_⟩
      rcases h2 z hz with h3 | h3
      · rcases List.mem_append.1 h3 with h4 | h4
        · exact .inl h4
        · rw [List.mem_singleton.1 h4]
          exact .inr (by simp)
      · exact .inr (List.mem_cons_of_mem _ h3)
end Go.Proofs.YtdjepocklmlnbaaDoor.Pure

/- A text's pieces at line feeds are its lines. -/
namespace Go.Proofs.YtdjepocklmlnbaaDoor.Pure
open Go Go.RowKit Go.Proofs.YtdjepocklmlnbaaDoorW.PrintWords Go.Proofs.YtdjepocklmlnbaaDoorW.PrintLast Go.Proofs.YtdjepocklmlnbaaDoorW.PrintMore Go.Proofs.YtdjepocklmlnbaaDoor.X Go.Proofs.YtdjepocklmlnbaaDoor.Hand
set_option linter.unusedSimpArgs false
set_option linter.unusedVariables false
theorem first10 : ∀ c : List Int, (10 : Int) ∈ c → ∃ a d, c = a ++ 10 :: d ∧ (10 : Int) ∉ a
  | [], h => by simp at h
  | x :: c, h => by
    by_cases hx : x = 10
    · exact ⟨[], c, by rw [hx]; rfl, by simp⟩
    · obtain ⟨a, d, rfl, h2⟩ := first10 c (by
        rcases List.mem_cons.1 h with h | h
        · exact absurd h.symm hx
        · exact h)
      refine ⟨x :: a, d, rfl, fun h3 => ?_⟩
      rcases List.mem_cons.1 h3 with h3 | h3
      · exact hx h3.symm
      · exact h2 h3
theorem u10 {x : Int} (h : 0 ≤ x ∧ x ≤ 255) : (UInt8.ofNat x.toNat == 10) = decide (x = 10) := by
  have h1 : ∀ n : Nat, n < 256 → (UInt8.ofNat n == 10) = decide (n = 10) := by decide +kernel
  rw [h1 x.toNat (by omega)]
  by_cases e : x = 10
  · rw [decide_eq_true e, decide_eq_true (by omega)]
  · rw [decide_eq_false e, decide_eq_false (by omega)]
theorem idx_none : ∀ c : List Int, Bytes c → (10 : Int) ∉ c → Lib.indexByte (c.map fun n => UInt8.ofNat n.toNat) 10 = -1
  | [], _, _ => rfl
  | x :: c, hb, h => by
    simp only [List.mem_cons, not_or] at h
    rw [List.map_cons, Lib.indexByte, u10 (hb x (by simp)), decide_eq_false (fun e => h.1 e.symm), if_neg (by simp), idx_none c (fun y hy => hb y (List.mem_cons_of_mem _ hy)) h.2]
    rfl
theorem idx_mid : ∀ a d : List Int, Bytes a → (10 : Int) ∉ a → Lib.indexByte ((a ++ 10 :: d).map fun n => UInt8.ofNat n.toNat) 10 = (a.length : Int)
  | [], d, _, _ => by
    rw [List.nil_append, List.map_cons, Lib.indexByte, u10 (by decide)]
    rfl
  | x :: a, d, hb, h => by
    simp only [List.mem_cons, not_or] at h
    rw [List.cons_append, List.map_cons, Lib.indexByte, u10 (hb x (by simp)), decide_eq_false (fun e => h.1 e.symm), if_neg (by simp), idx_mid a d (fun y hy => hb y (List.mem_cons_of_mem _ hy)) h.2]
    rw [if_neg (by simp), List.length_cons]
    omega
theorem next_str (c : List Int) : nextLf (strOfNums c) = Lib.indexByte (c.map fun n => UInt8.ofNat n.toNat) 10 := by
  unfold nextLf
  rw [strOfNums_data]
theorem pieces_eq : ∀ (n : Nat) (c : List Int), c.length ≤ n → Bytes c → pieces (strOfNums c) = (splitC [] c).map strOfNums := by
  intro n
  induction n with
  | zero =>
    intro c hn hb
    obtain rfl : c = [] := List.eq_nil_of_length_eq_zero (by omega)
    rw [pieces_end (by rw [next_str]; decide)]
    rfl
  | succ n ih =>
    intro c hn hb
    by_cases h : (10 : Int) ∈ c
    · obtain ⟨a, d, rfl, ha⟩ := first10 c h
      have hi : nextLf (strOfNums (a ++ 10 :: d)) = (a.length : Int) := by rw [next_str, idx_mid a d (fun x hx => hb x (by simp [hx])) ha]
      rw [pieces_more (by omega), hi, str_part, str_part, numsStr_size, splitC_mid a [] d ha, List.map_cons]
      have e1 : ((a ++ 10 :: d).take (a.length : Int).toNat).drop 0 = [] ++ a := by simp
      have e2 : ((a ++ 10 :: d).take (a ++ 10 :: d).length).drop ((a.length : Int).toNat + 1) = d := by
        rw [List.take_length, Int.toNat_natCast, List.drop_append, List.drop_eq_nil_of_le (by omega)]
        simp
      rw [e1, e2, ih d (by simp at hn; omega) (fun x hx => hb x (by simp [hx]))]
    · rw [pieces_end (by rw [next_str, idx_none c hb h]; decide), splitC_none c [] h]
      rfl
end Go.Proofs.YtdjepocklmlnbaaDoor.Pure

/- Package ansi: the rows of bytes. -/
namespace Go.Proofs.YtdjepocklmlnbaaDoor.Pure
open Go Go.RowKit Go.Proofs.YtdjepocklmlnbaaDoorW.PrintWords Go.Proofs.YtdjepocklmlnbaaDoorW.PrintLast Go.Proofs.YtdjepocklmlnbaaDoorW.PrintMore Go.Proofs.YtdjepocklmlnbaaDoor.X Go.Proofs.YtdjepocklmlnbaaDoor.Hand
set_option linter.unusedSimpArgs false
set_option linter.unusedVariables false
/-- The rows of lines, if each is one. -/
noncomputable def rowsV : List (List Int) → Option (List (List Gl))
  | [] => some []
  | y :: t => if (lineV y).2 = true then (rowsV t).map ((lineV y).1 :: ·) else none
noncomputable def ansV (o : List (List Gl)) : Option (List (List Gl)) → List (List Gl) × Int
  | some r => (o ++ r, 0)
  | none => ([], 5)
/-- What is read. -/
noncomputable def readA (b : List Int) : List (List Gl) × Int := if b = [] ∨ b.getLast? = some 10 then ansV [] (rowsV (cutC [] b)) else ([], 5)
/-- Lines that are looked at. -/
def LineOK (y : List Int) : Prop := Bytes y ∧ y.length ≤ 1000000 ∧ ∀ r, lnP (y.length + 1) y 0 [] = some r → r.length ≤ 3000
theorem ansV_cons (o : List (List Gl)) (y : List Gl) (r : Option (List (List Gl))) : ansV o (r.map (y :: ·)) = ansV (o ++ [y]) r := by
  cases r with
  | none => rfl
  | some r => simp [ansV]
theorem areads_ev {L : List (List Int)} (hL : ∀ y ∈ L, LineOK y) (hl : L.length ≤ 1000000) : Ev (fun k => ansi_Read.l0 k [] (L.map strOfNums) (L.length : Int) 0) (ansV [] (rowsV L)) := by
  refine ev_eq (loop_up (fun k o i => ansi_Read.l0 k o (L.map strOfNums) (L.length : Int) i) L.length (fun o i => ansV o (rowsV (L.drop i))) (fun o i => o.length = i) ?_ ?_ [] 0 (by omega) rfl) (by simp)
  · intro o _
    refine Ev.step (f := fun _ => some (o, 0)) (fun k => by simp only [ansi_Read.l0]; rw [if_neg (by omega)]) (ev_eq (Ev.now _) ?_)
    rw [List.drop_length]
    simp [rowsV, ansV]
  · intro o i hi ho ih
    obtain ⟨hb, hlen, hsm⟩ := hL L[i] (List.getElem_mem hi)
    have hrd : rdOf ByteArray.empty (L.map strOfNums) (i : Int) = strOfNums L[i] := by
      simp [rdOf, List.getD_eq_getElem?_getD, List.getElem?_eq_getElem hi]
    refine Ev.step (f := fun k => (conv_bytes.f (strOfNums L[i])).bind fun t579 => ((ansi_line.f k t579).bind fun bt582 => (if bt582.2 = true then (if o.length < 5864062014805 then (ansi_Read.l0 k (o ++ [bt582.1]) (L.map strOfNums) (L.length : Int) ((i + 1 : Nat) : Int)) else (none)) else (some (([] : List (List Gl)), 5))))) (fun k => ?_) ?_
    · simp only [ansi_Read.l0]
      rw [if_pos (by omega), if_pos (by omega), if_pos (by rw [List.length_map]; omega), hrd, wrap_up hi (by omega)]
    · refine ev_bind1 (a := L[i]) (by unfold conv_bytes.f; rw [if_pos (by rw [numsStr_size]; omega), numsStr_back hb]) (Ev.bind (line_ev hb (by omega) hsm) ?_)
      rw [List.drop_eq_getElem_cons hi, rowsV]
      refine ev_ite (fun h => ?_) (fun h => ?_)
      · rw [if_pos h, ansV_cons]
        exact ev_pos (by omega) (ih _ (by rw [List.length_append, List.length_singleton, ho]))
      · rw [if_neg h]
        exact Ev.now _
theorem aread_ev {b : List Int} (hb : Bytes b) (h : b.length ≤ 100000000) (hn : (cutC [] b).length ≤ 1000000) (hL : ∀ y ∈ cutC [] b, LineOK y) : Ev (fun k => ansi_Read.f k b) (readA b) := by
  unfold ansi_Read.f readA
  refine ev_ite (fun h0 => ?_) (fun h0 => ?_)
  · have : b = [] := List.eq_nil_of_length_eq_zero (by omega)
    subst this
    exact ev_eq (Ev.now _) (by rw [if_pos (.inl rfl)]; rfl)
  · have hne : b ≠ [] := fun e => h0 (by rw [e]; rfl)
    obtain ⟨c, x, rfl⟩ : ∃ c x, b = c ++ [x] := by
      rcases List.eq_nil_or_concat b with e | ⟨c, x, e⟩
      · exact absurd e hne
      · exact ⟨c, x, by rw [e, List.concat_eq_append]⟩
    have hlc : (c ++ [x]).length = c.length + 1 := by simp
    have hw : wrap64 (((c.length + 1 : Nat) : Int) - 1) = (c.length : Int) := by
      rw [wrap_of (by omega) (by omega)]
      omega
    have hbc : Bytes c := fun y hy => hb y (by simp [hy])
    rw [hlc, hw]
    refine ev_pos (by omega) (ev_pos (by omega) ?_)
    rw [rd_nat (c ++ [x]) c.length (by simp), show (c ++ [x])[c.length]'(by simp) = x by simp]
    refine ev_ite (fun hx => ?_) (fun hx => ?_)
    · subst hx
      rw [if_pos (.inr (by simp))]
      rw [cutC_snoc] at hn hL ⊢
      refine ev_pos (by omega) (ev_bind1 (a := (splitC [] c).map strOfNums) ?_ ?_)
      · unfold strings_Split.f
        rw [Int.toNat_natCast, List.take_left' rfl, if_pos ⟨rfl, by rw [numsStr_size]; omega⟩, pieces_eq c.length c (Nat.le_refl _) hbc]
      · rw [List.length_map]
        exact areads_ev hL hn
    · rw [if_neg]
      · exact Ev.now _
      · rintro (e | e)
        · simp at e
        · simp at e
          exact hx e
end Go.Proofs.YtdjepocklmlnbaaDoor.Pure

/- The reference's test of a rune. -/
namespace Go.Proofs.YtdjepocklmlnbaaDoor.Pure
open Go Go.RowKit Go.Proofs.YtdjepocklmlnbaaDoorW.PrintWords Go.Proofs.YtdjepocklmlnbaaDoorW.PrintLast Go.Proofs.YtdjepocklmlnbaaDoorW.PrintMore Go.Proofs.YtdjepocklmlnbaaDoor.X Go.Proofs.YtdjepocklmlnbaaDoor.Hand
set_option linter.unusedSimpArgs false
set_option linter.unusedVariables false
theorem rvalid_eq (a : Int) : flongref02_Valid.f a = some (validB a) := by
  unfold flongref02_Valid.f
  by_cases h1 : a ≥ 0 <;> by_cases h2 : a < 1114112 <;> by_cases h3 : a < 55296 <;> simp only [h1, h2, h3, if_true, if_false] <;> congr 1 <;> (rw [Bool.eq_iff_iff]; simp [validB]; omega)
end Go.Proofs.YtdjepocklmlnbaaDoor.Pure

/- The references of layer 2 that look at one rune. -/
namespace Go.Proofs.YtdjepocklmlnbaaDoor.Pure
open Go.RowKit Go.Proofs.YtdjepocklmlnbaaDoorW.PrintWords Go.Proofs.YtdjepocklmlnbaaDoorW.PrintLast Go.Proofs.YtdjepocklmlnbaaDoorW.PrintMore Go.Proofs.YtdjepocklmlnbaaDoor.X Go.Proofs.YtdjepocklmlnbaaDoor.Hand
set_option linter.unusedSimpArgs false
set_option linter.unusedVariables false
theorem rcontrol_eq (a : Int) : flongref02_Control.f a = some (controlB a) := by
  unfold flongref02_Control.f
  by_cases h1 : a ≥ 0 <;> by_cases h2 : a ≤ 31 <;> by_cases h3 : a ≥ 127 <;> by_cases h4 : a ≤ 159 <;> by_cases h5 : a = 8232 <;> simp only [h1, h2, h3, h4, h5, if_true, if_false] <;> congr 1 <;> (rw [Bool.eq_iff_iff]; simp [controlB]; omega)
theorem rsafe_eq (a : Int) : flongref02_Safe.f a = some (safe a) := by
  unfold flongref02_Safe.f
  rw [rvalid_eq, Option.bind_some]
  by_cases h1 : validB a = true
  · rw [if_pos h1, rcontrol_eq, Option.bind_some]
    cases h2 : controlB a <;> simp [safe, h1, h2]
  · rw [if_neg h1]
    simp [safe, h1]
theorem within_step (r : Int) (ls : List Int) (n : Nat) (hn : ls.length = 2 * n) (hs : n ≤ 1000) (i : Nat) (hlt : i < n) (k : Nat) : flongref02_within.l0 (k + 1) r ls ((2 * i : Nat) : Int) =
    if r ≥ lowAt ls i then (if r ≤ highAt ls i then some true else flongref02_within.l0 k r ls ((2 * (i + 1) : Nat) : Int)) else flongref02_within.l0 k r ls ((2 * (i + 1) : Nat) : Int) := by
  have e0 : rd ls ((2 * i : Nat) : Int) = lowAt ls i := by
    rw [rd_nat ls (2 * i) (by omega)]
    simp [lowAt, List.getD_eq_getElem?_getD, Nat.mul_comm i 2, List.getElem?_eq_getElem (show 2 * i < ls.length by omega)]
  have e1 : rd ls (((2 * i : Nat) : Int) + 1) = highAt ls i := by
    rw [show ((2 * i : Nat) : Int) + 1 = ((2 * i + 1 : Nat) : Int) from by omega, rd_nat ls (2 * i + 1) (by omega)]
    simp [highAt, List.getD_eq_getElem?_getD, Nat.mul_comm i 2, List.getElem?_eq_getElem (show 2 * i + 1 < ls.length by omega)]
  simp only [flongref02_within.l0]
  rw [wrap_of (x := ((2 * i : Nat) : Int) + 1) (by omega) (by omega), wrap_of (x := ((2 * i : Nat) : Int) + 2) (by omega) (by omega), if_pos (by omega), if_pos (by omega), if_pos (by omega), e0, e1, show ((2 * i : Nat) : Int) + 2 = ((2 * (i + 1) : Nat) : Int) from by omega]
  split
  · rw [if_pos (by omega)]
  · rfl
theorem within_end (r : Int) (ls : List Int) (n : Nat) (hn : ls.length = 2 * n) (hs : n ≤ 1000) (k : Nat) : flongref02_within.l0 (k + 1) r ls ((2 * n : Nat) : Int) = some false := by
  simp only [flongref02_within.l0]
  rw [wrap_of (by omega) (by omega), if_neg (by omega)]
theorem part_range (r : Int) (ls : List Int) (n i : Nat) (hlt : i < n) : (∃ j, i ≤ j ∧ j < n ∧ lowAt ls j ≤ r ∧ r ≤ highAt ls j) ↔ (lowAt ls i ≤ r ∧ r ≤ highAt ls i) ∨ ∃ j, i + 1 ≤ j ∧ j < n ∧ lowAt ls j ≤ r ∧ r ≤ highAt ls j := by
  constructor
  · rintro ⟨j, h1, h2, h3⟩
    by_cases e : j = i
    · subst e; exact .inl h3
    · exact .inr ⟨j, by omega, h2, h3⟩
  · rintro (h | ⟨j, h1, h2, h3⟩)
    · exact ⟨i, Nat.le_refl _, hlt, h⟩
    · exact ⟨j, by omega, h2, h3⟩
theorem within_l (r : Int) (ls : List Int) (n : Nat) (hn : ls.length = 2 * n) (hs : n ≤ 1000) : ∀ (d i : Nat), n - i = d → i ≤ n → ∀ b : Bool, (b = true ↔ ∃ j, i ≤ j ∧ j < n ∧ lowAt ls j ≤ r ∧ r ≤ highAt ls j) → Ev (fun k => flongref02_within.l0 k r ls ((2 * i : Nat) : Int)) b := by
  intro d
  induction d with
  | zero =>
    intro i hd hi b hb
    obtain rfl : i = n := by clear hb; omega
    refine Ev.step (f := fun _ => some false) (fun k => within_end r ls i hn hs k) (ev_eq (Ev.now _) ?_)
    cases b with
    | false => rfl
    | true =>
      obtain ⟨j, h1, h2, _⟩ := hb.1 rfl
      exact absurd h2 (Nat.not_lt.2 h1)
  | succ d ih =>
    intro i hd hi b hb
    have hlt : i < n := by clear hb; omega
    have hnext := ih (i + 1) (by clear hb; omega) (by clear hb; omega)
    refine Ev.step (within_step r ls n hn hs i hlt) ?_
    refine ev_ite (fun h => ev_ite (fun h' => ev_eq (Ev.now _) ?_) (fun h' => hnext b ?_)) (fun h => hnext b ?_)
    · exact ((hb.trans (part_range r ls n i hlt)).2 (.inl ⟨h, h'⟩)).symm
    · rw [hb, part_range r ls n i hlt]
      exact ⟨fun z => z.resolve_left (fun q => h' q.2), .inr⟩
    · rw [hb, part_range r ls n i hlt]
      exact ⟨fun z => z.resolve_left (fun q => h q.1), .inr⟩
theorem within_ev (r : Int) (ls : List Int) (n : Nat) (hn : ls.length = 2 * n) (hs : n ≤ 1000) : Ev (fun k => flongref02_within.f k r ls) (inRange ls n r) := by
  unfold flongref02_within.f
  refine within_l r ls n hn hs n 0 (by omega) (by omega) _ ?_
  rw [inRange_true]
  constructor
  · rintro ⟨j, h2, h3⟩; exact ⟨j, Nat.zero_le _, h2, h3⟩
  · rintro ⟨j, _, h2, h3⟩; exact ⟨j, h2, h3⟩
theorem rwidth_ev (r : Int) : Ev (fun k => flongref02_Width.f k r) (wid r) := by
  have hj : ∀ b : Bool, Ev (fun k => flongref02_Width.j0 k r b) (if b = true then 0 else if inRange noneL 12 r = true then 0 else if inRange wideL 16 r = true then 2 else 1) := by
    intro b
    refine Ev.step (f := fun k => if b = true then some 0 else ((flongref02_within.f k r noneL).bind fun t => if t = true then some 0 else ((flongref02_within.f k r wideL).bind fun t => if t = true then some 2 else some 1))) (fun k => by simp only [flongref02_Width.j0, noneL, wideL]) ?_
    refine ev_ite (fun h => ev_eq (Ev.now _) (by simp [h])) (fun h => Ev.bind (within_ev r noneL 12 rfl (by omega)) (ev_ite (fun h1 => ev_eq (Ev.now _) (by simp [h, h1])) (fun h1 => Ev.bind (within_ev r wideL 16 rfl (by omega)) (ev_ite (fun h2 => ev_eq (Ev.now _) (by simp [h, h1, h2])) (fun h2 => ev_eq (Ev.now _) (by simp [h, h1, h2]))))))
  unfold flongref02_Width.f
  refine ev_bind1 (rvalid_eq r) (ev_ite (fun h => ev_bind1 (rcontrol_eq r) (ev_eq (hj _) ?_)) (fun h => ev_eq (hj _) ?_))
  · simp [wid, h]
  · simp [wid, h]
end Go.Proofs.YtdjepocklmlnbaaDoor.Pure

/- The reference: what may be written of a row. -/
namespace Go.Proofs.YtdjepocklmlnbaaDoor.Pure
open Go.RowKit Go.Proofs.YtdjepocklmlnbaaDoorW.PrintWords Go.Proofs.YtdjepocklmlnbaaDoorW.PrintLast Go.Proofs.YtdjepocklmlnbaaDoorW.PrintMore Go.Proofs.YtdjepocklmlnbaaDoor.X Go.Proofs.YtdjepocklmlnbaaDoor.Hand
set_option linter.unusedSimpArgs false
set_option linter.unusedVariables false
theorem tmod4 {x : Int} (h : 0 ≤ x ∧ x ≤ 255) : Int.tmod x 4 = Go.bits .and .u8 x 3 := by
  have h1 : ∀ n : Nat, n < 256 → Int.tmod (n : Int) 4 = Go.bits .and .u8 (n : Int) 3 := by decide +kernel
  obtain ⟨n, rfl⟩ := Int.eq_ofNat_of_zero_le h.1
  exact h1 n (by omega)
theorem safe_32 : safe 32 = 32 := by decide +kernel
theorem rclean_ev (l : List Gl) (h : l.length ≤ 5000) (h8 : ∀ g ∈ l, 0 ≤ g.f1 ∧ g.f1 ≤ 255) : Ev (fun k => flongref03_Clean.f k l) (clean l) := by
  unfold flongref03_Clean.f
  refine ev_eq (loop_up (fun k o i => flongref03_Clean.l0 k l o i) l.length (fun o i => if o = [] then clean (l.drop i) else o ++ (l.drop i).map cleanG) (fun o i => o.length ≤ i) ?_ ?_ [] 0 (by omega) (by simp)) (by simp)
  · intro o _
    refine Ev.step (f := fun _ => some o) (fun k => by simp only [flongref03_Clean.l0]; rw [if_neg (by omega)]) (ev_eq (Ev.now _) ?_)
    rw [List.drop_length]
    split
    · rename_i e
      rw [e]
      rfl
    · simp
  · intro o i hi ho ih
    have h1 : Ev (fun k => flongref03_Clean.l0 k l (o ++ [cleanG l[i]]) ((i + 1 : Nat) : Int)) (o ++ cleanG l[i] :: (l.drop (i + 1)).map cleanG) := by
      refine ev_eq (ih (o ++ [cleanG l[i]]) (by simp; omega)) ?_
      rw [if_neg (by simp), List.append_assoc]
      rfl
    have hst : Int.tmod l[i].f1 4 = Go.bits .and .u8 l[i].f1 3 := tmod4 (h8 l[i] (List.getElem_mem hi))
    have hj : ∀ x : Int, cleanG l[i] = ⟨x, Int.tmod l[i].f1 4⟩ → Ev (fun k => if (o.length : Int) > 0 then (if o.length < 17592186044416 then flongref03_Clean.l0 k l (o ++ [(⟨x, Int.tmod l[i].f1 4⟩ : Gl)]) ((i + 1 : Nat) : Int) else none) else ((flongref02_Width.f k x).bind fun t => if t > 0 then (if o.length < 17592186044416 then flongref03_Clean.l0 k l (o ++ [(⟨x, Int.tmod l[i].f1 4⟩ : Gl)]) ((i + 1 : Nat) : Int) else none) else flongref03_Clean.l0 k l o ((i + 1 : Nat) : Int))) (if o = [] then clean (l.drop i) else o ++ (l.drop i).map cleanG) := by
      intro x hx
      rw [← hx]
      refine ev_ite (fun hc => ev_pos (by omega) (ev_eq h1 ?_)) (fun hc => ?_)
      · rw [if_neg (by intro e; rw [e] at hc; simp at hc), List.drop_eq_getElem_cons hi, List.map_cons]
      · obtain rfl : o = [] := by
          rcases o with _ | ⟨_, _⟩
          · rfl
          · exfalso
            apply hc
            simp only [List.length_cons]
            omega
        rw [if_pos rfl]
        have hw : wid x = wid (cleanG l[i]).f0 := by rw [hx]
        refine Ev.bind (rwidth_ev x) ?_
        rw [hw]
        refine ev_ite (fun hp => ev_pos (by simp) (ev_eq h1 ?_)) (fun hp => ev_eq (ih [] (by simp)) ?_)
        · rw [List.drop_eq_getElem_cons hi, clean, List.map_cons, List.dropWhile_cons, if_neg (by simp [hp])]
          rfl
        · rw [if_pos rfl, List.drop_eq_getElem_cons hi, clean, clean, List.map_cons, List.dropWhile_cons, if_pos (by simp [hp])]
    by_cases hc : l[i].f0 = 160
    · refine Ev.step (f := fun k => if (o.length : Int) > 0 then (if o.length < 17592186044416 then flongref03_Clean.l0 k l (o ++ [(⟨32, Int.tmod l[i].f1 4⟩ : Gl)]) ((i + 1 : Nat) : Int) else none) else ((flongref02_Width.f k 32).bind fun t => if t > 0 then (if o.length < 17592186044416 then flongref03_Clean.l0 k l (o ++ [(⟨32, Int.tmod l[i].f1 4⟩ : Gl)]) ((i + 1 : Nat) : Int) else none) else flongref03_Clean.l0 k l o ((i + 1 : Nat) : Int))) (fun k => ?_) (hj 32 ?_)
      · simp only [flongref03_Clean.l0]
        rw [if_pos (by omega), if_pos (by omega), rdG l i hi, rsafe_eq, Option.bind_some, if_pos hc, wrap_up hi (by omega)]
      · rw [cleanG, if_pos hc, safe_32, hst]
    · refine Ev.step (f := fun k => if (o.length : Int) > 0 then (if o.length < 17592186044416 then flongref03_Clean.l0 k l (o ++ [(⟨safe l[i].f0, Int.tmod l[i].f1 4⟩ : Gl)]) ((i + 1 : Nat) : Int) else none) else ((flongref02_Width.f k (safe l[i].f0)).bind fun t => if t > 0 then (if o.length < 17592186044416 then flongref03_Clean.l0 k l (o ++ [(⟨safe l[i].f0, Int.tmod l[i].f1 4⟩ : Gl)]) ((i + 1 : Nat) : Int) else none) else flongref03_Clean.l0 k l o ((i + 1 : Nat) : Int))) (fun k => ?_) (hj (safe l[i].f0) ?_)
      · simp only [flongref03_Clean.l0]
        rw [if_pos (by omega), if_pos (by omega), rdG l i hi, rsafe_eq, Option.bind_some, if_neg hc, wrap_up hi (by omega)]
      · rw [cleanG, if_neg hc, hst]
end Go.Proofs.YtdjepocklmlnbaaDoor.Pure

/- The reference: a row trimmed. -/
namespace Go.Proofs.YtdjepocklmlnbaaDoor.Pure
open Go.RowKit Go.Proofs.YtdjepocklmlnbaaDoorW.PrintWords Go.Proofs.YtdjepocklmlnbaaDoorW.PrintLast Go.Proofs.YtdjepocklmlnbaaDoorW.PrintMore Go.Proofs.YtdjepocklmlnbaaDoor.X Go.Proofs.YtdjepocklmlnbaaDoor.Hand
set_option linter.unusedSimpArgs false
set_option linter.unusedVariables false
theorem rtrim_ev {l : List Gl} {m : Nat} (hm : IsTrim l m) (h : l.length ≤ 5000) : Ev (fun k => flongref03_Trim.f k l) (l.take m) := by
  have hle := hm.le
  have hend : (if 0 ≤ (m : Int) then (if (m : Int) ≤ (l.length : Int) then (some (l.take (m : Int).toNat)) else (none)) else (none)) = some (l.take m) := by
    rw [if_pos (by omega), if_pos (by omega), Int.toNat_natCast]
  have key : ∀ d n, n - m = d → m ≤ n → n ≤ l.length → Ev (fun k => flongref03_Trim.l0 k l (n : Int)) (l.take m) := by
    intro d
    induction d with
    | zero =>
      intro n hd h1 h2
      obtain rfl : n = m := by omega
      refine Ev.step (f := fun _ => some (l.take n)) (fun k => ?_) (Ev.now _)
      simp only [flongref03_Trim.l0]
      by_cases hp : 0 < n
      · have hg := hm.last l[n - 1] hp (List.getElem?_eq_getElem (by omega))
        rw [if_pos (by omega), wrap_of (by omega) (by omega), show (n : Int) - 1 = ((n - 1 : Nat) : Int) by omega, if_pos (by omega), if_pos (by omega), rdG l (n - 1) (by omega), if_neg hg, hend]
      · rw [if_neg (by omega), hend]
    | succ d ih =>
      intro n hd h1 h2
      have hg := hm.rest (n - 1) (l[n - 1]'(by omega)) (by omega) (List.getElem?_eq_getElem (by omega))
      refine Ev.step (f := fun k => flongref03_Trim.l0 k l ((n - 1 : Nat) : Int)) (fun k => ?_) (ih (n - 1) (by omega) (by omega) (by omega))
      simp only [flongref03_Trim.l0]
      rw [if_pos (by omega), wrap_of (by omega) (by omega), show (n : Int) - 1 = ((n - 1 : Nat) : Int) by omega, if_pos (by omega), if_pos (by omega), rdG l (n - 1) (by omega), if_pos hg]
  unfold flongref03_Trim.f
  exact key (l.length - m) l.length rfl hle (Nat.le_refl _)
end Go.Proofs.YtdjepocklmlnbaaDoor.Pure

/- The reference: a row made normal. -/
namespace Go.Proofs.YtdjepocklmlnbaaDoor.Pure
open Go.RowKit Go.Proofs.YtdjepocklmlnbaaDoorW.PrintWords Go.Proofs.YtdjepocklmlnbaaDoorW.PrintLast Go.Proofs.YtdjepocklmlnbaaDoorW.PrintMore Go.Proofs.YtdjepocklmlnbaaDoor.X Go.Proofs.YtdjepocklmlnbaaDoor.Hand
set_option linter.unusedSimpArgs false
set_option linter.unusedVariables false
theorem rnormal_ev (l : List Gl) {m : Nat} (hm : IsTrim (clean l) m) (h : l.length ≤ 5000) (h8 : ∀ g ∈ l, 0 ≤ g.f1 ∧ g.f1 ≤ 255) : Ev (fun k => flongref17_Normal.f k l) (normGo none ((clean l).take m)) := by
  have hcl := clean_length l
  unfold flongref17_Normal.f
  refine Ev.bind (rclean_ev l h h8) (Ev.bind (rtrim_ev hm (by omega)) ?_)
  have hlen : ((clean l).take m).length ≤ 1000000 := by rw [List.length_take]; omega
  generalize (clean l).take m = c at hlen
  refine ev_eq (loop_up (fun k o i => flongref17_Normal.l0 k c o i) c.length (fun o i => o ++ normGo (lastS o) (c.drop i)) (fun o i => o.length = i) ?_ ?_ [] 0 (by omega) rfl) (by simp [lastS])
  · intro o ho
    refine Ev.step (f := fun _ => some o) (fun k => by simp only [flongref17_Normal.l0]; rw [if_neg (by omega)]) (ev_eq (Ev.now _) ?_)
    rw [List.drop_length, normGo, List.append_nil]
  · intro o i hi ho ih
    have hnext : ∀ x : Gl, x = ⟨c[i].f0, setOf (lastS o) c[i]⟩ → Ev (fun k => flongref17_Normal.l0 k c (o ++ [x]) ((i + 1 : Nat) : Int)) (o ++ normGo (lastS o) (c.drop i)) := by
      intro x hx
      refine ev_eq (ih (o ++ [x]) (by simp [ho])) ?_
      rw [List.drop_eq_getElem_cons hi, lastS_snoc, normGo, hx, List.append_assoc]
      rfl
    have hj : ∀ b : Bool, (b = true ↔ (o ≠ [] ∧ wid c[i].f0 = 0)) → Ev (fun k => flongref17_Normal.j1 k c o (i : Int) b c[i].f0 c[i].f1) (o ++ normGo (lastS o) (c.drop i)) := by
      intro b hb
      by_cases h32 : c[i].f0 = 32
      · have hn := hnext ⟨c[i].f0, 0⟩ (by simp [setOf, h32])
        refine Ev.step (fun k => ?_) hn
        simp only [flongref17_Normal.j1]
        cases b with
        | false => rw [if_neg (by simp), if_pos h32, if_pos (by omega), wrap_up hi (by omega)]
        | true =>
          have ho0 : o ≠ [] := (hb.1 rfl).1
          have := List.length_pos_iff.2 ho0
          rw [if_pos rfl, wrap_of (by omega) (by omega), if_pos (by omega), if_pos (by omega), if_pos h32, if_pos (by omega), wrap_up hi (by omega)]
      · cases b with
        | false =>
          have hz : ¬ (o ≠ [] ∧ wid c[i].f0 = 0) := fun e => by simpa using hb.2 e
          have hn := hnext ⟨c[i].f0, c[i].f1⟩ (by
            rcases List.eq_nil_or_concat o with e | ⟨o', y, e⟩
            · simp [setOf, h32, e, lastS]
            · have hne : o ≠ [] := by rw [e]; simp
              have hw : ¬ wid c[i].f0 = 0 := fun e2 => hz ⟨hne, e2⟩
              rw [List.concat_eq_append] at e
              simp [setOf, h32, e, lastS_snoc, hw])
          refine Ev.step (fun k => ?_) hn
          simp only [flongref17_Normal.j1]
          rw [if_neg (by simp), if_neg h32, if_pos (by omega), wrap_up hi (by omega)]
        | true =>
          obtain ⟨ho0, hw⟩ := hb.1 rfl
          rcases List.eq_nil_or_concat o with e | ⟨o', y, e⟩
          · exact absurd e ho0
          · rw [List.concat_eq_append] at e
            have hol : o.length = o'.length + 1 := by rw [e]; simp
            have hy : rd_T44 o ((i - 1 : Nat) : Int) = y := by
              rw [rdG _ _ (by omega)]
              have : i - 1 = o'.length := by omega
              simp [e, this]
            have hn := hnext ⟨c[i].f0, y.f1⟩ (by rw [e]; simp [setOf, h32, lastS_snoc, hw])
            refine Ev.step (fun k => ?_) hn
            simp only [flongref17_Normal.j1]
            rw [if_pos trivial, wrap_of (by omega) (by omega), show (i : Int) - 1 = ((i - 1 : Nat) : Int) by omega, if_pos (by omega), if_pos (by omega), if_neg h32, if_pos (by omega), hy, wrap_up hi (by omega)]
    by_cases h0 : 0 < i
    · have hne : o ≠ [] := by intro e; rw [e] at ho; simp at ho; omega
      refine Ev.step (f := fun k => (flongref02_Width.f k c[i].f0).bind fun t => flongref17_Normal.j1 k c o (i : Int) (t == 0) c[i].f0 c[i].f1) (fun k => ?_) (Ev.bind (rwidth_ev _) (hj _ (by simp [hne])))
      simp only [flongref17_Normal.l0]
      rw [if_pos (by omega), if_pos (by omega), if_pos (by omega), rdG c i hi]
    · have he : o = [] := List.eq_nil_of_length_eq_zero (by omega)
      refine Ev.step (f := fun k => flongref17_Normal.j1 k c o (i : Int) false c[i].f0 c[i].f1) (fun k => ?_) (hj false (by simp [he]))
      simp only [flongref17_Normal.l0]
      rw [if_pos (by omega), if_pos (by omega), if_neg (by omega), rdG c i hi]
end Go.Proofs.YtdjepocklmlnbaaDoor.Pure

/- The reference's bytes of one rune. -/
namespace Go.Proofs.YtdjepocklmlnbaaDoor.Pure
open Go.RowKit Go.Proofs.YtdjepocklmlnbaaDoorW.PrintWords Go.Proofs.YtdjepocklmlnbaaDoorW.PrintLast Go.Proofs.YtdjepocklmlnbaaDoorW.PrintMore Go.Proofs.YtdjepocklmlnbaaDoor.X Go.Proofs.YtdjepocklmlnbaaDoor.Hand
set_option linter.unusedSimpArgs false
set_option linter.unusedVariables false

theorem rone_j {x : Int} (h : validB x = true) : Ev (fun k => flongref02_One.j0 k x) (enc x) := by
  have h' := (validB_iff x).1 h
  have t64 : Int.tdiv x 64 = x / 64 := Int.tdiv_eq_ediv_of_nonneg (by omega)
  have t4096 : Int.tdiv x 4096 = x / 4096 := Int.tdiv_eq_ediv_of_nonneg (by omega)
  have t26 : Int.tdiv x 262144 = x / 262144 := Int.tdiv_eq_ediv_of_nonneg (by omega)
  have m : ∀ y : Int, 0 ≤ y → Int.tmod y 64 = y % 64 := fun y hy => Int.tmod_eq_emod_of_nonneg hy
  refine Ev.step (f := fun _ => some (enc x)) (fun k => ?_) (Ev.now _)
  simp only [flongref02_One.j0, enc, t64, t4096, t26]
  rw [wrap_of (x := x / 64) (by omega) (by omega), wrap_of (x := x / 4096) (by omega) (by omega), wrap_of (x := x / 262144) (by omega) (by omega), m x (by omega), m (x / 64) (by omega), m (x / 4096) (by omega),
    wrap_of (x := 192 + x / 64) (by omega) (by omega), wrap_of (x := 224 + x / 4096) (by omega) (by omega), wrap_of (x := 240 + x / 262144) (by omega) (by omega), wrap_of (x := 128 + x % 64) (by omega) (by omega), wrap_of (x := 128 + x / 64 % 64) (by omega) (by omega), wrap_of (x := 128 + x / 4096 % 64) (by omega) (by omega)]
  split
  · rw [show x % 256 = x from by omega]
  · split
    · rw [show (192 + x / 64) % 256 = 192 + x / 64 from by omega, show (128 + x % 64) % 256 = 128 + x % 64 from by omega]
    · split
      · rw [show (224 + x / 4096) % 256 = 224 + x / 4096 from by omega, show (128 + x % 64) % 256 = 128 + x % 64 from by omega, show (128 + x / 64 % 64) % 256 = 128 + x / 64 % 64 from by omega]
      · rw [show (240 + x / 262144) % 256 = 240 + x / 262144 from by omega, show (128 + x % 64) % 256 = 128 + x % 64 from by omega, show (128 + x / 64 % 64) % 256 = 128 + x / 64 % 64 from by omega, show (128 + x / 4096 % 64) % 256 = 128 + x / 4096 % 64 from by omega]
theorem rone_ev (r : Int) : Ev (fun k => flongref02_One.f k r) (one r) := by
  unfold flongref02_One.f
  refine ev_bind1 (rvalid_eq r) (ev_ite (fun h => ?_) (fun h => ?_))
  · have h' := (validB_iff r).1 h
    rw [wrap_of (by omega) (by omega)]
    exact ev_eq (rone_j h) (by simp [one, h])
  · exact ev_eq (rone_j valid_odd) (by simp [one, h])
end Go.Proofs.YtdjepocklmlnbaaDoor.Pure

/- A row of rows, read. -/
namespace Go.Proofs.YtdjepocklmlnbaaDoor.Pure
open Go.RowKit Go.Proofs.YtdjepocklmlnbaaDoorW.PrintWords Go.Proofs.YtdjepocklmlnbaaDoorW.PrintLast Go.Proofs.YtdjepocklmlnbaaDoorW.PrintMore Go.Proofs.YtdjepocklmlnbaaDoor.X Go.Proofs.YtdjepocklmlnbaaDoor.Hand
theorem rdL (l : List (List Gl)) (i : Nat) (h : i < l.length) : rd_L5 l (i : Int) = l[i] := by
  simp [rd_L5, List.getD_eq_getElem?_getD, List.getElem?_eq_getElem h]
end Go.Proofs.YtdjepocklmlnbaaDoor.Pure

/- The reference's rows of glyphs: what text; rows of rows the same. -/
namespace Go.Proofs.YtdjepocklmlnbaaDoor.Pure
open Go.RowKit Go.Proofs.YtdjepocklmlnbaaDoorW.PrintWords Go.Proofs.YtdjepocklmlnbaaDoorW.PrintLast Go.Proofs.YtdjepocklmlnbaaDoorW.PrintMore Go.Proofs.YtdjepocklmlnbaaDoor.X Go.Proofs.YtdjepocklmlnbaaDoor.Hand
set_option linter.unusedSimpArgs false
set_option linter.unusedVariables false
theorem one_len4 (r : Int) : (one r).length ≤ 4 := by
  have := encode_length [r]
  rw [encode_cons, encode_nil, List.append_nil] at this
  simpa using this
theorem rgtext_ev (l : List Gl) (h : l.length ≤ 5000) : Ev (fun k => flongref03_Text.f k l) (strOfNums (encode (runesOf l))) := by
  unfold flongref03_Text.f
  refine ev_eq (loop_up (fun k o i => flongref03_Text.l0 k l o i) l.length (fun o i => strOfNums (o ++ encode (runesOf (l.drop i)))) (fun o i => o.length ≤ 4 * i) ?_ ?_ [] 0 (by omega) (by simp)) (by simp)
  · intro o _
    exact Ev.step (f := fun _ => some (strOfNums o)) (fun k => by simp only [flongref03_Text.l0]; rw [if_neg (by omega)]) (ev_eq (Ev.now _) (by rw [List.drop_length, runesOf_nil, encode_nil, List.append_nil]))
  · intro o i hi ho ih
    have hl := one_len4 l[i].f0
    refine Ev.step (f := fun k => (flongref02_One.f k l[i].f0).bind fun t => if o.length + t.length < 140737488355328 then flongref03_Text.l0 k l (o ++ t) ((i + 1 : Nat) : Int) else none) (fun k => ?_) ?_
    · simp only [flongref03_Text.l0]
      rw [if_pos (by omega), if_pos (by omega), rdG l i hi, wrap_up hi (by omega)]
    · refine Ev.bind (rone_ev _) (ev_pos (by omega) (ev_eq (ih (o ++ one l[i].f0) (by rw [List.length_append]; omega)) ?_))
      rw [List.drop_eq_getElem_cons hi, runesOf_cons, encode_cons, List.append_assoc]
end Go.Proofs.YtdjepocklmlnbaaDoor.Pure

/- Rows, and lines, with signs: the reference's. -/
namespace Go.Proofs.YtdjepocklmlnbaaDoor.Pure
open Go Go.RowKit Go.Proofs.YtdjepocklmlnbaaDoorW.PrintWords Go.Proofs.YtdjepocklmlnbaaDoorW.PrintLast Go.Proofs.YtdjepocklmlnbaaDoorW.PrintMore Go.Proofs.YtdjepocklmlnbaaDoor.X Go.Proofs.YtdjepocklmlnbaaDoor.Hand
set_option linter.unusedSimpArgs false
set_option linter.unusedVariables false
theorem rsign_eq {s : Int} (h : 0 ≤ s ∧ s ≤ 255) : flongref19_Sign.f s = some (strOfNums (sgL s)) := by
  have h1 : ∀ n : Nat, n < 256 → flongref19_Sign.f (n : Int) = some (signS ((n : Int) % 4).toNat) := by
    intro n hn
    have hm : Int.tmod (n : Int) 4 = ((n % 4 : Nat) : Int) := rfl
    have hm2 : ((n : Int) % 4).toNat = n % 4 := by omega
    unfold flongref19_Sign.f
    rw [hm, hm2]
    have : n % 4 = 0 ∨ n % 4 = 1 ∨ n % 4 = 2 ∨ n % 4 = 3 := by omega
    rcases this with e | e | e | e <;> rw [e] <;> rfl
  obtain ⟨n, rfl⟩ := Int.eq_ofNat_of_zero_le h.1
  rw [h1 n (by omega), sgL, ← signS_str]
theorem one_slice (c : List Gl) (i : Nat) (hi : i < c.length) : (c.take (i + 1)).drop i = [c[i]] := by
  rw [List.take_add_one, List.getElem?_eq_getElem hi, Option.toList_some, List.drop_append_of_le_length (by rw [List.length_take]; omega), List.drop_eq_nil_of_le (by rw [List.length_take]; omega)]
  rfl
theorem rrow_ev {l : List Gl} (hl : l.length ≤ 3000) (h : ∀ g ∈ l, 0 ≤ g.f1 ∧ g.f1 ≤ 255) : Ev (fun k => flongref19_Row.f k l) (refGo (nrm l) 0) := by
  have hn := nrm_length l
  have hset := nrm_set h
  have hnl := rnormal_ev l (exists_trim (clean l)).choose_spec (by omega) h
  change Ev _ (nrm l) at hnl
  unfold flongref19_Row.f
  refine Ev.bind hnl ?_
  revert hn hset
  generalize nrm l = c
  intro hn hset
  have hB : Bytes ([] : List Int) := by intro x hx; simp at hx
  have hz := sgL_length 0
  have hconv : ∀ o : List Int, Bytes o → o.length ≤ 1000000 → conv_bytes.f (strOfNums o) = some o := by
    intro o ho hlo
    unfold conv_bytes.f
    rw [if_pos (by rw [numsStr_size]; omega), numsStr_back ho]
  refine ev_eq (loop_up (σ := List Int × Int) (fun k s i => flongref19_Row.l0 k c (strOfNums s.1) s.2 i) c.length (fun s i => s.1 ++ refGo (c.drop i) s.2) (fun s i => Bytes s.1 ∧ s.1.length ≤ 20 * i ∧ 0 ≤ s.2 ∧ s.2 ≤ 255) ?_ ?_ ([], 0) 0 (by omega) ⟨hB, by simp, by simp, by simp⟩) (by simp)
  · rintro ⟨o, was⟩ ⟨ho, hlo, h0, h1⟩
    simp only at ho hlo h0 h1
    rw [List.drop_length, refGo]
    refine Ev.step (f := fun k => if was = 0 then ((conv_bytes.f (strOfNums o)).bind fun t288 => (some t288)) else ((flongref19_Sign.f 0).bind fun t291 => (if (strOfNums o).size + t291.size ≤ 9223372036854775807 then ((conv_bytes.f (strOfNums o ++ t291)).bind fun t292 => (some t292)) else (none)))) (fun k => by simp only [flongref19_Row.l0]; rw [if_neg (by omega)]) ?_
    refine ev_ite (fun hw => ?_) (fun hw => ?_)
    · rw [if_pos hw, List.append_nil]
      exact ev_bind1 (hconv o ho (by omega)) (Ev.now _)
    · rw [if_neg hw]
      refine ev_bind1 (rsign_eq (by decide)) (ev_pos (by rw [numsStr_size, numsStr_size]; omega) ?_)
      rw [← numsStr_append]
      exact ev_bind1 (hconv _ (bytes_append ho (sgL_Bytes 0)) (by rw [List.length_append]; omega)) (Ev.now _)
  · rintro ⟨o, was⟩ i hi ⟨ho, hlo, h0, h1⟩ ih
    simp only at ho hlo h0 h1
    have hg := hset c[i] (List.getElem_mem hi)
    have hsg := sgL_length c[i].f1
    have hen := encode_length (runesOf [c[i]])
    rw [runesOf_length] at hen
    simp only [List.length_singleton] at hen
    have hw1 : wrap64 ((i : Int) + 1) = ((i + 1 : Nat) : Int) := wrap_up hi (by omega)
    have q1 : ((i : Int) ≤ ((i + 1 : Nat) : Int)) = True := eq_true (by omega)
    have q2 : (((i + 1 : Nat) : Int) ≤ (c.length : Int)) = True := eq_true (by omega)
    rw [List.drop_eq_getElem_cons hi, refGo]
    have htext : Ev (fun k => flongref03_Text.f k ((c.take (((i + 1 : Nat) : Int)).toNat).drop (i : Int).toNat)) (strOfNums (encode [c[i].f0])) := by
      rw [Int.toNat_natCast, Int.toNat_natCast, one_slice c i hi]
      exact rgtext_ev _ (by simp)
    have hj : ∀ o' : List Int, Bytes o' → o'.length ≤ 20 * i + 6 → Ev (fun k => flongref19_Row.j1 k c (strOfNums o') (i : Int)) (o' ++ ((if c[i].f1 = 0 then [] else sgL c[i].f1) ++ (encode [c[i].f0] ++ refGo (c.drop (i + 1)) c[i].f1))) := by
      intro o' ho' hlo'
      refine Ev.step (f := fun k => if c[i].f1 = 0 then ((flongref03_Text.f k ((c.take (((i + 1 : Nat) : Int)).toNat).drop (i : Int).toNat)).bind fun t308 => (if (strOfNums o').size + t308.size ≤ 9223372036854775807 then (flongref19_Row.l0 k c (strOfNums o' ++ t308) c[i].f1 ((i + 1 : Nat) : Int)) else (none))) else ((flongref19_Sign.f c[i].f1).bind fun t310 => (if (strOfNums o').size + t310.size ≤ 9223372036854775807 then ((flongref03_Text.f k ((c.take (((i + 1 : Nat) : Int)).toNat).drop (i : Int).toNat)).bind fun t316 => (if (strOfNums o' ++ t310).size + t316.size ≤ 9223372036854775807 then (flongref19_Row.l0 k c ((strOfNums o' ++ t310) ++ t316) c[i].f1 ((i + 1 : Nat) : Int)) else (none))) else (none)))) (fun k => ?_) ?_
      · simp only [flongref19_Row.j1]
        rw [if_pos (by omega), if_pos (by omega), rdG c i hi, hw1]
        simp only [q1, q2, if_true]
      · refine ev_ite (fun hq => ?_) (fun hq => ?_)
        · rw [if_pos hq, List.nil_append]
          refine Ev.bind htext (ev_pos (by rw [numsStr_size, numsStr_size]; have : (encode [c[i].f0]).length ≤ 4 := hen; omega) ?_)
          rw [← numsStr_append]
          exact ev_eq (ih (o' ++ encode [c[i].f0], c[i].f1) ⟨bytes_append ho' (encode_bytes _), by rw [List.length_append]; have : (encode [c[i].f0]).length ≤ 4 := hen; omega, by show 0 ≤ c[i].f1; omega, by show c[i].f1 ≤ 255; omega⟩) (by rw [List.append_assoc])
        · rw [if_neg hq]
          refine ev_bind1 (rsign_eq (by omega)) (ev_pos (by rw [numsStr_size, numsStr_size]; omega) (Ev.bind htext (ev_pos (by rw [← numsStr_append, numsStr_size, numsStr_size, List.length_append]; have : (encode [c[i].f0]).length ≤ 4 := hen; omega) ?_)))
          rw [← numsStr_append, ← numsStr_append]
          exact ev_eq (ih ((o' ++ sgL c[i].f1) ++ encode [c[i].f0], c[i].f1) ⟨bytes_append (bytes_append ho' (sgL_Bytes _)) (encode_bytes _), by rw [List.length_append, List.length_append]; have : (encode [c[i].f0]).length ≤ 4 := hen; omega, by show 0 ≤ c[i].f1; omega, by show c[i].f1 ≤ 255; omega⟩) (by simp only [List.append_assoc])
    refine Ev.step (f := fun k => if c[i].f1 = was then ((flongref03_Text.f k ((c.take (((i + 1 : Nat) : Int)).toNat).drop (i : Int).toNat)).bind fun t300 => (if (strOfNums o).size + t300.size ≤ 9223372036854775807 then (flongref19_Row.l0 k c (strOfNums o ++ t300) was ((i + 1 : Nat) : Int)) else (none))) else (if was = 0 then (flongref19_Row.j1 k c (strOfNums o) (i : Int)) else ((flongref19_Sign.f 0).bind fun t301 => (if (strOfNums o).size + t301.size ≤ 9223372036854775807 then (flongref19_Row.j1 k c (strOfNums o ++ t301) (i : Int)) else (none))))) (fun k => ?_) ?_
    · simp only [flongref19_Row.l0]
      rw [if_pos (by omega), if_pos (by omega), rdG c i hi, hw1]
      simp only [q1, q2, if_true]
    · refine ev_ite (fun hq => ?_) (fun hq => ?_)
      · rw [if_pos hq, List.nil_append]
        refine Ev.bind htext (ev_pos (by rw [numsStr_size, numsStr_size]; have : (encode [c[i].f0]).length ≤ 4 := hen; omega) ?_)
        rw [← numsStr_append]
        exact ev_eq (ih (o ++ encode [c[i].f0], was) ⟨bytes_append ho (encode_bytes _), by rw [List.length_append]; have : (encode [c[i].f0]).length ≤ 4 := hen; omega, h0, h1⟩) (by rw [List.append_assoc, hq])
      · rw [if_neg hq]
        refine ev_ite (fun hw => ?_) (fun hw => ?_)
        · rw [if_pos hw, List.nil_append]
          exact ev_eq (hj o ho (by omega)) (by simp only [List.append_assoc])
        · rw [if_neg hw]
          refine ev_bind1 (rsign_eq (by decide)) (ev_pos (by rw [numsStr_size, numsStr_size]; omega) ?_)
          rw [← numsStr_append]
          exact ev_eq (hj (o ++ sgL 0) (bytes_append ho (sgL_Bytes 0)) (by rw [List.length_append]; omega)) (by simp only [List.append_assoc])
end Go.Proofs.YtdjepocklmlnbaaDoor.Pure

/- Whether two rows of glyphs are the same. -/
namespace Go.Proofs.YtdjepocklmlnbaaDoor.Pure
open Go.RowKit Go.Proofs.YtdjepocklmlnbaaDoorW.PrintWords Go.Proofs.YtdjepocklmlnbaaDoorW.PrintLast Go.Proofs.YtdjepocklmlnbaaDoorW.PrintMore Go.Proofs.YtdjepocklmlnbaaDoor.X
set_option linter.unusedSimpArgs false
set_option linter.unusedVariables false
theorem gsame_ev (a b : List Gl) (h : a.length ≤ 9223372036854775807) : Ev (fun k => flongref03_Same.f k a b) (decide (a = b)) := by
  unfold flongref03_Same.f
  refine ev_ite (fun hl => ?_) (fun hl => ev_eq (Ev.now _) (by symm; rw [decide_eq_false_iff_not]; intro e; exact hl (by rw [e])))
  have hl' : a.length = b.length := by omega
  refine ev_eq (loop_up (σ := Unit) (fun k _ i => flongref03_Same.l0 k a b i) a.length (fun _ i => decide (a.drop i = b.drop i)) (fun _ _ => True) ?_ ?_ () 0 (by omega) trivial) (by simp)
  · intro _ _
    exact Ev.step (f := fun _ => some true) (fun k => by simp only [flongref03_Same.l0]; rw [if_neg (by omega)]) (ev_eq (Ev.now _) (by simp [hl']))
  · intro _ i hi _ ih
    refine Ev.step (f := fun k => if (!((a[i].f0) == (b[i].f0)) || (!((a[i].f1) == (b[i].f1)))) = true then some false else flongref03_Same.l0 k a b ((i + 1 : Nat) : Int)) (fun k => ?_) ?_
    · simp only [flongref03_Same.l0]
      rw [if_pos (by omega), if_pos (by omega), if_pos (by omega), rdG a i hi, rdG b i (by omega), wrap_up hi h]
    · refine ev_ite (fun hc => ev_eq (Ev.now _) ?_) (fun hc => ev_eq (ih () trivial) ?_)
      · symm
        rw [decide_eq_false_iff_not, drop_ne hi (by omega)]
        exact fun e => (gl_ne _ _).1 hc e.1
      · have e : a[i] = b[i] := Decidable.of_not_not fun e => hc ((gl_ne _ _).2 e)
        simp only [drop_ne hi (show i < b.length by omega), e, true_and]
theorem gsame_true {a b : List Gl} (e : a = b) (h : a.length ≤ 9223372036854775807) : Ev (fun k => flongref03_Same.f k a b) true := ev_eq (gsame_ev a b h) (by simp [e])
end Go.Proofs.YtdjepocklmlnbaaDoor.Pure

/- What the chapter's example fixes: computed. -/
namespace Go.Proofs.YtdjepocklmlnbaaDoor.Pure
open Go.RowKit Go.Proofs.YtdjepocklmlnbaaDoorW.PrintWords Go.Proofs.YtdjepocklmlnbaaDoorW.PrintLast Go.Proofs.YtdjepocklmlnbaaDoor.X
theorem known_ev : Ev (fun k => flonglaw19_known.f k) true := Ev.of (k := 30) flonglaw19_known.mono (by kernel_rfl)
end Go.Proofs.YtdjepocklmlnbaaDoor.Pure
