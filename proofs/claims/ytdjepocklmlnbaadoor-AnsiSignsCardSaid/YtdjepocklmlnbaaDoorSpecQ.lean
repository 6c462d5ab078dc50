/- SpecQ: several of this session's texts in one. -/
import Derived.Test.YtdjepocklmlnbaaDoorWMore
import Derived.Test.YtdjepocklmlnbaaDoorX0
import Derived.Test.YtdjepocklmlnbaaDoorHandI
import Derived.Test.YtdjepocklmlnbaaDoorHandA
import Derived.Test.YtdjepocklmlnbaaDoorHandW
import Derived.Test.YtdjepocklmlnbaaDoorX1
import Derived.Laws.BitsLemmas
import Derived.Test.YtdjepocklmlnbaaDoorX3
import Derived.Test.YtdjepocklmlnbaaDoorX5
import Derived.Test.YtdjepocklmlnbaaDoorX2
/- Plain lemmas on printed functions: what holds from some number of rounds on. -/
namespace Go.Proofs.YtdjepocklmlnbaaDoor.Pure
open Go.RowKit Go.Proofs.YtdjepocklmlnbaaDoorW.PrintWords Go.Proofs.YtdjepocklmlnbaaDoorW.PrintLast

theorem ev_pos {α : Type} {c : Prop} [Decidable c] {f g : Nat → Option α} {r : α} (h : c) (k : Ev f r) : Ev (fun n => if c then f n else g n) r := by
  obtain ⟨K, k⟩ := k
  exact ⟨K, fun n hn => by simp only [if_pos h]; exact k n hn⟩
theorem ev_neg {α : Type} {c : Prop} [Decidable c] {f g : Nat → Option α} {r : α} (h : ¬ c) (k : Ev g r) : Ev (fun n => if c then f n else g n) r := by
  obtain ⟨K, k⟩ := k
  exact ⟨K, fun n hn => by simp only [if_neg h]; exact k n hn⟩
theorem ev_ite {α : Type} {c : Prop} [Decidable c] {f g : Nat → Option α} {r : α} (h : c → Ev f r) (k : ¬ c → Ev g r) : Ev (fun n => if c then f n else g n) r := by
  by_cases hc : c
  · exact ev_pos hc (h hc)
  · exact ev_neg hc (k hc)
theorem ev_eq {α : Type} {g : Nat → Option α} {r r' : α} (h : Ev g r) (e : r = r') : Ev g r' := e ▸ h
/-- What answers at once. -/
theorem ev_bind1 {α β : Type} {g : Option α} {f : Nat → α → Option β} {a : α} {r : β} (h : g = some a) (k : Ev (fun n => f n a) r) : Ev (fun n => g.bind (f n)) r := by
  subst h
  exact k
theorem ev_one {α : Type} {g : Option α} {r : α} (h : g = some r) : Ev (fun _ => g) r := ⟨0, fun _ _ => h⟩
theorem ev_unique {α : Type} {g : Nat → Option α} {r r' : α} (h : Ev g r) (h' : Ev g r') : r = r' := by
  obtain ⟨K, h⟩ := h
  obtain ⟨K', h'⟩ := h'
  have h1 := h (max K K') (Nat.le_max_left _ _)
  have h2 := h' (max K K') (Nat.le_max_right _ _)
  exact Option.some.inj (h1.symm.trans h2)
theorem wrap_of {x : Int} (h0 : -9223372036854775808 ≤ x) (h1 : x ≤ 9223372036854775807) : wrap64 x = x := by
  unfold wrap64
  omega
theorem wrap32_of {x : Int} (h0 : -2147483648 ≤ x) (h1 : x ≤ 2147483647) : wrap32 x = x := by
  unfold wrap32
  omega
theorem wf_i32 {x : Int} (h : (Lit.int .i32 x).wf = true) : -2147483648 ≤ x ∧ x ≤ 2147483647 := by
  have h' : (decide (IntKind.min .i32 ≤ x) && decide (x ≤ IntKind.max .i32)) = true := h
  rw [Bool.and_eq_true, decide_eq_true_eq, decide_eq_true_eq, show IntKind.min .i32 = -2147483648 from rfl, show IntKind.max .i32 = 2147483647 from rfl] at h'
  exact h'
theorem wf_u8 {x : Int} (h : (Lit.int .u8 x).wf = true) : 0 ≤ x ∧ x ≤ 255 := by
  have h' : (decide (IntKind.min .u8 ≤ x) && decide (x ≤ IntKind.max .u8)) = true := h
  rw [Bool.and_eq_true, decide_eq_true_eq, decide_eq_true_eq, show IntKind.min .u8 = 0 from rfl, show IntKind.max .u8 = 255 from rfl] at h'
  exact h'
theorem wf_u16 {x : Int} (h : (Lit.int .u16 x).wf = true) : 0 ≤ x ∧ x ≤ 65535 := by
  have h' : (decide (IntKind.min .u16 ≤ x) && decide (x ≤ IntKind.max .u16)) = true := h
  rw [Bool.and_eq_true, decide_eq_true_eq, decide_eq_true_eq, show IntKind.min .u16 = 0 from rfl, show IntKind.max .u16 = 65535 from rfl] at h'
  exact h'
theorem wf_i64 {x : Int} (h : (Lit.int .i64 x).wf = true) : -9223372036854775808 ≤ x ∧ x ≤ 9223372036854775807 := by
  have h' : (decide (IntKind.min .i64 ≤ x) && decide (x ≤ IntKind.max .i64)) = true := h
  rw [Bool.and_eq_true, decide_eq_true_eq, decide_eq_true_eq, show IntKind.min .i64 = -9223372036854775808 from rfl, show IntKind.max .i64 = 9223372036854775807 from rfl] at h'
  exact h'
end Go.Proofs.YtdjepocklmlnbaaDoor.Pure

/- A loop that goes up to a length, whatever its state. -/
namespace Go.Proofs.YtdjepocklmlnbaaDoor.Pure
open Go.RowKit Go.Proofs.YtdjepocklmlnbaaDoorW.PrintWords Go.Proofs.YtdjepocklmlnbaaDoorW.PrintLast

theorem loop_up {σ β : Type} (L : Nat → σ → Int → Option β) (n : Nat) (res : σ → Nat → β) (I : σ → Nat → Prop)
    (hend : ∀ s, I s n → Ev (fun k => L k s (n : Int)) (res s n))
    (hstep : ∀ s i, i < n → I s i → (∀ s', I s' (i + 1) → Ev (fun k => L k s' ((i + 1 : Nat) : Int)) (res s' (i + 1))) → Ev (fun k => L k s (i : Int)) (res s i)) :
    ∀ s i, i ≤ n → I s i → Ev (fun k => L k s (i : Int)) (res s i) := by
  have h : ∀ d i, n - i = d → i ≤ n → ∀ s, I s i → Ev (fun k => L k s (i : Int)) (res s i) := by
    intro d
    induction d with
    | zero =>
      intro i hd hi s hs
      obtain rfl : i = n := by omega
      exact hend s hs
    | succ d ih =>
      intro i hd hi s hs
      exact hstep s i (by omega) hs (fun s' hs' => ih (i + 1) (by omega) (by omega) s' hs')
  exact fun s i hi hs => h (n - i) i rfl hi s hs
theorem wrap_up {i n : Nat} (h : i < n) (hn : n ≤ 9223372036854775807) : wrap64 ((i : Int) + 1) = ((i + 1 : Nat) : Int) := by
  rw [wrap_of (by omega) (by omega)]
  omega
end Go.Proofs.YtdjepocklmlnbaaDoor.Pure

/- Rows of glyphs, plainly. -/
namespace Go.Proofs.YtdjepocklmlnbaaDoor.Pure
open Go.RowKit Go.Proofs.YtdjepocklmlnbaaDoorW.PrintWords Go.Proofs.YtdjepocklmlnbaaDoorW.PrintLast Go.Proofs.YtdjepocklmlnbaaDoorW.PrintMore Go.Proofs.YtdjepocklmlnbaaDoor.X

abbrev Gl := S44
theorem rdG (l : List Gl) (i : Nat) (h : i < l.length) : rd_T44 l (i : Int) = l[i] := by
  simp [rd_T44, List.getD_eq_getElem?_getD, List.getElem?_eq_getElem h]
theorem gl_ext {a b : Gl} (h0 : a.f0 = b.f0) (h1 : a.f1 = b.f1) : a = b := by
  cases a
  cases b
  simp_all
instance : DecidableEq Gl := fun a b => if h : a.f0 = b.f0 ∧ a.f1 = b.f1 then .isTrue (gl_ext h.1 h.2) else .isFalse (fun e => h (by rw [e]; exact ⟨rfl, rfl⟩))
theorem gl_ne (a b : Gl) : ((!((a.f0) == (b.f0)) || (!((a.f1) == (b.f1)))) = true) ↔ a ≠ b := by
  constructor
  · intro h e
    subst e
    simp at h
  · intro h
    by_cases h0 : a.f0 = b.f0
    · have h1 : a.f1 ≠ b.f1 := fun h1 => h (gl_ext h0 h1)
      simp [h1]
    · simp [h0]
theorem drop_ne {a b : List Gl} {i : Nat} (ha : i < a.length) (hb : i < b.length) : a.drop i = b.drop i ↔ a[i] = b[i] ∧ a.drop (i + 1) = b.drop (i + 1) := by
  rw [List.drop_eq_getElem_cons ha, List.drop_eq_getElem_cons hb, List.cons.injEq]
end Go.Proofs.YtdjepocklmlnbaaDoor.Pure

/- Runs: rows of glyphs set alike, one behind the other. What makes them such, and that nothing else does. -/
namespace Go.Proofs.YtdjepocklmlnbaaDoor.Pure
open Go.RowKit Go.Proofs.YtdjepocklmlnbaaDoorW.PrintWords Go.Proofs.YtdjepocklmlnbaaDoorW.PrintLast Go.Proofs.YtdjepocklmlnbaaDoorW.PrintMore Go.Proofs.YtdjepocklmlnbaaDoor.X Go.Proofs.YtdjepocklmlnbaaDoor.Hand
set_option linter.unusedSimpArgs false
set_option linter.unusedVariables false
/-- A row's first. -/
def hd (l : List Gl) : Gl := rd_T44 l 0
theorem hd_cons (g : Gl) (t : List Gl) : hd (g :: t) = g := by simp [hd, rd_T44]
theorem hd_eq {l : List Gl} (h : 0 < l.length) : hd l = l[0] := by
  cases l with
  | nil => simp at h
  | cons g t => rw [hd_cons]; rfl
structure IsRuns (rows : List (List Gl)) (l : List Gl) : Prop where
  flat : rows.flatten = l
  pos : ∀ r ∈ rows, 0 < r.length
  same : ∀ r ∈ rows, ∀ x ∈ r, x.f1 = (hd r).f1
  alt : ∀ (i : Nat) (h : i + 1 < rows.length), (hd rows[i + 1]).f1 ≠ (hd (rows[i]'(by omega))).f1
theorem IsRuns.tail {a : List Gl} {az : List (List Gl)} {l : List Gl} (h : IsRuns (a :: az) l) : IsRuns az az.flatten :=
  ⟨rfl, fun r hr => h.pos r (List.mem_cons_of_mem _ hr), fun r hr => h.same r (List.mem_cons_of_mem _ hr), fun i hi => by
    have := h.alt (i + 1) (by simp only [List.length_cons]; omega)
    simpa using this⟩
theorem runs_key {a b : List Gl} {az bs : List (List Gl)} {l : List Gl} (h : IsRuns (a :: az) l) (h' : IsRuns (b :: bs) l) : b.length ≤ a.length := by
  rcases Nat.lt_or_ge a.length b.length with hlt | hge
  · exfalso
    have ha := h.pos a (by simp)
    have hb := h'.pos b (by simp)
    have e1 : a ++ az.flatten = l := by simpa using h.flat
    have e2 : b ++ bs.flatten = l := by simpa using h'.flat
    have hab : hd a = hd b := by
      have h1 : l[0]? = some (hd a) := by rw [← e1, List.getElem?_append_left ha, hd_eq ha, List.getElem?_eq_getElem ha]
      have h2 : l[0]? = some (hd b) := by rw [← e2, List.getElem?_append_left hb, hd_eq hb, List.getElem?_eq_getElem hb]
      exact Option.some.inj (h1.symm.trans h2)
    cases az with
    | nil =>
      have : l.length = a.length := by rw [← e1]; simp
      have : b.length ≤ l.length := by rw [← e2, List.length_append]; omega
      omega
    | cons c cs =>
      have hc := h.pos c (by simp)
      have h1 : l[a.length]? = some (hd c) := by
        rw [← e1, List.getElem?_append_right (Nat.le_refl _), Nat.sub_self, List.flatten_cons, List.getElem?_append_left hc, hd_eq hc, List.getElem?_eq_getElem hc]
      have h2 : b[a.length]? = some (hd c) := by
        rw [← e2, List.getElem?_append_left hlt] at h1
        exact h1
      have h3 := h'.same b (by simp) (hd c) (List.mem_of_getElem? h2)
      have h4 := h.alt 0 (by simp)
      apply h4
      show (hd c).f1 = (hd a).f1
      rw [h3, hab]
  · exact hge
theorem runs_unique : ∀ (rows rows' : List (List Gl)) (l : List Gl), IsRuns rows l → IsRuns rows' l → rows = rows'
  | [], [], _, _, _ => rfl
  | [], b :: bs, l, h, h' => by
    exfalso
    have := h'.pos b (by simp)
    have e1 := h.flat
    have e2 := h'.flat
    rw [← e1] at e2
    simp at e2
    rw [e2.1] at this
    simp at this
  | a :: az, [], l, h, h' => by
    exfalso
    have := h.pos a (by simp)
    have e1 := h'.flat
    have e2 := h.flat
    rw [← e1] at e2
    simp at e2
    rw [e2.1] at this
    simp at this
  | a :: az, b :: bs, l, h, h' => by
    have h1 := runs_key h h'
    have h2 := runs_key h' h
    have e : a ++ az.flatten = b ++ bs.flatten := by
      have e1 := h.flat
      have e2 := h'.flat
      rw [← e2] at e1
      simpa using e1
    obtain ⟨e3, e4⟩ := List.append_inj e (by omega)
    rw [e3, runs_unique az bs az.flatten h.tail (by rw [e4]; exact h'.tail)]
theorem runLen_same (l : List Gl) (j : Nat) (hj : j < runLen l) : (l[j]'(Nat.lt_of_lt_of_le hj (runLen_le l))).f1 = (hd l).f1 := by
  have hle := runLen_le l
  have hjl : j < l.length := by omega
  unfold runLen at hj
  cases hf : l.findIdx? (fun g => g.f1 != (rd_T44 l 0).f1) with
  | none =>
    have := List.findIdx?_eq_none_iff.1 hf l[j] (List.getElem_mem _)
    simpa [hd] using this
  | some i =>
    rw [hf] at hj
    obtain ⟨h1, h2, h3⟩ := List.findIdx?_eq_some_iff_getElem.1 hf
    have := h3 j (by simpa using hj)
    simpa [hd] using this
theorem runLen_next (l : List Gl) (h : runLen l < l.length) : (l[runLen l]).f1 ≠ (hd l).f1 := by
  cases hf : l.findIdx? (fun g => g.f1 != (rd_T44 l 0).f1) with
  | none =>
    exfalso
    unfold runLen at h
    rw [hf] at h
    simp at h
  | some i =>
    obtain ⟨h1, h2, h3⟩ := List.findIdx?_eq_some_iff_getElem.1 hf
    have e : runLen l = i := by unfold runLen; rw [hf]; rfl
    simp only [e]
    simpa [hd] using h2
theorem runs_are : ∀ (n : Nat) (l : List Gl), l.length ≤ n → IsRuns (runs l) l
  | 0, l, h => by
    obtain rfl := List.eq_nil_of_length_eq_zero (show l.length = 0 by omega)
    rw [runs_nil rfl]
    exact ⟨rfl, by simp, by simp, fun i hi => by simp at hi⟩
  | n + 1, l, h => by
    by_cases h0 : l.length = 0
    · obtain rfl := List.eq_nil_of_length_eq_zero h0
      rw [runs_nil rfl]
      exact ⟨rfl, by simp, by simp, fun i hi => by simp at hi⟩
    · have hp := runLen_pos (l := l) (by omega)
      have hle := runLen_le l
      have ih := runs_are n (l.drop (runLen l)) (by rw [List.length_drop]; omega)
      have ht : 0 < (l.take (runLen l)).length := by rw [List.length_take]; omega
      have hh : hd (l.take (runLen l)) = hd l := by
        rw [hd_eq ht, hd_eq (by omega), List.getElem_take]
      rw [runs_cons (by omega)]
      refine ⟨by rw [List.flatten_cons, ih.flat, List.take_append_drop], ?_, ?_, ?_⟩
      · intro r hr
        rcases List.mem_cons.1 hr with rfl | hr
        · exact ht
        · exact ih.pos r hr
      · intro r hr x hx
        rcases List.mem_cons.1 hr with rfl | hr
        · obtain ⟨j, hj, rfl⟩ := List.getElem_of_mem hx
          rw [hh, List.getElem_take]
          rw [List.length_take] at hj
          exact runLen_same l j (by omega)
        · exact ih.same r hr x hx
      · intro i hi
        cases i with
        | zero =>
          simp only [List.length_cons] at hi
          have h1 : 0 < (l.drop (runLen l)).length := by
            rcases Nat.eq_zero_or_pos (l.drop (runLen l)).length with e | e
            · rw [runs_nil e] at hi
              simp at hi
            · exact e
          have h2 : (runs (l.drop (runLen l)))[0]'(by omega) = (l.drop (runLen l)).take (runLen (l.drop (runLen l))) := by
            simp only [runs_cons h1]
            rfl
          have h3 : hd ((l.drop (runLen l)).take (runLen (l.drop (runLen l)))) = l[runLen l]'(by rw [List.length_drop] at h1; omega) := by
            have hp2 := runLen_pos h1
            rw [hd_eq (by rw [List.length_take]; omega), List.getElem_take, List.getElem_drop]
            simp
          show (hd ((runs (l.drop (runLen l)))[0]'(by omega))).f1 ≠ (hd (l.take (runLen l))).f1
          rw [h2, h3, hh]
          exact runLen_next l (by rw [List.length_drop] at h1; omega)
        | succ i =>
          simp only [List.length_cons] at hi
          have := ih.alt i (by omega)
          simpa using this
theorem runs_IsRuns (l : List Gl) : IsRuns (runs l) l := runs_are l.length l (Nat.le_refl _)
end Go.Proofs.YtdjepocklmlnbaaDoor.Pure

/- Runes and their bytes, as plain functions over whole numbers: what is written is read, and only what was written is read as anything. -/
namespace Go.Proofs.YtdjepocklmlnbaaDoor.Pure
open Go.Proofs.YtdjepocklmlnbaaDoor.Hand
set_option linter.unusedVariables false
set_option linter.unusedSimpArgs false

/-- The bytes of a rune that may be. -/
def enc (r : Int) : List Int :=
  if r < 128 then [r] else if r < 2048 then [192 + r / 64, 128 + r % 64] else if r < 65536 then [224 + r / 4096, 128 + r / 64 % 64, 128 + r % 64]
  else [240 + r / 262144, 128 + r / 4096 % 64, 128 + r / 64 % 64, 128 + r % 64]
/-- The bytes of any rune. -/
def one (r : Int) : List Int := enc (if validB r = true then r else 65533)
def encode (l : List Int) : List Int := l.flatMap one
def cont (d : Int) : Bool := decide (128 ≤ d) && decide (d < 192)
/-- The first rune, and how many bytes it has; 1 of one that is none. -/
def firstRune : List Int → Int × Nat
  | [] => (65533, 1)
  | c :: t =>
    if c < 128 then (c, 1)
    else if 192 ≤ c ∧ c < 224 then
      match t with
      | d :: _ => if cont d = true ∧ 128 ≤ (c - 192) * 64 + (d - 128) then ((c - 192) * 64 + (d - 128), 2) else (65533, 1)
      | _ => (65533, 1)
    else if 224 ≤ c ∧ c < 240 then
      match t with
      | d :: e :: _ => if cont d = true ∧ cont e = true ∧ 2048 ≤ ((c - 224) * 64 + (d - 128)) * 64 + (e - 128) ∧ validB (((c - 224) * 64 + (d - 128)) * 64 + (e - 128)) = true then (((c - 224) * 64 + (d - 128)) * 64 + (e - 128), 3) else (65533, 1)
      | _ => (65533, 1)
    else if 240 ≤ c ∧ c < 248 then
      match t with
      | d :: e :: f :: _ => if cont d = true ∧ cont e = true ∧ cont f = true ∧ 65536 ≤ (((c - 240) * 64 + (d - 128)) * 64 + (e - 128)) * 64 + (f - 128) ∧ validB ((((c - 240) * 64 + (d - 128)) * 64 + (e - 128)) * 64 + (f - 128)) = true
          then ((((c - 240) * 64 + (d - 128)) * 64 + (e - 128)) * 64 + (f - 128), 4) else (65533, 1)
      | _ => (65533, 1)
    else (65533, 1)
def decodeN : Nat → List Int → List Int
  | 0, _ => []
  | n + 1, l => if l = [] then [] else (firstRune l).1 :: decodeN n (l.drop (firstRune l).2)
def decode (l : List Int) : List Int := decodeN l.length l
/-- All of them bytes. -/
def Bytes (l : List Int) : Prop := ∀ x ∈ l, 0 ≤ x ∧ x ≤ 255

theorem validB_iff' (a : Int) : validB a = true ↔ 0 ≤ a ∧ a ≤ 1114111 ∧ (a < 55296 ∨ 57343 < a) := by
  simp [validB]
theorem cont_iff (d : Int) : cont d = true ↔ 128 ≤ d ∧ d < 192 := by simp [cont]

theorem first_enc {r : Int} (h : validB r = true) (t : List Int) : firstRune (enc r ++ t) = (r, (enc r).length) := by
  have h' := (validB_iff' r).1 h
  unfold enc
  split
  · simp [firstRune, *]
  · split
    · have e : (192 + r / 64 - 192) * 64 + (128 + r % 64 - 128) = r := by omega
      simp only [firstRune, List.cons_append, List.nil_append, List.length_cons, List.length_nil]
      rw [if_neg (by omega), if_pos (by omega), e, if_pos ⟨(cont_iff _).2 (by omega), by omega⟩]
    · split
      · have e : ((224 + r / 4096 - 224) * 64 + (128 + r / 64 % 64 - 128)) * 64 + (128 + r % 64 - 128) = r := by omega
        simp only [firstRune, List.cons_append, List.nil_append, List.length_cons, List.length_nil]
        rw [if_neg (by omega), if_neg (by omega), if_pos (by omega), e, if_pos ⟨(cont_iff _).2 (by omega), (cont_iff _).2 (by omega), by omega, h⟩]
      · have e : (((240 + r / 262144 - 240) * 64 + (128 + r / 4096 % 64 - 128)) * 64 + (128 + r / 64 % 64 - 128)) * 64 + (128 + r % 64 - 128) = r := by omega
        simp only [firstRune, List.cons_append, List.nil_append, List.length_cons, List.length_nil]
        rw [if_neg (by omega), if_neg (by omega), if_neg (by omega), if_pos (by omega), e, if_pos ⟨(cont_iff _).2 (by omega), (cont_iff _).2 (by omega), (cont_iff _).2 (by omega), by omega, h⟩]

theorem valid_odd : validB 65533 = true := by decide +kernel
theorem enc_len (r : Int) : 1 ≤ (enc r).length ∧ (enc r).length ≤ 4 := by
  unfold enc
  split
  · simp
  · split
    · simp
    · split <;> simp
theorem enc_bytes {r : Int} (h : validB r = true) : Bytes (enc r) := by
  have h' := (validB_iff' r).1 h
  unfold enc Bytes
  split
  · simp; omega
  · split
    · simp; omega
    · split <;> (simp; omega)
theorem enc_ne (r : Int) : enc r ≠ [] := fun h => by have := enc_len r; rw [h] at this; simp at this

/-- What is told first: a rune's bytes stand there, or it is told for what is none, one byte. -/
theorem first_spec {l : List Int} (hb : Bytes l) (hl : l ≠ []) : (validB (firstRune l).1 = true ∧ (firstRune l).2 = (enc (firstRune l).1).length ∧ l.take (firstRune l).2 = enc (firstRune l).1) ∨ firstRune l = (65533, 1) := by
  match l, hl with
  | c :: t, _ =>
    have hc := hb c (by simp)
    simp only [firstRune]
    split
    · left
      refine ⟨(validB_iff' _).2 (by simp; omega), ?_⟩
      simp [enc, *]
    · split
      · rename_i h1 h2
        match t with
        | d :: t' =>
          simp only
          split
          · rename_i h3
            have hd := (cont_iff d).1 h3.1
            left
            refine ⟨(validB_iff' _).2 (by simp; omega), ?_⟩
            simp only [enc]
            rw [if_neg (by omega), if_pos (by omega)]
            refine ⟨rfl, ?_⟩
            simp
            omega
          · exact .inr rfl
        | [] => exact .inr rfl
      · split
        · rename_i h1 h2 h3
          match t with
          | d :: e :: t' =>
            simp only
            split
            · rename_i h4
              have hd := (cont_iff d).1 h4.1
              have he := (cont_iff e).1 h4.2.1
              have h5 := h4.2.2.1
              left
              refine ⟨h4.2.2.2, ?_⟩
              simp only [enc]
              rw [if_neg (by omega), if_neg (by omega), if_pos (by omega)]
              refine ⟨rfl, ?_⟩
              simp
              omega
            · exact .inr rfl
          | [d] => exact .inr rfl
          | [] => exact .inr rfl
        · split
          · rename_i h1 h2 h3 h4
            match t with
            | d :: e :: f :: t' =>
              simp only
              split
              · rename_i h5
                have hd := (cont_iff d).1 h5.1
                have he := (cont_iff e).1 h5.2.1
                have hf := (cont_iff f).1 h5.2.2.1
                have h6 := h5.2.2.2.1
                left
                refine ⟨h5.2.2.2.2, ?_⟩
                simp only [enc]
                rw [if_neg (by omega), if_neg (by omega), if_neg (by omega)]
                refine ⟨rfl, ?_⟩
                simp
                omega
              · exact .inr rfl
            | [d, e] => exact .inr rfl
            | [d] => exact .inr rfl
            | [] => exact .inr rfl
          · exact .inr rfl

theorem first_len (l : List Int) : 1 ≤ (firstRune l).2 ∧ (firstRune l).2 ≤ 4 := by
  unfold firstRune
  repeat' split
  all_goals simp
theorem first_fits {l : List Int} (hb : Bytes l) (hl : l ≠ []) : (firstRune l).2 ≤ l.length := by
  rcases first_spec hb hl with ⟨_, h2, h3⟩ | h
  · have := congrArg List.length h3
    rw [List.length_take] at this
    omega
  · rw [h]
    cases l
    · exact absurd rfl hl
    · simp
theorem first_valid {l : List Int} (hb : Bytes l) (hl : l ≠ []) : validB (firstRune l).1 = true := by
  rcases first_spec hb hl with ⟨h, _⟩ | h
  · exact h
  · rw [h]; exact valid_odd

theorem bytes_drop {l : List Int} (h : Bytes l) (n : Nat) : Bytes (l.drop n) := fun x hx => h x (List.mem_of_mem_drop hx)
theorem decodeN_more : ∀ (n m : Nat) (l : List Int), Bytes l → l.length ≤ n → l.length ≤ m → decodeN n l = decodeN m l
  | 0, 0, _, _, _, _ => rfl
  | 0, m + 1, l, _, h, _ => by
    have : l = [] := List.eq_nil_of_length_eq_zero (by omega)
    simp [decodeN, this]
  | n + 1, 0, l, _, _, h => by
    have : l = [] := List.eq_nil_of_length_eq_zero (by omega)
    simp [decodeN, this]
  | n + 1, m + 1, l, hb, h, h' => by
    unfold decodeN
    split
    · rfl
    · rename_i hl
      have := first_len l
      have hn := List.length_drop (i := (firstRune l).2) (l := l)
      have h0 : 0 < l.length := List.length_pos_iff.2 hl
      rw [decodeN_more n m _ (bytes_drop hb _) (by omega) (by omega)]
theorem decode_nil : decode [] = [] := rfl
theorem decode_cons {l : List Int} (hb : Bytes l) (hl : l ≠ []) : decode l = (firstRune l).1 :: decode (l.drop (firstRune l).2) := by
  have h0 : 0 < l.length := List.length_pos_iff.2 hl
  have h1 := first_len l
  have hn := List.length_drop (i := (firstRune l).2) (l := l)
  obtain ⟨n, hn'⟩ : ∃ n, l.length = n + 1 := ⟨l.length - 1, by omega⟩
  show decodeN l.length l = _
  rw [hn']
  unfold decodeN
  rw [if_neg hl]
  congr 1
  exact decodeN_more _ _ _ (bytes_drop hb _) (by omega) (by omega)

/-- Down from a row of bytes to the rest behind its first rune. -/
theorem bytes_ind {P : List Int → Prop} (h0 : P []) (hs : ∀ l, Bytes l → l ≠ [] → P (l.drop (firstRune l).2) → P l) : ∀ l, Bytes l → P l := by
  have key : ∀ (n : Nat) (l : List Int), l.length ≤ n → Bytes l → P l := by
    intro n
    induction n with
    | zero =>
      intro l hl _
      rw [List.eq_nil_of_length_eq_zero (by omega : l.length = 0)]
      exact h0
    | succ n ih =>
      intro l hl hb
      by_cases he : l = []
      · rw [he]; exact h0
      · refine hs l hb he (ih _ ?_ (bytes_drop hb _))
        have := first_len l
        have hn := List.length_drop (i := (firstRune l).2) (l := l)
        have h0 : 0 < l.length := List.length_pos_iff.2 he
        omega
  exact fun l hb => key l.length l (Nat.le_refl _) hb

theorem decode_valid : ∀ l, Bytes l → ∀ r ∈ decode l, validB r = true :=
  bytes_ind (P := fun l => ∀ r ∈ decode l, validB r = true) (by simp [decode_nil]) fun l hb hl ih r hr => by
    rw [decode_cons hb hl] at hr
    rcases List.mem_cons.1 hr with rfl | h
    · exact first_valid hb hl
    · exact ih r h
theorem decode_length : ∀ l, Bytes l → (decode l).length ≤ l.length ∧ (l ≠ [] → decode l ≠ []) :=
  bytes_ind (P := fun l => (decode l).length ≤ l.length ∧ (l ≠ [] → decode l ≠ [])) (by simp [decode_nil]) fun l hb hl ih => by
    rw [decode_cons hb hl]
    have := first_len l
    have hn := List.length_drop (i := (firstRune l).2) (l := l)
    have h0 : 0 < l.length := List.length_pos_iff.2 hl
    have h1 := ih.1
    refine ⟨?_, fun _ => by simp⟩
    rw [List.length_cons]
    omega

theorem one_valid {r : Int} (h : validB r = true) : one r = enc r := by simp [one, h]
theorem one_bytes (r : Int) : Bytes (one r) := by
  unfold one
  split
  · rename_i h; exact enc_bytes h
  · exact enc_bytes valid_odd
theorem one_len (r : Int) : 1 ≤ (one r).length ∧ (one r).length ≤ 4 := enc_len _
theorem bytes_append {a b : List Int} (ha : Bytes a) (hb : Bytes b) : Bytes (a ++ b) := fun x hx => by
  rcases List.mem_append.1 hx with h | h
  · exact ha x h
  · exact hb x h
theorem encode_bytes (l : List Int) : Bytes (encode l) := fun x hx => by
  obtain ⟨r, _, h⟩ := List.mem_flatMap.1 hx
  exact one_bytes r x h
theorem encode_nil : encode [] = [] := rfl
theorem encode_cons (r : Int) (l : List Int) : encode (r :: l) = one r ++ encode l := by simp [encode]
theorem encode_append (a b : List Int) : encode (a ++ b) = encode a ++ encode b := by simp [encode]
theorem encode_length (l : List Int) : (encode l).length ≤ 4 * l.length := by
  induction l with
  | nil => simp [encode_nil]
  | cons r l ih =>
    have := one_len r
    rw [encode_cons, List.length_append, List.length_cons]
    omega

/-- What is written of runes that may be, whatever stands behind, is read as they were. -/
theorem decode_encode : ∀ (l : List Int) (b : List Int), (∀ r ∈ l, validB r = true) → Bytes b → decode (encode l ++ b) = l ++ decode b
  | [], b, _, _ => by simp [encode_nil]
  | r :: l, b, h, hb => by
    have hr := h r (by simp)
    have e : encode (r :: l) ++ b = enc r ++ (encode l ++ b) := by rw [encode_cons, one_valid hr, List.append_assoc]
    have hB : Bytes (enc r ++ (encode l ++ b)) := bytes_append (enc_bytes hr) (bytes_append (encode_bytes l) hb)
    have hne : enc r ++ (encode l ++ b) ≠ [] := by simp [enc_ne]
    rw [e, decode_cons hB hne, first_enc hr]
    simp only [List.drop_left, List.cons_append]
    rw [decode_encode l b (fun x hx => h x (List.mem_cons_of_mem _ hx)) hb]
theorem decode_encode' {l : List Int} (h : ∀ r ∈ l, validB r = true) : decode (encode l) = l := by
  have := decode_encode l [] h (by simp [Bytes])
  simpa [decode_nil] using this
theorem decode_again {a : List Int} (h : Bytes a) : decode (encode (decode a)) = decode a := decode_encode' (decode_valid a h)
/-- One row behind another one that is right. -/
theorem decode_append {a b : List Int} (ha : Bytes a) (hb : Bytes b) (hr : encode (decode a) = a) : decode (a ++ b) = decode a ++ decode b := by
  have := decode_encode (decode a) b (decode_valid a ha) hb
  rwa [hr] at this
/-- Bytes that are a rune's are read as it: no other number of bytes is. -/
theorem first_of_take {l : List Int} {k : Nat} {r : Int} (h : validB r = true) (e : l.take k = enc r) (hk : k ≤ l.length) : firstRune l = (r, k) := by
  have h1 : l = enc r ++ l.drop k := by rw [← e, List.take_append_drop]
  have h2 := first_enc h (l.drop k)
  rw [← h1] at h2
  rw [h2]
  congr 1
  rw [← e, List.length_take]
  omega
end Go.Proofs.YtdjepocklmlnbaaDoor.Pure

/- A sign wherever the setting changes is a sign ahead of each run and one behind it. -/
namespace Go.Proofs.YtdjepocklmlnbaaDoor.Pure
open Go Go.RowKit Go.Proofs.YtdjepocklmlnbaaDoorW.PrintWords Go.Proofs.YtdjepocklmlnbaaDoorW.PrintLast Go.Proofs.YtdjepocklmlnbaaDoorW.PrintMore Go.Proofs.YtdjepocklmlnbaaDoor.X Go.Proofs.YtdjepocklmlnbaaDoor.Hand
set_option linter.unusedSimpArgs false
set_option linter.unusedVariables false
/-- A sign's bytes. -/
def sgL (s : Int) : List Int := bytesOf (signS (s % 4).toNat)
/-- The document's way: glyph by glyph, was: how the last one is set. -/
def refGo : List Gl → Int → List Int
  | [], was => if was = 0 then [] else sgL 0
  | g :: t, was => (if g.f1 = was then [] else (if was = 0 then [] else sgL 0) ++ (if g.f1 = 0 then [] else sgL g.f1)) ++ (encode [g.f0] ++ refGo t g.f1)
/-- The package's way: run by run. -/
def runB (y : List Gl) : List Int := if (hd y).f1 = 0 then encode (y.map (·.f0)) else (sgL (hd y).f1 ++ encode (y.map (·.f0))) ++ sgL 0
def outB (rs : List (List Gl)) : List Int := (rs.map runB).flatten
theorem go_same : ∀ (y t : List Gl) (s : Int), (∀ g ∈ y, g.f1 = s) → refGo (y ++ t) s = encode (y.map (·.f0)) ++ refGo t s
  | [], t, s, _ => by simp [encode_nil]
  | g :: y, t, s, h => by
    have hg := h g (by simp)
    rw [List.cons_append, refGo, if_pos hg, hg, go_same y t s (fun x hx => h x (by simp [hx])), List.nil_append, List.map_cons, encode_cons, encode_cons, encode_nil, List.append_nil, List.append_assoc]
theorem go_next (t : List Gl) (s : Int) (h : t = [] ∨ (hd t).f1 ≠ s) : refGo t s = (if s = 0 then [] else sgL 0) ++ refGo t 0 := by
  cases t with
  | nil => simp [refGo]
  | cons g t =>
    have hs : g.f1 ≠ s := by
      rcases h with h | h
      · cases h
      · rwa [hd_cons] at h
    rw [refGo, if_neg hs, refGo]
    by_cases h0 : g.f1 = 0
    · rw [if_pos h0, if_pos h0, List.append_nil, List.nil_append]
    · rw [if_neg h0, if_neg h0, if_pos rfl, List.nil_append, List.append_assoc]
theorem outB_eq : ∀ (rs : List (List Gl)) (l : List Gl), IsRuns rs l → outB rs = refGo l 0
  | [], l, h => by
    have := h.flat
    rw [← this]
    rfl
  | y :: rs, l, h => by
    have hf := h.flat
    rw [List.flatten_cons] at hf
    have hp := h.pos y (by simp)
    have hsame := h.same y (by simp)
    have ih := outB_eq rs rs.flatten h.tail
    have hnext : rs.flatten = [] ∨ (hd rs.flatten).f1 ≠ (hd y).f1 := by
      cases rs with
      | nil => exact .inl rfl
      | cons y2 rs =>
        right
        have ha := h.alt 0 (by simp)
        have hp2 := h.pos y2 (by simp)
        simp only [List.getElem_cons_succ, List.getElem_cons_zero] at ha
        have e : hd (y2 :: rs).flatten = hd y2 := by
          cases y2 with
          | nil => simp at hp2
          | cons g t => rw [List.flatten_cons, List.cons_append, hd_cons, hd_cons]
        rwa [e]
    have e1 : outB (y :: rs) = runB y ++ outB rs := by simp [outB]
    rw [e1, ih, ← hf]
    obtain ⟨g, t, rfl⟩ : ∃ g t, y = g :: t := by
      cases y with
      | nil => simp at hp
      | cons g t => exact ⟨g, t, rfl⟩
    rw [hd_cons] at hsame hnext
    rw [List.cons_append, refGo, go_same t rs.flatten g.f1 (fun x hx => hsame x (by simp [hx])), go_next rs.flatten g.f1 hnext]
    unfold runB
    rw [hd_cons, List.map_cons, encode_cons, encode_cons, encode_nil, List.append_nil]
    by_cases h0 : g.f1 = 0
    · rw [if_pos h0, if_pos h0, if_pos h0, List.nil_append, List.nil_append, List.append_assoc]
    · rw [if_neg h0, if_neg h0, if_neg h0, if_neg h0, if_pos rfl, List.nil_append]
      simp only [List.append_assoc]
end Go.Proofs.YtdjepocklmlnbaaDoor.Pure

/- What package runes computes of one rune: its printed functions answer by plain functions. -/
namespace Go.Proofs.YtdjepocklmlnbaaDoor.Pure
open Go.RowKit Go.Proofs.YtdjepocklmlnbaaDoorW.PrintWords Go.Proofs.YtdjepocklmlnbaaDoorW.PrintLast Go.Proofs.YtdjepocklmlnbaaDoorW.PrintMore Go.Proofs.YtdjepocklmlnbaaDoor.X Go.Proofs.YtdjepocklmlnbaaDoor.Hand
set_option linter.unusedSimpArgs false

theorem valid_eq (a : Int) : runes_Valid.f a = some (validB a) := by
  unfold runes_Valid.f
  by_cases h1 : a ≥ 0 <;> by_cases h2 : a ≤ 1114111 <;> by_cases h3 : a < 55296 <;> simp only [h1, h2, h3, if_true, if_false] <;> congr 1 <;> (rw [Bool.eq_iff_iff]; simp [validB]; omega)

theorem validB_iff (a : Int) : validB a = true ↔ 0 ≤ a ∧ a ≤ 1114111 ∧ (a < 55296 ∨ 57343 < a) := by
  simp [validB]
theorem controlB_iff (a : Int) : controlB a = true ↔ (0 ≤ a ∧ a < 32) ∨ (127 ≤ a ∧ a ≤ 159) ∨ a = 8232 ∨ a = 8233 := by
  simp [controlB]

theorem control_ev (a : Int) : Ev (fun k => runes_Control.f k a) (controlB a) := by
  have j1 : ∀ x : Bool, Ev (fun k => runes_Control.j1 k a x) (x || (decide (a = 8232) || decide (a = 8233))) := by
    intro x
    refine Ev.step (f := fun _ => if x = true then some true else if a = 8232 then some true else if a = 8233 then some true else some false) (fun k => by simp only [runes_Control.j1]) ?_
    refine ev_one ?_
    cases x <;> simp
    split <;> simp_all
    split <;> simp_all
  have j0 : ∀ x : Bool, Ev (fun k => runes_Control.j0 k a x) (x || ((decide (127 ≤ a) && decide (a ≤ 159)) || (decide (a = 8232) || decide (a = 8233)))) := by
    intro x
    refine Ev.step (f := fun k => if x = true then runes_Control.j1 k a x else if a ≥ 127 then runes_Control.j1 k a (decide (a ≤ 159)) else runes_Control.j1 k a false) (fun k => by simp only [runes_Control.j0]) ?_
    refine ev_ite (fun h => ev_eq (j1 _) (by simp [h])) (fun h => ev_ite (fun h2 => ev_eq (j1 _) (by simp_all <;> omega)) (fun h2 => ev_eq (j1 _) (by simp_all <;> omega)))
  unfold runes_Control.f
  exact ev_ite (fun h => ev_eq (j0 _) (by simp_all [controlB] <;> omega)) (fun h => ev_eq (j0 _) (by simp_all [controlB] <;> omega))

/-- What may be written in a rune's place. -/
def safe (a : Int) : Int := if validB a = true ∧ controlB a = false then a else 65533
theorem safe_ev (a : Int) : Ev (fun k => runes_Safe.f k a) (safe a) := by
  unfold runes_Safe.f
  refine ev_bind1 (valid_eq a) ?_
  refine ev_ite (fun h => ?_) (fun h => ev_eq (Ev.now _) (by simp_all [safe]))
  refine Ev.bind (control_ev a) ?_
  refine ev_ite (fun h2 => ev_eq (Ev.now _) (by simp_all [safe])) (fun h2 => ev_eq (Ev.now _) (by simp_all [safe]))

theorem safe_valid (a : Int) : validB (safe a) = true := by
  unfold safe
  split
  · rename_i h
    exact h.1
  · decide +kernel
theorem safe_control (a : Int) : controlB (safe a) = false := by
  unfold safe
  split
  · rename_i h
    exact h.2
  · decide +kernel
theorem safe_safe (a : Int) : safe (safe a) = safe a := by
  have h1 := safe_valid a
  have h2 := safe_control a
  generalize safe a = b at h1 h2
  simp [safe, h1, h2]
theorem wid_range (a : Int) : 0 ≤ wid a ∧ wid a ≤ 2 := by
  unfold wid
  split
  · omega
  · split
    · omega
    · split
      · omega
      · split <;> omega
theorem wid_odd : wid 65533 = 1 := by decide +kernel
theorem safe_other {a : Int} (h : safe a ≠ a) : wid a = 0 ∧ safe a = 65533 := by
  unfold safe at h ⊢
  by_cases hv : validB a = true
  · cases hc : controlB a
    · simp [hv, hc] at h
    · simp [hv, hc, wid]
  · simp [hv, wid]
end Go.Proofs.YtdjepocklmlnbaaDoor.Pure

/- What may be written of a row. -/
namespace Go.Proofs.YtdjepocklmlnbaaDoor.Pure
open Go.RowKit Go.Proofs.YtdjepocklmlnbaaDoorW.PrintWords Go.Proofs.YtdjepocklmlnbaaDoorW.PrintLast Go.Proofs.YtdjepocklmlnbaaDoorW.PrintMore Go.Proofs.YtdjepocklmlnbaaDoor.X Go.Proofs.YtdjepocklmlnbaaDoor.Hand
set_option linter.unusedSimpArgs false
set_option linter.unusedVariables false
/-- One glyph, as it may be written. -/
def cleanG (g : Gl) : Gl := ⟨safe (if g.f0 = 160 then 32 else g.f0), Go.bits .and .u8 g.f1 3⟩
def clean (l : List Gl) : List Gl := (l.map cleanG).dropWhile (fun g => !decide (wid g.f0 > 0))
theorem clean_ev (l : List Gl) (h : l.length < 17592186044416) : Ev (fun k => cells_Clean.f k l) (clean l) := by
  unfold cells_Clean.f
  refine ev_eq (loop_up (fun k o i => cells_Clean.l0 k o l (l.length : Int) i) l.length (fun o i => if o = [] then clean (l.drop i) else o ++ (l.drop i).map cleanG) (fun o i => o.length ≤ i) ?_ ?_ [] 0 (by omega) (by simp)) (by simp)
  · intro o _
    refine Ev.step (f := fun _ => some o) (fun k => by simp only [cells_Clean.l0]; rw [if_neg (by omega)]) (ev_eq (Ev.now _) ?_)
    rw [List.drop_length]
    split
    · rename_i e
      rw [e]
      rfl
    · simp
  · intro o i hi ho ih
    have hj : ∀ x : Int, (if l[i].f0 = 160 then 32 else l[i].f0) = x → Ev (fun k => cells_Clean.j1 k o l (l.length : Int) (i : Int) x l[i].f1) (if o = [] then clean (l.drop i) else o ++ (l.drop i).map cleanG) := by
      intro x hx
      have hg : cleanG l[i] = ⟨safe x, Go.bits .and .u8 l[i].f1 3⟩ := by rw [cleanG, hx]
      refine Ev.step (f := fun k => (runes_Safe.f k x).bind fun t => (if (o.length : Int) > 0 then (cells_Clean.l0 k (o ++ [(⟨t, Go.bits .and .u8 l[i].f1 3⟩ : Gl)]) l (l.length : Int) ((i + 1 : Nat) : Int)) else (if wid t > 0 then (cells_Clean.l0 k (o ++ [(⟨t, Go.bits .and .u8 l[i].f1 3⟩ : Gl)]) l (l.length : Int) ((i + 1 : Nat) : Int)) else (cells_Clean.l0 k o l (l.length : Int) ((i + 1 : Nat) : Int))))) (fun k => ?_) ?_
      · simp only [cells_Clean.j1]
        rw [wrap_up hi (by omega)]
        congr 1
        funext t
        rw [show runes_Width.f t = some (wid t) from rfl, Option.bind_some, if_pos (show o.length < 17592186044416 by omega)]
      · refine Ev.bind (safe_ev x) ?_
        rw [← hg]
        have h1 : Ev (fun k => cells_Clean.l0 k (o ++ [cleanG l[i]]) l (l.length : Int) ((i + 1 : Nat) : Int)) (o ++ cleanG l[i] :: (l.drop (i + 1)).map cleanG) := by
          refine ev_eq (ih (o ++ [cleanG l[i]]) (by simp; omega)) ?_
          rw [if_neg (by simp), List.append_assoc]
          rfl
        refine ev_ite (fun hc => ev_eq h1 ?_) (fun hc => ?_)
        · rw [if_neg (by intro e; rw [e] at hc; simp at hc), List.drop_eq_getElem_cons hi, List.map_cons]
        · obtain rfl : o = [] := by
            rcases o with _ | ⟨_, _⟩
            · rfl
            · exfalso
              apply hc
              simp only [List.length_cons]
              omega
          rw [if_pos rfl]
          have hw : wid (safe x) = wid (cleanG l[i]).f0 := by rw [hg]
          rw [hw]
          refine ev_ite (fun hp => ev_eq h1 ?_) (fun hp => ev_eq (ih [] (by simp)) ?_)
          · rw [List.drop_eq_getElem_cons hi, clean, List.map_cons, List.dropWhile_cons, if_neg (by simp [hp])]
            rfl
          · rw [if_pos rfl, List.drop_eq_getElem_cons hi, clean, clean, List.map_cons, List.dropWhile_cons, if_pos (by simp [hp])]
    refine Ev.step (f := fun k => if l[i].f0 = 160 then cells_Clean.j1 k o l (l.length : Int) (i : Int) 32 l[i].f1 else cells_Clean.j1 k o l (l.length : Int) (i : Int) l[i].f0 l[i].f1) (fun k => ?_) ?_
    · simp only [cells_Clean.l0]
      rw [if_pos (by omega), if_pos (by omega), if_pos (by omega), rdG l i hi]
    · exact ev_ite (fun hc => hj 32 (if_pos hc)) (fun hc => hj _ (if_neg hc))
end Go.Proofs.YtdjepocklmlnbaaDoor.Pure

/- What may be written: plainly. -/
namespace Go.Proofs.YtdjepocklmlnbaaDoor.Pure
open Go.RowKit Go.Proofs.YtdjepocklmlnbaaDoorW.PrintWords Go.Proofs.YtdjepocklmlnbaaDoorW.PrintLast Go.Proofs.YtdjepocklmlnbaaDoorW.PrintMore Go.Proofs.YtdjepocklmlnbaaDoor.X Go.Proofs.YtdjepocklmlnbaaDoor.Hand
set_option linter.unusedSimpArgs false
set_option linter.unusedVariables false
theorem safe_160 {x : Int} (h : x ≠ 160) : safe x ≠ 160 := by
  unfold safe
  split
  · exact h
  · decide
theorem and3 {x : Int} (h : 0 ≤ x ∧ x ≤ 255) : 0 ≤ Go.bits .and .u8 x 3 ∧ Go.bits .and .u8 x 3 ≤ 3 ∧ Go.bits .and .u8 (Go.bits .and .u8 x 3) 3 = Go.bits .and .u8 x 3 := by
  have h1 : ∀ n : Nat, n < 256 → 0 ≤ Go.bits .and .u8 (n : Int) 3 ∧ Go.bits .and .u8 (n : Int) 3 ≤ 3 ∧ Go.bits .and .u8 (Go.bits .and .u8 (n : Int) 3) 3 = Go.bits .and .u8 (n : Int) 3 := by decide +kernel
  obtain ⟨n, rfl⟩ := Int.eq_ofNat_of_zero_le h.1
  exact h1 n (by omega)
/-- Cleaned: what it is. -/
def Cl (g : Gl) : Prop := safe g.f0 = g.f0 ∧ g.f0 ≠ 160 ∧ 0 ≤ g.f1 ∧ g.f1 ≤ 3 ∧ Go.bits .and .u8 g.f1 3 = g.f1
theorem cleanG_Cl (g : Gl) (h : 0 ≤ g.f1 ∧ g.f1 ≤ 255) : Cl (cleanG g) := by
  have h3 := and3 h
  refine ⟨safe_safe _, safe_160 ?_, h3.1, h3.2.1, h3.2.2⟩
  split
  · decide
  · assumption
theorem cleanG_self {g : Gl} (h : Cl g) : cleanG g = g := by
  unfold cleanG
  rw [if_neg h.2.1, h.1, h.2.2.2.2]
theorem map_self {l : List Gl} (h : ∀ g ∈ l, Cl g) : l.map cleanG = l := by
  induction l with
  | nil => rfl
  | cons g l ih => rw [List.map_cons, cleanG_self (h g (by simp)), ih (fun x hx => h x (by simp [hx]))]
theorem clean_Cl (l : List Gl) (h : ∀ g ∈ l, 0 ≤ g.f1 ∧ g.f1 ≤ 255) : ∀ g ∈ clean l, Cl g := by
  intro g hg
  have := (List.dropWhile_sublist _).subset hg
  obtain ⟨x, hx, rfl⟩ := List.mem_map.1 this
  exact cleanG_Cl x (h x hx)
theorem dropWhile_twice {α : Type} (p : α → Bool) : ∀ l : List α, (l.dropWhile p).dropWhile p = l.dropWhile p
  | [] => rfl
  | a :: l => by
    rw [List.dropWhile_cons]
    split
    · exact dropWhile_twice p l
    · rename_i h
      rw [List.dropWhile_cons, if_neg h]
theorem dropWhile_head {α : Type} (p : α → Bool) : ∀ l : List α, ∀ h : 0 < (l.dropWhile p).length, p (l.dropWhile p)[0] = false
  | [], h => by simp at h
  | a :: l, h => by
    by_cases hp : p a = true
    · have e : (a :: l).dropWhile p = l.dropWhile p := by rw [List.dropWhile_cons, if_pos hp]
      simp only [e] at h ⊢
      exact dropWhile_head p l h
    · have e : (a :: l).dropWhile p = a :: l := by rw [List.dropWhile_cons, if_neg hp]
      simp only [e]
      simpa using hp
theorem clean_clean (l : List Gl) (h : ∀ g ∈ l, 0 ≤ g.f1 ∧ g.f1 ≤ 255) : clean (clean l) = clean l := by
  show ((clean l).map cleanG).dropWhile (fun g => !decide (wid g.f0 > 0)) = clean l
  rw [map_self (clean_Cl l h)]
  unfold clean
  exact dropWhile_twice _ _
theorem clean_length (l : List Gl) : (clean l).length ≤ l.length := by
  have := (List.dropWhile_sublist (fun g : Gl => !decide (wid g.f0 > 0)) (l := l.map cleanG)).length_le
  simpa [clean] using this
theorem clean_head (l : List Gl) (h : 0 < (clean l).length) : wid ((clean l)[0]).f0 ≠ 0 := by
  have := dropWhile_head (fun g : Gl => !decide (wid g.f0 > 0)) (l.map cleanG) h
  simp at this
  have h2 : 0 < wid ((clean l)[0]).f0 := this
  omega
end Go.Proofs.YtdjepocklmlnbaaDoor.Pure

/- A row trimmed. -/
namespace Go.Proofs.YtdjepocklmlnbaaDoor.Pure
open Go.RowKit Go.Proofs.YtdjepocklmlnbaaDoorW.PrintWords Go.Proofs.YtdjepocklmlnbaaDoorW.PrintLast Go.Proofs.YtdjepocklmlnbaaDoorW.PrintMore Go.Proofs.YtdjepocklmlnbaaDoor.X Go.Proofs.YtdjepocklmlnbaaDoor.Hand
set_option linter.unusedSimpArgs false
set_option linter.unusedVariables false
theorem clone_eq {l : List Gl} (h : l.length < 17592186044416) : clone_G.f l = some l := by
  unfold clone_G.f
  rw [if_pos h]
/-- So many are left of a row trimmed. -/
structure IsTrim (l : List Gl) (m : Nat) : Prop where
  le : m ≤ l.length
  last : ∀ g : Gl, 0 < m → l[m - 1]? = some g → g.f0 ≠ 32
  rest : ∀ (i : Nat) (g : Gl), m ≤ i → l[i]? = some g → g.f0 = 32
theorem exists_trim (l : List Gl) : ∃ m, IsTrim l m := by
  have h : ∀ n, n ≤ l.length → ∃ m, m ≤ n ∧ (∀ g : Gl, 0 < m → l[m - 1]? = some g → g.f0 ≠ 32) ∧ ∀ (i : Nat) (g : Gl), m ≤ i → i < n → l[i]? = some g → g.f0 = 32 := by
    intro n
    induction n with
    | zero => exact fun _ => ⟨0, Nat.le_refl _, fun g h => absurd h (by omega), fun i g _ h => absurd h (by omega)⟩
    | succ n ih =>
      intro hn
      by_cases hc : (l[n]'(by omega)).f0 = 32
      · obtain ⟨m, h1, h2, h3⟩ := ih (by omega)
        refine ⟨m, by omega, h2, fun i g hi hlt hg => ?_⟩
        by_cases e : i = n
        · subst e
          rw [List.getElem?_eq_getElem (by omega)] at hg
          obtain rfl := Option.some.inj hg
          exact hc
        · exact h3 i g hi (by omega) hg
      · refine ⟨n + 1, Nat.le_refl _, fun g _ hg => ?_, fun i g hi hlt => by omega⟩
        rw [Nat.add_sub_cancel, List.getElem?_eq_getElem (by omega)] at hg
        obtain rfl := Option.some.inj hg
        exact hc
  obtain ⟨m, h1, h2, h3⟩ := h l.length (Nat.le_refl _)
  exact ⟨m, h1, h2, fun i g hi hg => h3 i g hi (List.getElem?_eq_some_iff.1 hg).1 hg⟩
theorem trim_ev {l : List Gl} {m : Nat} (hm : IsTrim l m) (h : l.length < 17592186044416) : Ev (fun k => cells_Trim.f k l) (l.take m) := by
  have hle := hm.le
  have hend : (if 0 ≤ (m : Int) then (if (m : Int) ≤ (l.length : Int) then ((clone_G.f (l.take (m : Int).toNat)).bind fun t286 => (some t286)) else (none)) else (none)) = some (l.take m) := by
    rw [if_pos (by omega), if_pos (by omega), Int.toNat_natCast, clone_eq (by rw [List.length_take]; omega), Option.bind_some]
  have key : ∀ d n, n - m = d → m ≤ n → n ≤ l.length → Ev (fun k => cells_Trim.l0 k l (n : Int)) (l.take m) := by
    intro d
    induction d with
    | zero =>
      intro n hd h1 h2
      obtain rfl : n = m := by omega
      refine Ev.step (f := fun _ => some (l.take n)) (fun k => ?_) (Ev.now _)
      simp only [cells_Trim.l0]
      by_cases hp : 0 < n
      · have hg := hm.last l[n - 1] hp (List.getElem?_eq_getElem (by omega))
        rw [if_pos (by omega), wrap_of (by omega) (by omega), show (n : Int) - 1 = ((n - 1 : Nat) : Int) by omega, if_pos (by omega), if_pos (by omega), rdG l (n - 1) (by omega), if_neg hg, hend]
      · rw [if_neg (by omega), hend]
    | succ d ih =>
      intro n hd h1 h2
      have hg := hm.rest (n - 1) (l[n - 1]'(by omega)) (by omega) (List.getElem?_eq_getElem (by omega))
      refine Ev.step (f := fun k => cells_Trim.l0 k l ((n - 1 : Nat) : Int)) (fun k => ?_) (ih (n - 1) (by omega) (by omega) (by omega))
      simp only [cells_Trim.l0]
      rw [if_pos (by omega), wrap_of (by omega) (by omega), show (n : Int) - 1 = ((n - 1 : Nat) : Int) by omega, if_pos (by omega), if_pos (by omega), rdG l (n - 1) (by omega), if_pos hg]
  unfold cells_Trim.f
  exact key (l.length - m) l.length rfl hle (Nat.le_refl _)
end Go.Proofs.YtdjepocklmlnbaaDoor.Pure

/- A row made normal, and erased: package plain's and the reference's. -/
namespace Go.Proofs.YtdjepocklmlnbaaDoor.Pure
open Go.RowKit Go.Proofs.YtdjepocklmlnbaaDoorW.PrintWords Go.Proofs.YtdjepocklmlnbaaDoorW.PrintLast Go.Proofs.YtdjepocklmlnbaaDoorW.PrintMore Go.Proofs.YtdjepocklmlnbaaDoor.X Go.Proofs.YtdjepocklmlnbaaDoor.Hand
set_option linter.unusedSimpArgs false
set_option linter.unusedVariables false
/-- How a glyph is set, behind one that is set as p (none: first). -/
def setOf (p : Option Int) (g : Gl) : Int := if g.f0 = 32 then 0 else match p with | some s => if wid g.f0 = 0 then s else g.f1 | none => g.f1
def normGo : Option Int → List Gl → List Gl
  | _, [] => []
  | p, g :: t => ⟨g.f0, setOf p g⟩ :: normGo (some (setOf p g)) t
def erase (l : List Gl) : List Gl := l.map (fun g => ⟨g.f0, 0⟩)
/-- How the last is set. -/
def lastS (o : List Gl) : Option Int := o.getLast?.map (·.f1)
theorem lastS_snoc (o : List Gl) (g : Gl) : lastS (o ++ [g]) = some g.f1 := by simp [lastS]
theorem normGo_length : ∀ (l : List Gl) (p : Option Int), (normGo p l).length = l.length
  | [], _ => rfl
  | g :: t, p => by rw [normGo, List.length_cons, normGo_length t, List.length_cons]
theorem normGo_runes : ∀ (l : List Gl) (p : Option Int), (normGo p l).map (·.f0) = l.map (·.f0)
  | [], _ => rfl
  | g :: t, p => by rw [normGo, List.map_cons, normGo_runes t, List.map_cons]
theorem erase_runes (l : List Gl) : (erase l).map (·.f0) = l.map (·.f0) := by
  unfold erase
  rw [List.map_map]
  rfl
theorem set_mid (o : List Gl) (g x : Gl) (t : List Gl) : (o ++ g :: t).set o.length x = (o ++ [x]) ++ t := by
  rw [List.set_append_right _ _ (Nat.le_refl _), Nat.sub_self, List.set_cons_zero, List.append_assoc]
  rfl
theorem rd_mid (o : List Gl) (g : Gl) (t : List Gl) : rd_T44 (o ++ g :: t) (o.length : Int) = g := by
  rw [rdG _ _ (by rw [List.length_append, List.length_cons]; omega)]
  simp
theorem rd_before (o : List Gl) (y g : Gl) (t : List Gl) : rd_T44 ((o ++ [y]) ++ g :: t) (((o ++ [y]).length - 1 : Nat) : Int) = y := by
  have e : (o ++ [y]).length - 1 = o.length := by simp
  rw [e, rdG _ _ (by rw [List.length_append, List.length_append, List.length_singleton, List.length_cons]; omega)]
  simp
theorem normal_ev (l : List Gl) {m : Nat} (hm : IsTrim (clean l) m) (h : l.length ≤ 1000000) : Ev (fun k => plain_Normal.f k l) (normGo none ((clean l).take m)) := by
  have hcl := clean_length l
  unfold plain_Normal.f
  refine Ev.bind (clean_ev l (by omega)) (Ev.bind (trim_ev hm (by omega)) ?_)
  have hlen : ((clean l).take m).length ≤ 1000000 := by rw [List.length_take]; omega
  generalize (clean l).take m = c at hlen
  refine ev_eq (loop_up (fun k o i => plain_Normal.l0 k (o ++ c.drop o.length) (c.length : Int) i) c.length (fun o i => o ++ normGo (lastS o) (c.drop i)) (fun o i => o.length = i) ?_ ?_ [] 0 (by omega) rfl) (by simp [lastS])
  · intro o ho
    refine Ev.step (f := fun _ => some (o ++ c.drop o.length)) (fun k => by simp only [plain_Normal.l0]; rw [if_neg (by omega)]) (ev_eq (Ev.now _) ?_)
    rw [ho, List.drop_length, normGo]
  · intro o i hi ho ih
    subst ho
    obtain ⟨g, t, hgt⟩ : ∃ g t, c.drop o.length = g :: t := ⟨c[o.length], c.drop (o.length + 1), List.drop_eq_getElem_cons hi⟩
    have ht : c.drop (o.length + 1) = t := by
      have := List.drop_eq_getElem_cons hi
      rw [hgt] at this
      injection this with _ h2
      exact h2.symm
    have hxl : (o ++ g :: t).length = c.length := by
      have := congrArg List.length hgt
      rw [List.length_drop] at this
      rw [List.length_append, ← this]
      omega
    have hnext : ∀ x : Gl, x = ⟨g.f0, setOf (lastS o) g⟩ → Ev (fun k => plain_Normal.l0 k ((o ++ [x]) ++ t) (c.length : Int) ((o.length + 1 : Nat) : Int)) (o ++ normGo (lastS o) (g :: t)) := by
      intro x hx
      have h1 := ih (o ++ [x]) (by simp)
      rw [show (o ++ [x]).length = o.length + 1 by simp, ht] at h1
      refine ev_eq h1 ?_
      rw [lastS_snoc, normGo, hx, List.append_assoc]
      rfl
    have hsame : ∀ x : Gl, x = g → (o ++ [x]) ++ t = o ++ g :: t := by
      intro x hx
      rw [hx, List.append_assoc]
      rfl
    rw [hgt]
    by_cases h32 : g.f0 = 32
    · refine Ev.step (f := fun k => plain_Normal.l0 k ((o ++ [⟨g.f0, 0⟩]) ++ t) (c.length : Int) ((o.length + 1 : Nat) : Int)) (fun k => ?_) (hnext ⟨g.f0, 0⟩ (by simp [setOf, h32]))
      simp only [plain_Normal.l0]
      rw [if_pos (by omega), if_pos (by omega), if_pos (by omega), rd_mid, if_pos h32, Int.toNat_natCast, set_mid, wrap_up hi (by omega)]
    · rcases List.eq_nil_or_concat o with ho | ⟨o', y, ho⟩
      · have hn := hnext g (gl_ext rfl (by simp [setOf, h32, ho, lastS]))
        rw [hsame g rfl] at hn
        refine Ev.step (f := fun k => plain_Normal.l0 k (o ++ g :: t) (c.length : Int) ((o.length + 1 : Nat) : Int)) (fun k => ?_) hn
        have h0 : o.length = 0 := by rw [ho]; rfl
        simp only [plain_Normal.l0]
        rw [if_pos (by omega), if_pos (by omega), if_pos (by omega), rd_mid, if_neg h32, if_neg (by omega), wrap_up hi (by omega)]
      · rw [List.concat_eq_append] at ho
        have hol : o.length = o'.length + 1 := by rw [ho]; simp
        have hls : lastS o = some y.f1 := by rw [ho, lastS_snoc]
        have hprev : rd_T44 (o ++ g :: t) ((o.length - 1 : Nat) : Int) = y := by
          rw [ho]
          exact rd_before o' y g t
        by_cases hz : wid g.f0 = 0
        · refine Ev.step (fun k => ?_) (hnext ⟨g.f0, y.f1⟩ (by simp [setOf, h32, hls, hz]))
          simp only [plain_Normal.l0]
          rw [if_pos (by omega), if_pos (by omega), if_pos (by omega), rd_mid, if_neg h32, if_pos (by omega), show runes_Width.f g.f0 = some (wid g.f0) from rfl, Option.bind_some, if_pos hz, wrap_of (x := (o.length : Int) - 1) (by omega) (by omega), show (o.length : Int) - 1 = ((o.length - 1 : Nat) : Int) by omega, if_pos (by omega), if_pos (by omega), hprev, Int.toNat_natCast, set_mid, wrap_up hi (by omega)]
        · have hn := hnext g (gl_ext rfl (by simp [setOf, h32, hls, hz]))
          rw [hsame g rfl] at hn
          refine Ev.step (fun k => ?_) hn
          simp only [plain_Normal.l0]
          rw [if_pos (by omega), if_pos (by omega), if_pos (by omega), rd_mid, if_neg h32, if_pos (by omega), show runes_Width.f g.f0 = some (wid g.f0) from rfl, Option.bind_some, if_neg hz, wrap_up hi (by omega)]
end Go.Proofs.YtdjepocklmlnbaaDoor.Pure

/- Rows as they may be written. -/
namespace Go.Proofs.YtdjepocklmlnbaaDoor.Pure
open Go.RowKit Go.Proofs.YtdjepocklmlnbaaDoorW.PrintWords Go.Proofs.YtdjepocklmlnbaaDoorW.PrintLast Go.Proofs.YtdjepocklmlnbaaDoorW.PrintMore Go.Proofs.YtdjepocklmlnbaaDoor.X Go.Proofs.YtdjepocklmlnbaaDoor.Hand
set_option linter.unusedSimpArgs false
set_option linter.unusedVariables false
/-- A row, normal. -/
noncomputable def nrm (l : List Gl) : List Gl := normGo none ((clean l).take (exists_trim (clean l)).choose)
theorem nrm_length (l : List Gl) : (nrm l).length ≤ l.length := by
  have := clean_length l
  unfold nrm
  rw [normGo_length, List.length_take]
  omega
end Go.Proofs.YtdjepocklmlnbaaDoor.Pure

/- A list of numbers, read at a place. -/
namespace Go.Proofs.YtdjepocklmlnbaaDoor.Pure
open Go.RowKit Go.Proofs.YtdjepocklmlnbaaDoorW.PrintWords Go.Proofs.YtdjepocklmlnbaaDoorW.PrintLast Go.Proofs.YtdjepocklmlnbaaDoorW.PrintMore
set_option linter.unusedSimpArgs false
set_option linter.unusedVariables false
theorem rd_nat (l : List Int) (i : Nat) (h : i < l.length) : rd l (i : Int) = l[i] := by
  simp [rd, List.getD_eq_getElem?_getD, List.getElem?_eq_getElem h]
end Go.Proofs.YtdjepocklmlnbaaDoor.Pure

/- What package runes computes of bytes and of rows: its printed functions answer by plain functions. -/
namespace Go.Proofs.YtdjepocklmlnbaaDoor.Pure
open Go.RowKit Go.Proofs.YtdjepocklmlnbaaDoorW.PrintWords Go.Proofs.YtdjepocklmlnbaaDoorW.PrintLast Go.Proofs.YtdjepocklmlnbaaDoorW.PrintMore Go.Proofs.YtdjepocklmlnbaaDoor.X Go.Proofs.YtdjepocklmlnbaaDoor.Hand
set_option linter.unusedSimpArgs false
set_option linter.unusedVariables false

theorem size_eq (a : Int) : runes_size.f a = some (if a < 128 then 1 else if a < 2048 then 2 else if a < 65536 then 3 else 4) := by
  unfold runes_size.f
  repeat' split
  all_goals rfl
theorem i32_and63 {x : Int} (h₀ : 0 ≤ x) (h₁ : x < 2147483648) : Go.bits .and .i32 x 63 = x % 64 := bits_mask .i32 31 (by decide) wraps_i32 6 (by decide) x h₀ h₁
theorem step_one (x : Int) (n : Int) (b : List Int) (i : Nat) (hx : 0 ≤ x) (hx1 : x < 2147483648) (hi : 0 < i) (hib : i < b.length) (hb : b.length ≤ 4) (r : List Int)
    (k : Ev (fun k => runes_one.l0 k (x / 64) n (b.set i (128 + x % 64)) ((i : Int) - 1)) r) : Ev (fun k => runes_one.l0 k x n b (i : Int)) r := by
  refine Ev.step (f := fun k => runes_one.l0 k (x / 64) n (b.set i (128 + x % 64)) ((i : Int) - 1)) (fun k => ?_) k
  simp only [runes_one.l0]
  rw [if_pos (by omega), if_pos (by omega), if_pos (by omega), i32_and63 hx hx1, show (x % 64) % 256 = x % 64 from by omega, u8_or128 (x % 64) (by omega) (by omega), wrap_of (x := (i : Int) - 1) (by omega) (by omega), Int.toNat_natCast]
theorem last_one (x : Int) (n : Int) (b : List Int) (h : Int) (hn : 0 ≤ n) (hb : 0 < b.length) (hv : Go.bits .or .u8 ((shr .i64 3840 n) % 256) (x % 256) = h) : Ev (fun k => runes_one.l0 k x n b 0) (b.set 0 h) := by
  refine Ev.step (f := fun _ => some (b.set 0 h)) (fun k => ?_) (Ev.now _)
  simp only [runes_one.l0]
  rw [if_neg (by omega), if_pos hn, if_pos (by omega), hv]
  rfl
theorem one_j {x : Int} (h : validB x = true) : Ev (fun k => runes_one.j0 k x) (enc x) := by
  have h' := (validB_iff x).1 h
  refine Ev.step (f := fun k => (runes_size.f x).bind fun t => if t = 1 then some [x % 256] else if 0 ≤ t then (if (t : Int).toNat ≤ 281474976710656 then runes_one.l0 k x t (List.replicate (t : Int).toNat 0) (wrap64 (t - 1)) else none) else none) (fun k => by simp only [runes_one.j0]) ?_
  refine ev_bind1 (size_eq x) ?_
  unfold enc
  by_cases h1 : x < 128
  · simp only [h1, if_true]
    refine ev_eq (Ev.now _) ?_
    rw [show x % 256 = x from by omega]
  · by_cases h2 : x < 2048
    · simp only [h1, h2, if_true, if_false]
      refine ev_neg (by omega) (ev_pos (by omega) (ev_pos (by decide) ?_))
      refine Ev.congr (f := fun k => runes_one.l0 k x 2 [0, 0] ((1 : Nat) : Int)) (fun k => by rw [wrap_of (by omega) (by omega)]; rfl) ?_
      refine step_one x 2 [0, 0] 1 (by omega) (by omega) (by omega) (by simp) (by simp) _ ?_
      refine ev_eq (last_one (x / 64) 2 _ (192 + x / 64) (by omega) (by simp) ?_) (by rfl)
      rw [show (shr .i64 3840 2) % 256 = 192 by decide +kernel, show (x / 64) % 256 = x / 64 from by omega]
      exact u8_or192 _ (by omega) (by omega)
    · by_cases h3 : x < 65536
      · simp only [h1, h2, h3, if_true, if_false]
        refine ev_neg (by omega) (ev_pos (by omega) (ev_pos (by decide) ?_))
        refine Ev.congr (f := fun k => runes_one.l0 k x 3 [0, 0, 0] ((2 : Nat) : Int)) (fun k => by rw [wrap_of (by omega) (by omega)]; rfl) ?_
        refine step_one x 3 [0, 0, 0] 2 (by omega) (by omega) (by omega) (by simp) (by simp) _ ?_
        refine step_one (x / 64) 3 _ 1 (by omega) (by omega) (by omega) (by simp) (by simp) _ ?_
        refine ev_eq (last_one (x / 64 / 64) 3 _ (224 + x / 4096) (by omega) (by simp) ?_) (by rfl)
        rw [show (shr .i64 3840 3) % 256 = 224 by decide +kernel, show (x / 64 / 64) % 256 = x / 4096 from by omega]
        exact u8_or224 _ (by omega) (by omega)
      · simp only [h1, h2, h3, if_false]
        refine ev_neg (by omega) (ev_pos (by omega) (ev_pos (by decide) ?_))
        refine Ev.congr (f := fun k => runes_one.l0 k x 4 [0, 0, 0, 0] ((3 : Nat) : Int)) (fun k => by rw [wrap_of (by omega) (by omega)]; rfl) ?_
        refine step_one x 4 [0, 0, 0, 0] 3 (by omega) (by omega) (by omega) (by simp) (by simp) _ ?_
        refine step_one (x / 64) 4 _ 2 (by omega) (by omega) (by omega) (by simp) (by simp) _ ?_
        refine step_one (x / 64 / 64) 4 _ 1 (by omega) (by omega) (by omega) (by simp) (by simp) _ ?_
        refine ev_eq (last_one (x / 64 / 64 / 64) 4 _ (240 + x / 262144) (by omega) (by simp) ?_) ?_
        · rw [show (shr .i64 3840 4) % 256 = 240 by decide +kernel, show (x / 64 / 64 / 64) % 256 = x / 262144 from by omega]
          exact u8_or240 _ (by omega) (by omega)
        · simp
          omega
theorem one_ev (r : Int) : Ev (fun k => runes_one.f k r) (one r) := by
  unfold runes_one.f
  refine ev_bind1 (valid_eq r) (ev_ite (fun h => ?_) (fun h => ?_))
  · exact ev_eq (one_j h) (by simp [one, h])
  · exact ev_eq (one_j valid_odd) (by simp [one, h])

theorem encode_l (l : List Int) : ∀ (d i : Nat) (o : List Int), l.length - i = d → i ≤ l.length → o.length + 4 * (l.length - i) < 140737488355328 → l.length ≤ 9223372036854775807 →
    Ev (fun k => runes_Encode.l0 k o l (l.length : Int) (i : Int)) (o ++ encode (l.drop i)) := by
  intro d
  induction d with
  | zero =>
    intro i o hd hi ho hl
    refine Ev.step (f := fun _ => some o) (fun k => ?_) (ev_eq (Ev.now _) ?_)
    · simp only [runes_Encode.l0]
      rw [if_neg (by omega)]
    · rw [List.drop_eq_nil_of_le (by omega)]
      simp [encode_nil]
  | succ d ih =>
    intro i o hd hi ho hl
    have hlt : i < l.length := by omega
    have h1 := one_len l[i]
    refine Ev.step (f := fun k => (runes_one.f k l[i]).bind fun t => if o.length + t.length < 140737488355328 then runes_Encode.l0 k (o ++ t) l (l.length : Int) ((i + 1 : Nat) : Int) else none) (fun k => ?_) ?_
    · simp only [runes_Encode.l0]
      rw [if_pos (by omega), if_pos (by omega), if_pos (by omega), rd_nat l i hlt, wrap_of (by omega) (by omega)]
      rfl
    · refine Ev.bind (one_ev _) (ev_pos (by omega) (ev_eq (ih (i + 1) _ (by omega) (by omega) (by rw [List.length_append]; omega) hl) ?_))
      rw [List.drop_eq_getElem_cons hlt, encode_cons, List.append_assoc]
theorem encode_ev (l : List Int) (h : 4 * l.length < 140737488355328) : Ev (fun k => runes_Encode.f k l) (encode l) := by
  unfold runes_Encode.f
  exact ev_eq (encode_l l l.length 0 [] (by omega) (by omega) (by simpa using h) (by omega)) (by simp)

/-! ### reading -/
end Go.Proofs.YtdjepocklmlnbaaDoor.Pure

/- Package cells: a row's runes, its text; a text's glyphs. -/
namespace Go.Proofs.YtdjepocklmlnbaaDoor.Pure
open Go.RowKit Go.Proofs.YtdjepocklmlnbaaDoorW.PrintWords Go.Proofs.YtdjepocklmlnbaaDoorW.PrintLast Go.Proofs.YtdjepocklmlnbaaDoorW.PrintMore Go.Proofs.YtdjepocklmlnbaaDoor.X Go.Proofs.YtdjepocklmlnbaaDoor.Hand
set_option linter.unusedSimpArgs false
set_option linter.unusedVariables false

/-- The runes of a row. -/
def runesOf (l : List Gl) : List Int := l.map (·.f0)
def ofRunes (s : Int) (l : List Int) : List Gl := l.map (fun r => ⟨r, s⟩)
theorem ofRunes_nil (s : Int) : ofRunes s [] = [] := rfl
theorem ofRunes_cons (s r : Int) (l : List Int) : ofRunes s (r :: l) = ⟨r, s⟩ :: ofRunes s l := rfl
theorem ofRunes_append (s : Int) (a b : List Int) : ofRunes s (a ++ b) = ofRunes s a ++ ofRunes s b := by simp [ofRunes]
theorem ofRunes_length (s : Int) (l : List Int) : (ofRunes s l).length = l.length := by simp [ofRunes]
theorem runesOf_nil : runesOf [] = [] := rfl
theorem runesOf_cons (g : Gl) (l : List Gl) : runesOf (g :: l) = g.f0 :: runesOf l := rfl
theorem runesOf_append (a b : List Gl) : runesOf (a ++ b) = runesOf a ++ runesOf b := by simp [runesOf]
theorem runesOf_length (l : List Gl) : (runesOf l).length = l.length := by simp [runesOf]
theorem runesOf_ofRunes (s : Int) (l : List Int) : runesOf (ofRunes s l) = l := by
  unfold runesOf ofRunes
  rw [List.map_map]
  exact List.map_id _
theorem bytesOf_Bytes (s : ByteArray) : Bytes (bytesOf s) := fun x hx => by
  unfold bytesOf at hx
  obtain ⟨u, _, rfl⟩ := List.mem_map.1 hx
  have := u.toNat_lt
  omega
theorem text_ev (l : List Gl) (h : l.length < 8796093022208) : Ev (fun k => cells_Text.f k l) (strOfNums (encode (runesOf l))) := by
  unfold cells_Text.f
  refine ev_eq (loop_up (fun k o i => cells_Text.l0 k o l (l.length : Int) i) l.length (fun o i => strOfNums (encode (o ++ runesOf (l.drop i)))) (fun o i => o.length = i) ?_ ?_ [] 0 (by omega) rfl) (by simp)
  · intro o ho
    refine Ev.step (f := fun k => (runes_Encode.f k o).bind fun t => some (strOfNums t)) (fun k => by simp only [cells_Text.l0]; rw [if_neg (by omega)]) (Ev.bind (encode_ev o (by omega)) (ev_eq (Ev.now _) (by rw [List.drop_length, runesOf_nil, List.append_nil])))
  · intro o i hi ho ih
    refine Ev.step (f := fun k => cells_Text.l0 k (o ++ [l[i].f0]) l (l.length : Int) ((i + 1 : Nat) : Int)) (fun k => ?_) (ev_eq (ih (o ++ [l[i].f0]) (by simp [ho])) ?_)
    · simp only [cells_Text.l0]
      rw [if_pos (by omega), if_pos (by omega), if_pos (by omega), if_pos (by omega), rdG l i hi, wrap_up hi (by omega)]
    · rw [List.drop_eq_getElem_cons hi, runesOf_cons, List.append_assoc]
      rfl
end Go.Proofs.YtdjepocklmlnbaaDoor.Pure

/- Numbers as a text, and back. -/
namespace Go.Proofs.YtdjepocklmlnbaaDoor.Pure
open Go Go.RowKit Go.Proofs.YtdjepocklmlnbaaDoorW.PrintWords Go.Proofs.YtdjepocklmlnbaaDoorW.PrintLast Go.Proofs.YtdjepocklmlnbaaDoorW.PrintMore Go.Proofs.YtdjepocklmlnbaaDoor.X Go.Proofs.YtdjepocklmlnbaaDoor.Hand
set_option linter.unusedSimpArgs false
set_option linter.unusedVariables false
theorem numsStr_append (a b : List Int) : strOfNums (a ++ b) = strOfNums a ++ strOfNums b := by
  apply ByteArray.ext
  apply Array.ext'
  rw [ByteArray.data_append, Array.toList_append, strOfNums_data, strOfNums_data, strOfNums_data, List.map_append]
theorem numsStr_size (a : List Int) : (strOfNums a).size = a.length := by
  rw [← data_length, strOfNums_data, List.length_map]
theorem numsStr_back {b : List Int} (hb : Bytes b) : bytesOf (strOfNums b) = b := by
  unfold bytesOf
  rw [strOfNums_data, List.map_map]
  conv => rhs; rw [← List.map_id b]
  apply List.map_congr_left
  intro x hx
  have := hb x hx
  simp
  omega
end Go.Proofs.YtdjepocklmlnbaaDoor.Pure

/- Rows with signs: the package's. -/
namespace Go.Proofs.YtdjepocklmlnbaaDoor.Pure
open Go Go.RowKit Go.Proofs.YtdjepocklmlnbaaDoorW.PrintWords Go.Proofs.YtdjepocklmlnbaaDoorW.PrintLast Go.Proofs.YtdjepocklmlnbaaDoorW.PrintMore Go.Proofs.YtdjepocklmlnbaaDoor.X Go.Proofs.YtdjepocklmlnbaaDoor.Hand
set_option linter.unusedSimpArgs false
set_option linter.unusedVariables false
theorem sign_size (i : Nat) : (signS i).size ≤ 6 := by
  match i with
  | 0 | 1 | 2 => decide
  | _ + 3 => show (⟨#[27, 91, 49, 59, 52, 109]⟩ : ByteArray).size ≤ 6; decide
theorem sgL_length (s : Int) : (sgL s).length ≤ 6 := by
  unfold sgL
  rw [bytesOf_length]
  exact sign_size _
theorem signS_str (i : Nat) : signS i = strOfNums (bytesOf (signS i)) := by
  match i with
  | 0 | 1 | 2 => decide +kernel
  | _ + 3 => show (⟨#[27, 91, 49, 59, 52, 109]⟩ : ByteArray) = strOfNums (bytesOf ⟨#[27, 91, 49, 59, 52, 109]⟩); decide +kernel
theorem sgL_Bytes (s : Int) : Bytes (sgL s) := by
  intro x hx
  unfold sgL bytesOf at hx
  obtain ⟨u, _, rfl⟩ := List.mem_map.1 hx
  have := u.toNat_lt
  omega
theorem sign_eq {s : Int} (h : 0 ≤ s ∧ s ≤ 255) : ansi_Sign.f s = some (strOfNums (sgL s)) := by
  unfold ansi_Sign.f
  rw [if_pos h, sgL, ← signS_str]
theorem setOf_range {p : Option Int} {g : Gl} (hp : ∀ s, p = some s → 0 ≤ s ∧ s ≤ 3) (hg : 0 ≤ g.f1 ∧ g.f1 ≤ 3) : 0 ≤ setOf p g ∧ setOf p g ≤ 3 := by
  unfold setOf
  split
  · omega
  · cases p with
    | none => exact hg
    | some s =>
      simp only
      split
      · exact hp s rfl
      · exact hg
theorem normGo_range : ∀ (l : List Gl) (p : Option Int), (∀ s, p = some s → 0 ≤ s ∧ s ≤ 3) → (∀ g ∈ l, 0 ≤ g.f1 ∧ g.f1 ≤ 3) → ∀ g ∈ normGo p l, 0 ≤ g.f1 ∧ g.f1 ≤ 3
  | [], _, _, _, g, h => by simp [normGo] at h
  | x :: t, p, hp, hl, g, h => by
    have hx := setOf_range hp (hl x (by simp))
    rw [normGo] at h
    rcases List.mem_cons.1 h with rfl | h
    · exact hx
    · exact normGo_range t _ (fun s e => by injection e with e; rw [← e]; exact hx) (fun y hy => hl y (by simp [hy])) g h
theorem rowB_ev : ∀ (rs : List (List Gl)) (o : List Int), (∀ y ∈ rs, 0 < y.length ∧ y.length ≤ 5000 ∧ ∀ g ∈ y, 0 ≤ g.f1 ∧ g.f1 ≤ 255) → o.length + 30000 * rs.length ≤ 1000000000 → Ev (fun k => rowB k rs o) (o ++ outB rs)
  | [], o, _, _ => ev_eq (Ev.now _) (by simp [outB])
  | y :: t, o, h, hl => by
    obtain ⟨hp, hy, hs⟩ := h y (by simp)
    have hen := encode_length (runesOf y)
    rw [runesOf_length] at hen
    have hhd : hd y = rd_T44 y 0 := rfl
    have hs0 : 0 ≤ (hd y).f1 ∧ (hd y).f1 ≤ 255 := by
      rw [hd_eq hp]
      exact hs _ (List.getElem_mem hp)
    have e1 : outB (y :: t) = runB y ++ outB t := by simp [outB]
    rw [e1]
    simp only [List.length_cons] at hl
    have hsl := sgL_length (hd y).f1
    have hsl0 := sgL_length 0
    rw [hhd] at hs0 hsl
    simp only [rowB]
    refine ev_neg (by omega) (ev_ite (fun h0 => ?_) (fun h0 => ?_))
    · refine Ev.bind (text_ev _ (by omega)) (ev_pos (by rw [numsStr_size]; omega) ?_)
      rw [numsStr_back (encode_bytes _)]
      refine ev_eq (rowB_ev t _ (fun x hx => h x (by simp [hx])) (by rw [List.length_append]; omega)) ?_
      rw [runB, hhd, if_pos h0, List.append_assoc]
      rfl
    · refine ev_bind1 (sign_eq hs0) (Ev.bind (text_ev _ (by omega)) (ev_bind1 (sign_eq (by decide)) (ev_pos (by rw [numsStr_size, numsStr_size, numsStr_size]; omega) ?_)))
      rw [numsStr_back (encode_bytes _), numsStr_back (sgL_Bytes _), numsStr_back (sgL_Bytes _)]
      refine ev_eq (rowB_ev t _ (fun x hx => h x (by simp [hx])) (by simp only [List.length_append]; omega)) ?_
      rw [runB, hhd, if_neg h0]
      simp only [List.append_assoc]
      rfl
theorem nrm_set {l : List Gl} (h : ∀ g ∈ l, 0 ≤ g.f1 ∧ g.f1 ≤ 255) : ∀ g ∈ nrm l, 0 ≤ g.f1 ∧ g.f1 ≤ 3 :=
  normGo_range _ none (fun s e => by cases e) (fun g hg => by
    have := clean_Cl l h g (List.mem_of_mem_take hg)
    exact ⟨this.2.2.1, this.2.2.2.1⟩)
theorem part_le : ∀ (rs : List (List Gl)) (y : List Gl), y ∈ rs → y.length ≤ rs.flatten.length ∧ ∀ g ∈ y, g ∈ rs.flatten
  | [], y, h => by simp at h
  | z :: t, y, h => by
    rw [List.flatten_cons, List.length_append]
    rcases List.mem_cons.1 h with rfl | h
    · exact ⟨by omega, fun g hg => List.mem_append_left _ hg⟩
    · have := part_le t y h
      exact ⟨by omega, fun g hg => List.mem_append_right _ (this.2 g hg)⟩
theorem row_ev {l : List Gl} (hl : l.length ≤ 3000) (h : ∀ g ∈ l, 0 ≤ g.f1 ∧ g.f1 ≤ 255) : Ev (fun k => ansi_Row.f k l) (refGo (nrm l) 0) := by
  have hn := nrm_length l
  have hset := nrm_set h
  have hnl := normal_ev l (exists_trim (clean l)).choose_spec (by omega)
  change Ev _ (nrm l) at hnl
  unfold ansi_Row.f
  refine Ev.bind hnl ?_
  revert hn hset
  generalize nrm l = c
  intro hn hset
  have hi := runs_IsRuns c
  have hrl := runs_length c.length c (Nat.le_refl _)
  refine ev_bind1 (a := runs c) (by unfold cells_Runs.f; rw [if_pos (by omega)]) (ev_pos (by omega) (ev_eq (rowB_ev (runs c) [] (fun y hy => ?_) (by simp only [List.length_nil]; omega)) (by rw [List.nil_append, outB_eq _ _ hi])))
  have hp := part_le (runs c) y hy
  rw [hi.flat] at hp
  exact ⟨hi.pos y hy, by omega, fun g hg => by have := hset g (hp.2 g hg); omega⟩
theorem refGo_length : ∀ (c : List Gl) (s : Int), (refGo c s).length ≤ 20 * c.length + 6
  | [], s => by
    have := sgL_length 0
    rw [refGo]
    split <;> simp <;> omega
  | g :: t, s => by
    have h0 := sgL_length 0
    have h1 := sgL_length g.f1
    have h2 := encode_length [g.f0]
    have ih := refGo_length t g.f1
    rw [refGo, List.length_append, List.length_append, List.length_cons]
    have h3 : (if g.f1 = s then ([] : List Int) else (if s = 0 then [] else sgL 0) ++ (if g.f1 = 0 then [] else sgL g.f1)).length ≤ 12 := by
      split
      · simp
      · rw [List.length_append]
        have h4 : (if s = 0 then ([] : List Int) else sgL 0).length ≤ 6 := by split <;> first | (simp; done) | omega
        have h5 : (if g.f1 = 0 then ([] : List Int) else sgL g.f1).length ≤ 6 := by split <;> first | (simp; done) | omega
        omega
    simp only [List.length_singleton] at h2
    omega
end Go.Proofs.YtdjepocklmlnbaaDoor.Pure

/- Whether bytes begin so: strings.HasPrefix. -/
namespace Go.Proofs.YtdjepocklmlnbaaDoor.Pure
open Go Go.RowKit Go.Proofs.YtdjepocklmlnbaaDoorW.PrintWords Go.Proofs.YtdjepocklmlnbaaDoorW.PrintLast Go.Proofs.YtdjepocklmlnbaaDoorW.PrintMore Go.Proofs.YtdjepocklmlnbaaDoor.X Go.Proofs.YtdjepocklmlnbaaDoor.Hand
set_option linter.unusedSimpArgs false
set_option linter.unusedVariables false
theorem str_part (c : List Int) (i j : Nat) : (strOfNums c).extract i j = strOfNums ((c.take j).drop i) := by
  apply ByteArray.ext
  apply Array.ext'
  rw [ByteArray.data_extract, Array.toList_extract, strOfNums_data, strOfNums_data, List.extract_eq_take_drop, List.drop_take, List.map_take, List.map_drop]
theorem str_same {a b : List Int} (ha : Bytes a) (hb : Bytes b) : ((strOfNums a).toList == (strOfNums b).toList) = decide (a = b) := by
  have key : (strOfNums a).toList = (strOfNums b).toList ↔ a = b := by
    rw [ByteArray.toList_eq, ByteArray.toList_eq]
    constructor
    · intro h
      have h2 : bytesOf (strOfNums a) = bytesOf (strOfNums b) := by unfold bytesOf; rw [h]
      rwa [numsStr_back ha, numsStr_back hb] at h2
    · intro h
      rw [h]
  by_cases h : a = b
  · rw [decide_eq_true h, beq_iff_eq]
    exact key.2 h
  · rw [decide_eq_false h, beq_eq_false_iff_ne]
    exact fun e => h (key.1 e)
theorem prefix_eq {b p : List Int} (hb : Bytes b) (hp : Bytes p) : strings_HasPrefix.f (strOfNums b) (strOfNums p) = some (decide (p <+: b)) := by
  unfold strings_HasPrefix.f stringslite_HasPrefix.f
  rw [numsStr_size, numsStr_size]
  by_cases h : p.length ≤ b.length
  · rw [if_pos (by omega), if_pos (by omega), if_pos (by omega), Option.bind_some, str_part, Int.toNat_natCast, List.drop_zero, str_same (fun x hx => hb x (List.mem_of_mem_take hx)) hp]
    congr 1
    rw [decide_eq_decide, List.prefix_iff_eq_take]
    exact eq_comm
  · rw [if_neg (by omega), Option.bind_some]
    congr 1
    symm
    rw [decide_eq_false_iff_not]
    exact fun e => h e.length_le
end Go.Proofs.YtdjepocklmlnbaaDoor.Pure

/- The sign that bytes begin with; bytes of which each 27 begins a sign, and how many there are. -/
namespace Go.Proofs.YtdjepocklmlnbaaDoor.Pure
open Go Go.RowKit Go.Proofs.YtdjepocklmlnbaaDoorW.PrintWords Go.Proofs.YtdjepocklmlnbaaDoorW.PrintLast Go.Proofs.YtdjepocklmlnbaaDoorW.PrintMore Go.Proofs.YtdjepocklmlnbaaDoor.X Go.Proofs.YtdjepocklmlnbaaDoor.Hand
set_option linter.unusedSimpArgs false
set_option linter.unusedVariables false
theorem sgL_0 : sgL 0 = [27, 91, 48, 109] := by decide +kernel
theorem sgL_1 : sgL 1 = [27, 91, 49, 109] := by decide +kernel
theorem sgL_2 : sgL 2 = [27, 91, 52, 109] := by decide +kernel
theorem sgL_3 : sgL 3 = [27, 91, 49, 59, 52, 109] := by decide +kernel
/-- The sign that bytes begin with: how it sets, and how long it is. -/
def sgn (b : List Int) : Option (Int × Nat) :=
  if sgL 0 <+: b then some (0, 4) else if sgL 1 <+: b then some (1, 4) else if sgL 2 <+: b then some (2, 4) else if sgL 3 <+: b then some (3, 6) else none
/-- Signs' answer. -/
def sgnV (b : List Int) : Int × Int × Bool := match sgn b with | some (s, n) => (s, (n : Int), true) | none => (0, 0, false)
theorem signs_eq {b : List Int} (hb : Bytes b) : ansi_Signs.f b = some (sgnV b) := by
  have e0 : signS 0 = strOfNums (sgL 0) := signS_str 0
  have e1 : signS 1 = strOfNums (sgL 1) := signS_str 1
  have e2 : signS 2 = strOfNums (sgL 2) := signS_str 2
  have e3 : signS 3 = strOfNums (sgL 3) := signS_str 3
  unfold ansi_Signs.f
  rw [show (4 : Nat) = 3 + 1 from rfl, ansi_Signs.l, show (3 : Nat) = 2 + 1 from rfl, ansi_Signs.l, show (2 : Nat) = 1 + 1 from rfl, ansi_Signs.l, show (1 : Nat) = 0 + 1 from rfl, ansi_Signs.l, ansi_Signs.l]
  simp only [Nat.zero_add, Nat.reduceAdd]
  rw [e0, e1, e2, e3, prefix_eq hb (sgL_Bytes 0), prefix_eq hb (sgL_Bytes 1), prefix_eq hb (sgL_Bytes 2), prefix_eq hb (sgL_Bytes 3)]
  simp only [Option.bind_some, decide_eq_true_eq, numsStr_size]
  unfold sgnV sgn
  split
  · rfl
  · split
    · rfl
    · split
      · rfl
      · split
        · rfl
        · rfl
theorem sgn_some {b : List Int} {s : Int} {n : Nat} (h : sgn b = some (s, n)) : 0 ≤ s ∧ s ≤ 3 ∧ n = (sgL s).length ∧ sgL s <+: b := by
  unfold sgn at h
  split at h
  · rename_i hp
    cases h
    exact ⟨by decide, by decide, by decide +kernel, hp⟩
  · split at h
    · rename_i hp
      cases h
      exact ⟨by decide, by decide, by decide +kernel, hp⟩
    · split at h
      · rename_i hp
        cases h
        exact ⟨by decide, by decide, by decide +kernel, hp⟩
      · split at h
        · rename_i hp
          cases h
          exact ⟨by decide, by decide, by decide +kernel, hp⟩
        · cases h
theorem sgn_sgL {s : Int} (h0 : 0 ≤ s) (h3 : s ≤ 3) (t : List Int) : sgn (sgL s ++ t) = some (s, (sgL s).length) := by
  have hc : s = 0 ∨ s = 1 ∨ s = 2 ∨ s = 3 := by omega
  unfold sgn
  rcases hc with rfl | rfl | rfl | rfl <;> simp [sgL_0, sgL_1, sgL_2, sgL_3]
theorem sgn_ne {x : Int} {t : List Int} (h : x ≠ 27) : sgn (x :: t) = none := by
  have hx : ¬ (27 : Int) = x := fun e => h e.symm
  unfold sgn
  simp [sgL_0, sgL_1, sgL_2, sgL_3, hx]
theorem sgn_nil : sgn [] = none := by decide +kernel
theorem sgn_more {a : List Int} {s : Int} {n : Nat} (h : sgn a = some (s, n)) (c : List Int) : sgn (a ++ c) = some (s, n) := by
  obtain ⟨h0, h3, hn, ⟨t, rfl⟩⟩ := sgn_some h
  rw [List.append_assoc, sgn_sgL h0 h3, hn]
/-- What may stand outside of signs. -/
def plainB (x : Int) : Bool := decide (32 ≤ x ∧ x ≠ 127) || decide (x = 10)
/-- Each 27 begins a sign, and there is no other control. -/
def sf : List Int → Bool
  | [] => true
  | x :: t => (if x = 27 then (sgn (x :: t)).isSome else plainB x) && sf t
theorem sf_cons {x : Int} {t : List Int} (h : sf (x :: t) = true) : (x = 27 → (sgn (x :: t)).isSome = true) ∧ (x ≠ 27 → plainB x = true) ∧ sf t = true := by
  rw [sf, Bool.and_eq_true] at h
  refine ⟨fun e => ?_, fun e => ?_, h.2⟩
  · rw [if_pos e] at h
    exact h.1
  · rw [if_neg e] at h
    exact h.1
theorem sf_append : ∀ (a c : List Int), sf a = true → sf c = true → sf (a ++ c) = true
  | [], c, _, h => h
  | x :: t, c, h, hc => by
    obtain ⟨h1, h2, h3⟩ := sf_cons h
    rw [List.cons_append, sf, Bool.and_eq_true]
    refine ⟨?_, sf_append t c h3 hc⟩
    by_cases e : x = 27
    · rw [if_pos e]
      obtain ⟨⟨s, n⟩, hs⟩ := Option.isSome_iff_exists.1 (h1 e)
      have := sgn_more hs c
      rw [List.cons_append] at this
      rw [this]
      rfl
    · rw [if_neg e]
      exact h2 e
theorem sf_plain : ∀ a : List Int, (∀ x ∈ a, plainB x = true) → sf a = true
  | [], _ => rfl
  | x :: t, h => by
    have hx := h x (by simp)
    rw [sf, if_neg (fun e => by rw [e] at hx; exact absurd hx (by decide +kernel)), hx, sf_plain t (fun y hy => h y (by simp [hy]))]
    rfl
theorem sf_sgL {s : Int} (h0 : 0 ≤ s) (h3 : s ≤ 3) : sf (sgL s) = true := by
  have hc : s = 0 ∨ s = 1 ∨ s = 2 ∨ s = 3 := by omega
  rcases hc with rfl | rfl | rfl | rfl <;> decide +kernel
def c27 (b : List Int) : Nat := b.countP (fun x => x == 27)
theorem c27_append (a c : List Int) : c27 (a ++ c) = c27 a + c27 c := by unfold c27; rw [List.countP_append]
theorem c27_sgL {s : Int} (h0 : 0 ≤ s) (h3 : s ≤ 3) : c27 (sgL s) = 1 := by
  have hc : s = 0 ∨ s = 1 ∨ s = 2 ∨ s = 3 := by omega
  rcases hc with rfl | rfl | rfl | rfl <;> decide +kernel
theorem c27_plain {a : List Int} (h : ∀ x ∈ a, plainB x = true) : c27 a = 0 := by
  unfold c27
  rw [List.countP_eq_zero]
  intro x hx e
  have h1 := h x hx
  rw [beq_iff_eq] at e
  rw [e] at h1
  exact absurd h1 (by decide +kernel)
end Go.Proofs.YtdjepocklmlnbaaDoor.Pure

/- Bytes without signs. -/
namespace Go.Proofs.YtdjepocklmlnbaaDoor.Pure
open Go Go.RowKit Go.Proofs.YtdjepocklmlnbaaDoorW.PrintWords Go.Proofs.YtdjepocklmlnbaaDoorW.PrintLast Go.Proofs.YtdjepocklmlnbaaDoorW.PrintMore Go.Proofs.YtdjepocklmlnbaaDoor.X Go.Proofs.YtdjepocklmlnbaaDoor.Hand
set_option linter.unusedSimpArgs false
set_option linter.unusedVariables false
theorem sgn_len {b : List Int} {s : Int} {m : Nat} (h : sgn b = some (s, m)) : 4 ≤ m ∧ m ≤ b.length := by
  obtain ⟨h0, h3, hm, hp⟩ := sgn_some h
  have hl := hp.length_le
  rw [← hm] at hl
  refine ⟨?_, hl⟩
  rw [hm]
  have hc : s = 0 ∨ s = 1 ∨ s = 2 ∨ s = 3 := by omega
  rcases hc with rfl | rfl | rfl | rfl <;> decide +kernel
def stripN : Nat → List Int → List Int
  | 0, _ => []
  | n + 1, b => if b = [] then [] else match sgn b with
    | some (_, m) => stripN n (b.drop m)
    | none => b.take 1 ++ stripN n (b.drop 1)
def stripL (b : List Int) : List Int := stripN b.length b
theorem stripN_nil : ∀ n, stripN n [] = []
  | 0 => rfl
  | n + 1 => by rw [stripN, if_pos rfl]
theorem stripN_eq : ∀ (n m : Nat) (b : List Int), b.length ≤ n → b.length ≤ m → stripN n b = stripN m b
  | 0, m, b, h, _ => by
    obtain rfl : b = [] := List.eq_nil_of_length_eq_zero (by omega)
    rw [stripN_nil, stripN_nil]
  | n, 0, b, _, h => by
    obtain rfl : b = [] := List.eq_nil_of_length_eq_zero (by omega)
    rw [stripN_nil, stripN_nil]
  | n + 1, m + 1, b, h, h' => by
    rw [stripN, stripN]
    by_cases hb : b = []
    · rw [if_pos hb, if_pos hb]
    · have hp : 0 < b.length := List.length_pos_iff.2 hb
      rw [if_neg hb, if_neg hb]
      cases hs : sgn b with
      | none =>
        simp only
        rw [stripN_eq n m (b.drop 1) (by rw [List.length_drop]; omega) (by rw [List.length_drop]; omega)]
      | some p =>
        obtain ⟨s, k⟩ := p
        have := sgn_len hs
        simp only
        exact stripN_eq n m (b.drop k) (by rw [List.length_drop]; omega) (by rw [List.length_drop]; omega)
theorem stripL_of {n : Nat} {b : List Int} (h : b.length ≤ n) : stripN n b = stripL b := stripN_eq n b.length b h (Nat.le_refl _)
theorem stripL_sign {b : List Int} {s : Int} {m : Nat} (h : sgn b = some (s, m)) : stripL b = stripL (b.drop m) := by
  have hl := sgn_len h
  rw [← stripL_of (n := b.length) (Nat.le_refl _)]
  obtain ⟨n, hn⟩ : ∃ n, b.length = n + 1 := ⟨b.length - 1, by omega⟩
  rw [hn, stripN, if_neg (fun e => by rw [e] at hl; simp at hl; omega), h]
  exact stripL_of (by rw [List.length_drop]; omega)
theorem stripL_cons {x : Int} {t : List Int} (h : sgn (x :: t) = none) : stripL (x :: t) = x :: stripL t := by
  rw [← stripL_of (n := (x :: t).length) (Nat.le_refl _), List.length_cons, stripN, if_neg (by simp), h]
  simp only
  rw [stripL_of (by simp)]
  rfl
theorem stripL_nil : stripL [] = [] := rfl
theorem stripL_sgL {s : Int} (h0 : 0 ≤ s) (h3 : s ≤ 3) (t : List Int) : stripL (sgL s ++ t) = stripL t := by
  rw [stripL_sign (sgn_sgL h0 h3 t), List.drop_left]
theorem stripL_plain : ∀ (p t : List Int), (∀ x ∈ p, x ≠ 27) → stripL (p ++ t) = p ++ stripL t
  | [], t, _ => rfl
  | x :: p, t, h => by rw [List.cons_append, stripL_cons (sgn_ne (h x (by simp))), stripL_plain p t (fun y hy => h y (by simp [hy])), List.cons_append]
theorem stripL_length : ∀ (n : Nat) (b : List Int), (stripN n b).length ≤ b.length
  | 0, b => Nat.zero_le _
  | n + 1, b => by
    rw [stripN]
    split
    · simp
    · split
      · have := stripL_length n (b.drop ‹Nat›)
        rw [List.length_drop] at this
        omega
      · have h1 := stripL_length n (b.drop 1)
        have hp : 0 < b.length := List.length_pos_iff.2 ‹_›
        rw [List.length_drop] at h1
        rw [List.length_append, List.length_take]
        omega
theorem strip_l : ∀ (n : Nat) (b o : List Int), Bytes b → b.length ≤ n → o.length + b.length ≤ 1000000000 → Ev (fun k => ansi_Strip.l0 k b o) (o ++ stripL b)
  | n, [], o, _, _, _ => Ev.step (f := fun _ => some o) (fun k => by simp only [ansi_Strip.l0]; rw [if_neg (by simp)]) (ev_eq (Ev.now _) (by rw [stripL_nil, List.append_nil]))
  | 0, x :: t, o, _, h, _ => by simp at h
  | n + 1, x :: t, o, hb, h, hl => by
    simp only [List.length_cons] at h hl
    cases hs : sgn (x :: t) with
    | some p =>
      obtain ⟨s, m⟩ := p
      obtain ⟨h4, hm⟩ := sgn_len hs
      rw [stripL_sign hs]
      refine Ev.step (f := fun k => ansi_Strip.l0 k ((x :: t).drop m) o) (fun k => ?_) (strip_l n _ o (bytes_drop hb m) (by rw [List.length_drop, List.length_cons]; omega) (by rw [List.length_drop, List.length_cons]; omega))
      simp only [ansi_Strip.l0]
      rw [if_pos (by simp), signs_eq hb, Option.bind_some, sgnV, hs]
      simp only [if_true]
      rw [if_pos (by omega), if_pos (by omega), Int.toNat_natCast]
    | none =>
      rw [stripL_cons hs]
      refine Ev.step (f := fun k => ansi_Strip.l0 k t (o ++ [x])) (fun k => ?_) (ev_eq (strip_l n t (o ++ [x]) (fun y hy => hb y (by simp [hy])) (by omega) (by rw [List.length_append, List.length_singleton]; omega)) (by rw [List.append_assoc]; rfl))
      simp only [ansi_Strip.l0]
      rw [if_pos (by simp), signs_eq hb, Option.bind_some, sgnV, hs]
      simp only [Bool.false_eq_true, if_false]
      rw [if_pos (by simp), if_pos (by omega), if_pos (by simp only [List.length_cons]; omega)]
      rfl
theorem strip_ev {b : List Int} (hb : Bytes b) (h : b.length ≤ 1000000000) : Ev (fun k => ansi_Strip.f k b) (stripL b) := by
  unfold ansi_Strip.f
  exact ev_eq (strip_l b.length b [] hb (Nat.le_refl _) (by simpa using h)) rfl
end Go.Proofs.YtdjepocklmlnbaaDoor.Pure

/- What the chapter's example fixes: computed. -/
namespace Go.Proofs.YtdjepocklmlnbaaDoor.Pure
open Go.RowKit Go.Proofs.YtdjepocklmlnbaaDoorW.PrintWords Go.Proofs.YtdjepocklmlnbaaDoorW.PrintLast Go.Proofs.YtdjepocklmlnbaaDoor.X
theorem known_ev : Ev (fun k => flonglaw19_known.f k) true := Ev.of (k := 30) flonglaw19_known.mono (by kernel_rfl)
end Go.Proofs.YtdjepocklmlnbaaDoor.Pure
