/- SpecQ: several of this session's texts in one. -/
import Derived.Test.YtdjepocklmlnbaaDoorVMore
import Derived.Test.YtdjepocklmlnbaaDoorX0
import Derived.Test.YtdjepocklmlnbaaDoorHandI
import Derived.Test.YtdjepocklmlnbaaDoorHandA
import Derived.Test.YtdjepocklmlnbaaDoorHandW
import Derived.Test.YtdjepocklmlnbaaDoorX1
import Derived.Laws.BitsLemmas
import Derived.Test.YtdjepocklmlnbaaDoorX4
import Derived.Test.YtdjepocklmlnbaaDoorX5
import Derived.Test.YtdjepocklmlnbaaDoorX6
import Derived.Test.YtdjepocklmlnbaaDoorHandR
import Derived.Test.YtdjepocklmlnbaaDoorX7
import Derived.Test.YtdjepocklmlnbaaDoorX8
import Derived.Test.YtdjepocklmlnbaaDoorX2
/- Plain lemmas on printed functions: what holds from some number of rounds on. -/
namespace Go.Proofs.YtdjepocklmlnbaaDoor.Pure
open Go.RowKit Go.Proofs.YtdjepocklmlnbaaDoorW.PrintWords Go.Proofs.YtdjepocklmlnbaaDoorW.PrintLast

theorem ev_pos {α : Type} {c : Prop} [Decidable c] {f g : Nat → Option α} {r : α} (h : c) (k : Ev f r) : Ev (fun n => if c then f n else g n) r := by
  obtain ⟨K, k⟩ := k
  exact ⟨K, fun n hn => by simp only [if_pos h]; exact k n hn⟩
theorem ev_neg {α : Type} {c : Prop} [Decidable c] {f g : Nat → Option α} {r : α} (h : ¬ c) (k : Ev g r) : Ev (fun n => if c then f n else g n) r := by
  obtain ⟨K, k⟩ := k
  exact ⟨K, fun n hn => by simp only [if_neg h]; exact k n hn⟩
theorem ev_ite {α : Type} {c : Prop} [Decidable c] {f g : Nat → Option α} {r : α} (h : c → Ev f r) (k : ¬ c → Ev g r) : Ev (fun n => if c then f n else g n) r := by
  by_cases hc : c
  · exact ev_pos hc (h hc)
  · exact ev_neg hc (k hc)
theorem ev_eq {α : Type} {g : Nat → Option α} {r r' : α} (h : Ev g r) (e : r = r') : Ev g r' := e ▸ h
/-- What answers at once. -/
theorem ev_bind1 {α β : Type} {g : Option α} {f : Nat → α → Option β} {a : α} {r : β} (h : g = some a) (k : Ev (fun n => f n a) r) : Ev (fun n => g.bind (f n)) r := by
  subst h
  exact k
theorem ev_one {α : Type} {g : Option α} {r : α} (h : g = some r) : Ev (fun _ => g) r := ⟨0, fun _ _ => h⟩
theorem wrap_of {x : Int} (h0 : -9223372036854775808 ≤ x) (h1 : x ≤ 9223372036854775807) : wrap64 x = x := by
  unfold wrap64
  omega
theorem wf_u8 {x : Int} (h : (Lit.int .u8 x).wf = true) : 0 ≤ x ∧ x ≤ 255 := by
  have h' : (decide (IntKind.min .u8 ≤ x) && decide (x ≤ IntKind.max .u8)) = true := h
  rw [Bool.and_eq_true, decide_eq_true_eq, decide_eq_true_eq, show IntKind.min .u8 = 0 from rfl, show IntKind.max .u8 = 255 from rfl] at h'
  exact h'
end Go.Proofs.YtdjepocklmlnbaaDoor.Pure

/- A loop that goes up to a length, whatever its state. -/
namespace Go.Proofs.YtdjepocklmlnbaaDoor.Pure
open Go.RowKit Go.Proofs.YtdjepocklmlnbaaDoorW.PrintWords Go.Proofs.YtdjepocklmlnbaaDoorW.PrintLast

theorem loop_up {σ β : Type} (L : Nat → σ → Int → Option β) (n : Nat) (res : σ → Nat → β) (I : σ → Nat → Prop)
    (hend : ∀ s, I s n → Ev (fun k => L k s (n : Int)) (res s n))
    (hstep : ∀ s i, i < n → I s i → (∀ s', I s' (i + 1) → Ev (fun k => L k s' ((i + 1 : Nat) : Int)) (res s' (i + 1))) → Ev (fun k => L k s (i : Int)) (res s i)) :
    ∀ s i, i ≤ n → I s i → Ev (fun k => L k s (i : Int)) (res s i) := by
  have h : ∀ d i, n - i = d → i ≤ n → ∀ s, I s i → Ev (fun k => L k s (i : Int)) (res s i) := by
    intro d
    induction d with
    | zero =>
      intro i hd hi s hs
      obtain rfl : i = n := by omega
      exact hend s hs
    | succ d ih =>
      intro i hd hi s hs
      exact hstep s i (by omega) hs (fun s' hs' => ih (i + 1) (by omega) (by omega) s' hs')
  exact fun s i hi hs => h (n - i) i rfl hi s hs
theorem wrap_up {i n : Nat} (h : i < n) (hn : n ≤ 9223372036854775807) : wrap64 ((i : Int) + 1) = ((i + 1 : Nat) : Int) := by
  rw [wrap_of (by omega) (by omega)]
  omega
end Go.Proofs.YtdjepocklmlnbaaDoor.Pure

/- Rows of glyphs, plainly. -/
namespace Go.Proofs.YtdjepocklmlnbaaDoor.Pure
open Go.RowKit Go.Proofs.YtdjepocklmlnbaaDoorW.PrintWords Go.Proofs.YtdjepocklmlnbaaDoorW.PrintLast Go.Proofs.YtdjepocklmlnbaaDoorW.PrintMore Go.Proofs.YtdjepocklmlnbaaDoor.X

abbrev Gl := S44
theorem rdG (l : List Gl) (i : Nat) (h : i < l.length) : rd_T44 l (i : Int) = l[i] := by
  simp [rd_T44, List.getD_eq_getElem?_getD, List.getElem?_eq_getElem h]
theorem gl_ext {a b : Gl} (h0 : a.f0 = b.f0) (h1 : a.f1 = b.f1) : a = b := by
  cases a
  cases b
  simp_all
instance : DecidableEq Gl := fun a b => if h : a.f0 = b.f0 ∧ a.f1 = b.f1 then .isTrue (gl_ext h.1 h.2) else .isFalse (fun e => h (by rw [e]; exact ⟨rfl, rfl⟩))
end Go.Proofs.YtdjepocklmlnbaaDoor.Pure

/- Runs: rows of glyphs set alike, one behind the other. What makes them such, and that nothing else does. -/
namespace Go.Proofs.YtdjepocklmlnbaaDoor.Pure
open Go.RowKit Go.Proofs.YtdjepocklmlnbaaDoorW.PrintWords Go.Proofs.YtdjepocklmlnbaaDoorW.PrintLast Go.Proofs.YtdjepocklmlnbaaDoorW.PrintMore Go.Proofs.YtdjepocklmlnbaaDoor.X Go.Proofs.YtdjepocklmlnbaaDoor.Hand
set_option linter.unusedSimpArgs false
set_option linter.unusedVariables false
/-- A row's first. -/
def hd (l : List Gl) : Gl := rd_T44 l 0
theorem hd_cons (g : Gl) (t : List Gl) : hd (g :: t) = g := by simp [hd, rd_T44]
theorem hd_eq {l : List Gl} (h : 0 < l.length) : hd l = l[0] := by
  cases l with
  | nil => simp at h
  | cons g t => rw [hd_cons]; rfl
structure IsRuns (rows : List (List Gl)) (l : List Gl) : Prop where
  flat : rows.flatten = l
  pos : ∀ r ∈ rows, 0 < r.length
  same : ∀ r ∈ rows, ∀ x ∈ r, x.f1 = (hd r).f1
  alt : ∀ (i : Nat) (h : i + 1 < rows.length), (hd rows[i + 1]).f1 ≠ (hd (rows[i]'(by omega))).f1
theorem IsRuns.tail {a : List Gl} {az : List (List Gl)} {l : List Gl} (h : IsRuns (a :: az) l) : IsRuns az az.flatten :=
  ⟨rfl, fun r hr => h.pos r (List.mem_cons_of_mem _ hr), fun r hr => h.same r (List.mem_cons_of_mem _ hr), fun i hi => by
    have := h.alt (i + 1) (by simp only [List.length_cons]; omega)
    simpa using this⟩
theorem runLen_same (l : List Gl) (j : Nat) (hj : j < runLen l) : (l[j]'(Nat.lt_of_lt_of_le hj (runLen_le l))).f1 = (hd l).f1 := by
  have hle := runLen_le l
  have hjl : j < l.length := by omega
  unfold runLen at hj
  cases hf : l.findIdx? (fun g => g.f1 != (rd_T44 l 0).f1) with
  | none =>
    have := List.findIdx?_eq_none_iff.1 hf l[j] (List.getElem_mem _)
    simpa [hd] using this
  | some i =>
    rw [hf] at hj
    obtain ⟨h1, h2, h3⟩ := List.findIdx?_eq_some_iff_getElem.1 hf
    have := h3 j (by simpa using hj)
    simpa [hd] using this
theorem runLen_next (l : List Gl) (h : runLen l < l.length) : (l[runLen l]).f1 ≠ (hd l).f1 := by
  cases hf : l.findIdx? (fun g => g.f1 != (rd_T44 l 0).f1) with
  | none =>
    exfalso
    unfold runLen at h
    rw [hf] at h
    simp at h
  | some i =>
    obtain ⟨h1, h2, h3⟩ := List.findIdx?_eq_some_iff_getElem.1 hf
    have e : runLen l = i := by unfold runLen; rw [hf]; rfl
    simp only [e]
    simpa [hd] using h2
theorem runs_are : ∀ (n : Nat) (l : List Gl), l.length ≤ n → IsRuns (runs l) l
  | 0, l, h => by
    obtain rfl := List.eq_nil_of_length_eq_zero (show l.length = 0 by omega)
    rw [runs_nil rfl]
    exact ⟨rfl, by simp, by simp, fun i hi => by simp at hi⟩
  | n + 1, l, h => by
    by_cases h0 : l.length = 0
    · obtain rfl := List.eq_nil_of_length_eq_zero h0
      rw [runs_nil rfl]
      exact ⟨rfl, by simp, by simp, fun i hi => by simp at hi⟩
    · have hp := runLen_pos (l := l) (by omega)
      have hle := runLen_le l
      have ih := runs_are n (l.drop (runLen l)) (by rw [List.length_drop]; omega)
      have ht : 0 < (l.take (runLen l)).length := by rw [List.length_take]; omega
      have hh : hd (l.take (runLen l)) = hd l := by
        rw [hd_eq ht, hd_eq (by omega), List.getElem_take]
      rw [runs_cons (by omega)]
      refine ⟨by rw [List.flatten_cons, ih.flat, List.take_append_drop], ?_, ?_, ?_⟩
      · intro r hr
        rcases List.mem_cons.1 hr with rfl | hr
        · exact ht
        · exact ih.pos r hr
      · intro r hr x hx
        rcases List.mem_cons.1 hr with rfl | hr
        · obtain ⟨j, hj, rfl⟩ := List.getElem_of_mem hx
          rw [hh, List.getElem_take]
          rw [List.length_take] at hj
          exact runLen_same l j (by omega)
        · exact ih.same r hr x hx
      · intro i hi
        cases i with
        | zero =>
          simp only [List.length_cons] at hi
          have h1 : 0 < (l.drop (runLen l)).length := by
            rcases Nat.eq_zero_or_pos (l.drop (runLen l)).length with e | e
            · rw [runs_nil e] at hi
              simp at hi
            · exact e
          have h2 : (runs (l.drop (runLen l)))[0]'(by omega) = (l.drop (runLen l)).take (runLen (l.drop (runLen l))) := by
            simp only [runs_cons h1]
            rfl
          have h3 : hd ((l.drop (runLen l)).take (runLen (l.drop (runLen l)))) = l[runLen l]'(by rw [List.length_drop] at h1; omega) := by
            have hp2 := runLen_pos h1
            rw [hd_eq (by rw [List.length_take]; omega), List.getElem_take, List.getElem_drop]
            simp
          show (hd ((runs (l.drop (runLen l)))[0]'(by omega))).f1 ≠ (hd (l.take (runLen l))).f1
          rw [h2, h3, hh]
          exact runLen_next l (by rw [List.length_drop] at h1; omega)
        | succ i =>
          simp only [List.length_cons] at hi
          have := ih.alt i (by omega)
          simpa using this
theorem runs_IsRuns (l : List Gl) : IsRuns (runs l) l := runs_are l.length l (Nat.le_refl _)
end Go.Proofs.YtdjepocklmlnbaaDoor.Pure

/- Runes and their bytes, as plain functions over whole numbers: what is written is read, and only what was written is read as anything. -/
namespace Go.Proofs.YtdjepocklmlnbaaDoor.Pure
open Go.Proofs.YtdjepocklmlnbaaDoor.Hand
set_option linter.unusedVariables false
set_option linter.unusedSimpArgs false

/-- The bytes of a rune that may be. -/
def enc (r : Int) : List Int :=
  if r < 128 then [r] else if r < 2048 then [192 + r / 64, 128 + r % 64] else if r < 65536 then [224 + r / 4096, 128 + r / 64 % 64, 128 + r % 64]
  else [240 + r / 262144, 128 + r / 4096 % 64, 128 + r / 64 % 64, 128 + r % 64]
/-- The bytes of any rune. -/
def one (r : Int) : List Int := enc (if validB r = true then r else 65533)
def encode (l : List Int) : List Int := l.flatMap one
/-- All of them bytes. -/
def Bytes (l : List Int) : Prop := ∀ x ∈ l, 0 ≤ x ∧ x ≤ 255

theorem validB_iff' (a : Int) : validB a = true ↔ 0 ≤ a ∧ a ≤ 1114111 ∧ (a < 55296 ∨ 57343 < a) := by
  simp [validB]
theorem valid_odd : validB 65533 = true := by decide +kernel
theorem enc_len (r : Int) : 1 ≤ (enc r).length ∧ (enc r).length ≤ 4 := by
  unfold enc
  split
  · simp
  · split
    · simp
    · split <;> simp
theorem enc_bytes {r : Int} (h : validB r = true) : Bytes (enc r) := by
  have h' := (validB_iff' r).1 h
  unfold enc Bytes
  split
  · simp; omega
  · split
    · simp; omega
    · split <;> (simp; omega)
theorem bytes_drop {l : List Int} (h : Bytes l) (n : Nat) : Bytes (l.drop n) := fun x hx => h x (List.mem_of_mem_drop hx)
theorem one_valid {r : Int} (h : validB r = true) : one r = enc r := by simp [one, h]
theorem one_bytes (r : Int) : Bytes (one r) := by
  unfold one
  split
  · rename_i h; exact enc_bytes h
  · exact enc_bytes valid_odd
theorem one_len (r : Int) : 1 ≤ (one r).length ∧ (one r).length ≤ 4 := enc_len _
theorem bytes_append {a b : List Int} (ha : Bytes a) (hb : Bytes b) : Bytes (a ++ b) := fun x hx => by
  rcases List.mem_append.1 hx with h | h
  · exact ha x h
  · exact hb x h
theorem encode_bytes (l : List Int) : Bytes (encode l) := fun x hx => by
  obtain ⟨r, _, h⟩ := List.mem_flatMap.1 hx
  exact one_bytes r x h
theorem encode_nil : encode [] = [] := rfl
theorem encode_cons (r : Int) (l : List Int) : encode (r :: l) = one r ++ encode l := by simp [encode]
theorem encode_append (a b : List Int) : encode (a ++ b) = encode a ++ encode b := by simp [encode]
theorem encode_length (l : List Int) : (encode l).length ≤ 4 * l.length := by
  induction l with
  | nil => simp [encode_nil]
  | cons r l ih =>
    have := one_len r
    rw [encode_cons, List.length_append, List.length_cons]
    omega

end Go.Proofs.YtdjepocklmlnbaaDoor.Pure

/- A sign wherever the setting changes is a sign ahead of each run and one behind it. -/
namespace Go.Proofs.YtdjepocklmlnbaaDoor.Pure
open Go Go.RowKit Go.Proofs.YtdjepocklmlnbaaDoorW.PrintWords Go.Proofs.YtdjepocklmlnbaaDoorW.PrintLast Go.Proofs.YtdjepocklmlnbaaDoorW.PrintMore Go.Proofs.YtdjepocklmlnbaaDoor.X Go.Proofs.YtdjepocklmlnbaaDoor.Hand
set_option linter.unusedSimpArgs false
set_option linter.unusedVariables false
/-- A sign's bytes. -/
def sgL (s : Int) : List Int := bytesOf (signS (s % 4).toNat)
/-- The document's way: glyph by glyph, was: how the last one is set. -/
def refGo : List Gl → Int → List Int
  | [], was => if was = 0 then [] else sgL 0
  | g :: t, was => (if g.f1 = was then [] else (if was = 0 then [] else sgL 0) ++ (if g.f1 = 0 then [] else sgL g.f1)) ++ (encode [g.f0] ++ refGo t g.f1)
/-- The package's way: run by run. -/
def runB (y : List Gl) : List Int := if (hd y).f1 = 0 then encode (y.map (·.f0)) else (sgL (hd y).f1 ++ encode (y.map (·.f0))) ++ sgL 0
def outB (rs : List (List Gl)) : List Int := (rs.map runB).flatten
theorem go_same : ∀ (y t : List Gl) (s : Int), (∀ g ∈ y, g.f1 = s) → refGo (y ++ t) s = encode (y.map (·.f0)) ++ refGo t s
  | [], t, s, _ => by simp [encode_nil]
  | g :: y, t, s, h => by
    have hg := h g (by simp)
    rw [List.cons_append, refGo, if_pos hg, hg, go_same y t s (fun x hx => h x (by simp [hx])), List.nil_append, List.map_cons, encode_cons, encode_cons, encode_nil, List.append_nil, List.append_assoc]
theorem go_next (t : List Gl) (s : Int) (h : t = [] ∨ (hd t).f1 ≠ s) : refGo t s = (if s = 0 then [] else sgL 0) ++ refGo t 0 := by
  cases t with
  | nil => simp [refGo]
  | cons g t =>
    have hs : g.f1 ≠ s := by
      rcases h with h | h
      · cases h
      · rwa [hd_cons] at h
    rw [refGo, if_neg hs, refGo]
    by_cases h0 : g.f1 = 0
    · rw [if_pos h0, if_pos h0, List.append_nil, List.nil_append]
    · rw [if_neg h0, if_neg h0, if_pos rfl, List.nil_append, List.append_assoc]
theorem outB_eq : ∀ (rs : List (List Gl)) (l : List Gl), IsRuns rs l → outB rs = refGo l 0
  | [], l, h => by
    have := h.flat
    rw [← this]
    rfl
  | y :: rs, l, h => by
    have hf := h.flat
    rw [List.flatten_cons] at hf
    have hp := h.pos y (by simp)
    have hsame := h.same y (by simp)
    have ih := outB_eq rs rs.flatten h.tail
    have hnext : rs.flatten = [] ∨ (hd rs.flatten).f1 ≠ (hd y).f1 := by
      cases rs with
      | nil => exact .inl rfl
      | cons y2 rs =>
        right
        have ha := h.alt 0 (by simp)
        have hp2 := h.pos y2 (by simp)
        simp only [List.getElem_cons_succ, List.getElem_cons_zero] at ha
        have e : hd (y2 :: rs).flatten = hd y2 := by
          cases y2 with
          | nil => simp at hp2
          | cons g t => rw [List.flatten_cons, List.cons_append, hd_cons, hd_cons]
        rwa [e]
    have e1 : outB (y :: rs) = runB y ++ outB rs := by simp [outB]
    rw [e1, ih, ← hf]
    obtain ⟨g, t, rfl⟩ : ∃ g t, y = g :: t := by
      cases y with
      | nil => simp at hp
      | cons g t => exact ⟨g, t, rfl⟩
    rw [hd_cons] at hsame hnext
    rw [List.cons_append, refGo, go_same t rs.flatten g.f1 (fun x hx => hsame x (by simp [hx])), go_next rs.flatten g.f1 hnext]
    unfold runB
    rw [hd_cons, List.map_cons, encode_cons, encode_cons, encode_nil, List.append_nil]
    by_cases h0 : g.f1 = 0
    · rw [if_pos h0, if_pos h0, if_pos h0, List.nil_append, List.nil_append, List.append_assoc]
    · rw [if_neg h0, if_neg h0, if_neg h0, if_neg h0, if_pos rfl, List.nil_append]
      simp only [List.append_assoc]
end Go.Proofs.YtdjepocklmlnbaaDoor.Pure

/- What package runes computes of one rune: its printed functions answer by plain functions. -/
namespace Go.Proofs.YtdjepocklmlnbaaDoor.Pure
open Go.RowKit Go.Proofs.YtdjepocklmlnbaaDoorW.PrintWords Go.Proofs.YtdjepocklmlnbaaDoorW.PrintLast Go.Proofs.YtdjepocklmlnbaaDoorW.PrintMore Go.Proofs.YtdjepocklmlnbaaDoor.X Go.Proofs.YtdjepocklmlnbaaDoor.Hand
set_option linter.unusedSimpArgs false

theorem valid_eq (a : Int) : runes_Valid.f a = some (validB a) := by
  unfold runes_Valid.f
  by_cases h1 : a ≥ 0 <;> by_cases h2 : a ≤ 1114111 <;> by_cases h3 : a < 55296 <;> simp only [h1, h2, h3, if_true, if_false] <;> congr 1 <;> (rw [Bool.eq_iff_iff]; simp [validB]; omega)

theorem validB_iff (a : Int) : validB a = true ↔ 0 ≤ a ∧ a ≤ 1114111 ∧ (a < 55296 ∨ 57343 < a) := by
  simp [validB]
theorem controlB_iff (a : Int) : controlB a = true ↔ (0 ≤ a ∧ a < 32) ∨ (127 ≤ a ∧ a ≤ 159) ∨ a = 8232 ∨ a = 8233 := by
  simp [controlB]

theorem control_ev (a : Int) : Ev (fun k => runes_Control.f k a) (controlB a) := by
  have j1 : ∀ x : Bool, Ev (fun k => runes_Control.j1 k a x) (x || (decide (a = 8232) || decide (a = 8233))) := by
    intro x
    refine Ev.step (f := fun _ => if x = true then some true else if a = 8232 then some true else if a = 8233 then some true else some false) (fun k => by simp only [runes_Control.j1]) ?_
    refine ev_one ?_
    cases x <;> simp
    split <;> simp_all
    split <;> simp_all
  have j0 : ∀ x : Bool, Ev (fun k => runes_Control.j0 k a x) (x || ((decide (127 ≤ a) && decide (a ≤ 159)) || (decide (a = 8232) || decide (a = 8233)))) := by
    intro x
    refine Ev.step (f := fun k => if x = true then runes_Control.j1 k a x else if a ≥ 127 then runes_Control.j1 k a (decide (a ≤ 159)) else runes_Control.j1 k a false) (fun k => by simp only [runes_Control.j0]) ?_
    refine ev_ite (fun h => ev_eq (j1 _) (by simp [h])) (fun h => ev_ite (fun h2 => ev_eq (j1 _) (by simp_all <;> omega)) (fun h2 => ev_eq (j1 _) (by simp_all <;> omega)))
  unfold runes_Control.f
  exact ev_ite (fun h => ev_eq (j0 _) (by simp_all [controlB] <;> omega)) (fun h => ev_eq (j0 _) (by simp_all [controlB] <;> omega))

/-- What may be written in a rune's place. -/
def safe (a : Int) : Int := if validB a = true ∧ controlB a = false then a else 65533
theorem safe_ev (a : Int) : Ev (fun k => runes_Safe.f k a) (safe a) := by
  unfold runes_Safe.f
  refine ev_bind1 (valid_eq a) ?_
  refine ev_ite (fun h => ?_) (fun h => ev_eq (Ev.now _) (by simp_all [safe]))
  refine Ev.bind (control_ev a) ?_
  refine ev_ite (fun h2 => ev_eq (Ev.now _) (by simp_all [safe])) (fun h2 => ev_eq (Ev.now _) (by simp_all [safe]))

theorem safe_valid (a : Int) : validB (safe a) = true := by
  unfold safe
  split
  · rename_i h
    exact h.1
  · decide +kernel
theorem safe_control (a : Int) : controlB (safe a) = false := by
  unfold safe
  split
  · rename_i h
    exact h.2
  · decide +kernel
theorem safe_safe (a : Int) : safe (safe a) = safe a := by
  have h1 := safe_valid a
  have h2 := safe_control a
  generalize safe a = b at h1 h2
  simp [safe, h1, h2]
end Go.Proofs.YtdjepocklmlnbaaDoor.Pure

/- What may be written of a row. -/
namespace Go.Proofs.YtdjepocklmlnbaaDoor.Pure
open Go.RowKit Go.Proofs.YtdjepocklmlnbaaDoorW.PrintWords Go.Proofs.YtdjepocklmlnbaaDoorW.PrintLast Go.Proofs.YtdjepocklmlnbaaDoorW.PrintMore Go.Proofs.YtdjepocklmlnbaaDoor.X Go.Proofs.YtdjepocklmlnbaaDoor.Hand
set_option linter.unusedSimpArgs false
set_option linter.unusedVariables false
/-- One glyph, as it may be written. -/
def cleanG (g : Gl) : Gl := ⟨safe (if g.f0 = 160 then 32 else g.f0), Go.bits .and .u8 g.f1 3⟩
def clean (l : List Gl) : List Gl := (l.map cleanG).dropWhile (fun g => !decide (wid g.f0 > 0))
theorem clean_ev (l : List Gl) (h : l.length < 17592186044416) : Ev (fun k => cells_Clean.f k l) (clean l) := by
  unfold cells_Clean.f
  refine ev_eq (loop_up (fun k o i => cells_Clean.l0 k o l (l.length : Int) i) l.length (fun o i => if o = [] then clean (l.drop i) else o ++ (l.drop i).map cleanG) (fun o i => o.length ≤ i) ?_ ?_ [] 0 (by omega) (by simp)) (by simp)
  · intro o _
    refine Ev.step (f := fun _ => some o) (fun k => by simp only [cells_Clean.l0]; rw [if_neg (by omega)]) (ev_eq (Ev.now _) ?_)
    rw [List.drop_length]
    split
    · rename_i e
      rw [e]
      rfl
    · simp
  · intro o i hi ho ih
    have hj : ∀ x : Int, (if l[i].f0 = 160 then 32 else l[i].f0) = x → Ev (fun k => cells_Clean.j1 k o l (l.length : Int) (i : Int) x l[i].f1) (if o = [] then clean (l.drop i) else o ++ (l.drop i).map cleanG) := by
      intro x hx
      have hg : cleanG l[i] = ⟨safe x, Go.bits .and .u8 l[i].f1 3⟩ := by rw [cleanG, hx]
      refine Ev.step (f := fun k => (runes_Safe.f k x).bind fun t => (if (o.length : Int) > 0 then (cells_Clean.l0 k (o ++ [(⟨t, Go.bits .and .u8 l[i].f1 3⟩ : Gl)]) l (l.length : Int) ((i + 1 : Nat) : Int)) else (if wid t > 0 then (cells_Clean.l0 k (o ++ [(⟨t, Go.bits .and .u8 l[i].f1 3⟩ : Gl)]) l (l.length : Int) ((i + 1 : Nat) : Int)) else (cells_Clean.l0 k o l (l.length : Int) ((i + 1 : Nat) : Int))))) (fun k => ?_) ?_
      · simp only [cells_Clean.j1]
        rw [wrap_up hi (by omega)]
        congr 1
        funext t
        rw [show runes_Width.f t = some (wid t) from rfl, Option.bind_some, if_pos (show o.length < 17592186044416 by omega)]
      · refine Ev.bind (safe_ev x) ?_
        rw [← hg]
        have h1 : Ev (fun k => cells_Clean.l0 k (o ++ [cleanG l[i]]) l (l.length : Int) ((i + 1 : Nat) : Int)) (o ++ cleanG l[i] :: (l.drop (i + 1)).map cleanG) := by
          refine ev_eq (ih (o ++ [cleanG l[i]]) (by simp; omega)) ?_
          rw [if_neg (by simp), List.append_assoc]
          rfl
        refine ev_ite (fun hc => ev_eq h1 ?_) (fun hc => ?_)
        · rw [if_neg (by intro e; rw [e] at hc; simp at hc), List.drop_eq_getElem_cons hi, List.map_cons]
        · obtain rfl : o = [] := by
            rcases o with _ | ⟨_, _⟩
            · rfl
            · exfalso
              apply hc
              simp only [List.length_cons]
              omega
          rw [if_pos rfl]
          have hw : wid (safe x) = wid (cleanG l[i]).f0 := by rw [hg]
          rw [hw]
          refine ev_ite (fun hp => ev_eq h1 ?_) (fun hp => ev_eq (ih [] (by simp)) ?_)
          · rw [List.drop_eq_getElem_cons hi, clean, List.map_cons, List.dropWhile_cons, if_neg (by simp [hp])]
            rfl
          · rw [if_pos rfl, List.drop_eq_getElem_cons hi, clean, clean, List.map_cons, List.dropWhile_cons, if_pos (by simp [hp])]
    refine Ev.step (f := fun k => if l[i].f0 = 160 then cells_Clean.j1 k o l (l.length : Int) (i : Int) 32 l[i].f1 else cells_Clean.j1 k o l (l.length : Int) (i : Int) l[i].f0 l[i].f1) (fun k => ?_) ?_
    · simp only [cells_Clean.l0]
      rw [if_pos (by omega), if_pos (by omega), if_pos (by omega), rdG l i hi]
    · exact ev_ite (fun hc => hj 32 (if_pos hc)) (fun hc => hj _ (if_neg hc))
end Go.Proofs.YtdjepocklmlnbaaDoor.Pure

/- What may be written: plainly. -/
namespace Go.Proofs.YtdjepocklmlnbaaDoor.Pure
open Go.RowKit Go.Proofs.YtdjepocklmlnbaaDoorW.PrintWords Go.Proofs.YtdjepocklmlnbaaDoorW.PrintLast Go.Proofs.YtdjepocklmlnbaaDoorW.PrintMore Go.Proofs.YtdjepocklmlnbaaDoor.X Go.Proofs.YtdjepocklmlnbaaDoor.Hand
set_option linter.unusedSimpArgs false
set_option linter.unusedVariables false
theorem safe_160 {x : Int} (h : x ≠ 160) : safe x ≠ 160 := by
  unfold safe
  split
  · exact h
  · decide
theorem and3 {x : Int} (h : 0 ≤ x ∧ x ≤ 255) : 0 ≤ Go.bits .and .u8 x 3 ∧ Go.bits .and .u8 x 3 ≤ 3 ∧ Go.bits .and .u8 (Go.bits .and .u8 x 3) 3 = Go.bits .and .u8 x 3 := by
  have h1 : ∀ n : Nat, n < 256 → 0 ≤ Go.bits .and .u8 (n : Int) 3 ∧ Go.bits .and .u8 (n : Int) 3 ≤ 3 ∧ Go.bits .and .u8 (Go.bits .and .u8 (n : Int) 3) 3 = Go.bits .and .u8 (n : Int) 3 := by decide +kernel
  obtain ⟨n, rfl⟩ := Int.eq_ofNat_of_zero_le h.1
  exact h1 n (by omega)
/-- Cleaned: what it is. -/
def Cl (g : Gl) : Prop := safe g.f0 = g.f0 ∧ g.f0 ≠ 160 ∧ 0 ≤ g.f1 ∧ g.f1 ≤ 3 ∧ Go.bits .and .u8 g.f1 3 = g.f1
theorem cleanG_Cl (g : Gl) (h : 0 ≤ g.f1 ∧ g.f1 ≤ 255) : Cl (cleanG g) := by
  have h3 := and3 h
  refine ⟨safe_safe _, safe_160 ?_, h3.1, h3.2.1, h3.2.2⟩
  split
  · decide
  · assumption
theorem clean_Cl (l : List Gl) (h : ∀ g ∈ l, 0 ≤ g.f1 ∧ g.f1 ≤ 255) : ∀ g ∈ clean l, Cl g := by
  intro g hg
  have := (List.dropWhile_sublist _).subset hg
  obtain ⟨x, hx, rfl⟩ := List.mem_map.1 this
  exact cleanG_Cl x (h x hx)
theorem clean_length (l : List Gl) : (clean l).length ≤ l.length := by
  have := (List.dropWhile_sublist (fun g : Gl => !decide (wid g.f0 > 0)) (l := l.map cleanG)).length_le
  simpa [clean] using this
end Go.Proofs.YtdjepocklmlnbaaDoor.Pure

/- A row trimmed. -/
namespace Go.Proofs.YtdjepocklmlnbaaDoor.Pure
open Go.RowKit Go.Proofs.YtdjepocklmlnbaaDoorW.PrintWords Go.Proofs.YtdjepocklmlnbaaDoorW.PrintLast Go.Proofs.YtdjepocklmlnbaaDoorW.PrintMore Go.Proofs.YtdjepocklmlnbaaDoor.X Go.Proofs.YtdjepocklmlnbaaDoor.Hand
set_option linter.unusedSimpArgs false
set_option linter.unusedVariables false
theorem clone_eq {l : List Gl} (h : l.length < 17592186044416) : clone_G.f l = some l := by
  unfold clone_G.f
  rw [if_pos h]
/-- So many are left of a row trimmed. -/
structure IsTrim (l : List Gl) (m : Nat) : Prop where
  le : m ≤ l.length
  last : ∀ g : Gl, 0 < m → l[m - 1]? = some g → g.f0 ≠ 32
  rest : ∀ (i : Nat) (g : Gl), m ≤ i → l[i]? = some g → g.f0 = 32
theorem exists_trim (l : List Gl) : ∃ m, IsTrim l m := by
  have h : ∀ n, n ≤ l.length → ∃ m, m ≤ n ∧ (∀ g : Gl, 0 < m → l[m - 1]? = some g → g.f0 ≠ 32) ∧ ∀ (i : Nat) (g : Gl), m ≤ i → i < n → l[i]? = some g → g.f0 = 32 := by
    intro n
    induction n with
    | zero => exact fun _ => ⟨0, Nat.le_refl _, fun g h => absurd h (by omega), fun i g _ h => absurd h (by omega)⟩
    | succ n ih =>
      intro hn
      by_cases hc : (l[n]'(by omega)).f0 = 32
      · obtain ⟨m, h1, h2, h3⟩ := ih (by omega)
        refine ⟨m, by omega, h2, fun i g hi hlt hg => ?_⟩
        by_cases e : i = n
        · subst e
          rw [List.getElem?_eq_getElem (by omega)] at hg
          obtain rfl := Option.some.inj hg
          exact hc
        · exact h3 i g hi (by omega) hg
      · refine ⟨n + 1, Nat.le_refl _, fun g _ hg => ?_, fun i g hi hlt => by omega⟩
        rw [Nat.add_sub_cancel, List.getElem?_eq_getElem (by omega)] at hg
        obtain rfl := Option.some.inj hg
        exact hc
  obtain ⟨m, h1, h2, h3⟩ := h l.length (Nat.le_refl _)
  exact ⟨m, h1, h2, fun i g hi hg => h3 i g hi (List.getElem?_eq_some_iff.1 hg).1 hg⟩
theorem trim_ev {l : List Gl} {m : Nat} (hm : IsTrim l m) (h : l.length < 17592186044416) : Ev (fun k => cells_Trim.f k l) (l.take m) := by
  have hle := hm.le
  have hend : (if 0 ≤ (m : Int) then (if (m : Int) ≤ (l.length : Int) then ((clone_G.f (l.take (m : Int).toNat)).bind fun t286 => (some t286)) else (none)) else (none)) = some (l.take m) := by
    rw [if_pos (by omega), if_pos (by omega), Int.toNat_natCast, clone_eq (by rw [List.length_take]; omega), Option.bind_some]
  have key : ∀ d n, n - m = d → m ≤ n → n ≤ l.length → Ev (fun k => cells_Trim.l0 k l (n : Int)) (l.take m) := by
    intro d
    induction d with
    | zero =>
      intro n hd h1 h2
      obtain rfl : n = m := by omega
      refine Ev.step (f := fun _ => some (l.take n)) (fun k => ?_) (Ev.now _)
      simp only [cells_Trim.l0]
      by_cases hp : 0 < n
      · have hg := hm.last l[n - 1] hp (List.getElem?_eq_getElem (by omega))
        rw [if_pos (by omega), wrap_of (by omega) (by omega), show (n : Int) - 1 = ((n - 1 : Nat) : Int) by omega, if_pos (by omega), if_pos (by omega), rdG l (n - 1) (by omega), if_neg hg, hend]
      · rw [if_neg (by omega), hend]
    | succ d ih =>
      intro n hd h1 h2
      have hg := hm.rest (n - 1) (l[n - 1]'(by omega)) (by omega) (List.getElem?_eq_getElem (by omega))
      refine Ev.step (f := fun k => cells_Trim.l0 k l ((n - 1 : Nat) : Int)) (fun k => ?_) (ih (n - 1) (by omega) (by omega) (by omega))
      simp only [cells_Trim.l0]
      rw [if_pos (by omega), wrap_of (by omega) (by omega), show (n : Int) - 1 = ((n - 1 : Nat) : Int) by omega, if_pos (by omega), if_pos (by omega), rdG l (n - 1) (by omega), if_pos hg]
  unfold cells_Trim.f
  exact key (l.length - m) l.length rfl hle (Nat.le_refl _)
end Go.Proofs.YtdjepocklmlnbaaDoor.Pure

/- A row made normal, and erased: package plain's and the reference's. -/
namespace Go.Proofs.YtdjepocklmlnbaaDoor.Pure
open Go.RowKit Go.Proofs.YtdjepocklmlnbaaDoorW.PrintWords Go.Proofs.YtdjepocklmlnbaaDoorW.PrintLast Go.Proofs.YtdjepocklmlnbaaDoorW.PrintMore Go.Proofs.YtdjepocklmlnbaaDoor.X Go.Proofs.YtdjepocklmlnbaaDoor.Hand
set_option linter.unusedSimpArgs false
set_option linter.unusedVariables false
/-- How a glyph is set, behind one that is set as p (none: first). -/
def setOf (p : Option Int) (g : Gl) : Int := if g.f0 = 32 then 0 else match p with | some s => if wid g.f0 = 0 then s else g.f1 | none => g.f1
def normGo : Option Int → List Gl → List Gl
  | _, [] => []
  | p, g :: t => ⟨g.f0, setOf p g⟩ :: normGo (some (setOf p g)) t
def erase (l : List Gl) : List Gl := l.map (fun g => ⟨g.f0, 0⟩)
/-- How the last is set. -/
def lastS (o : List Gl) : Option Int := o.getLast?.map (·.f1)
theorem lastS_snoc (o : List Gl) (g : Gl) : lastS (o ++ [g]) = some g.f1 := by simp [lastS]
theorem normGo_length : ∀ (l : List Gl) (p : Option Int), (normGo p l).length = l.length
  | [], _ => rfl
  | g :: t, p => by rw [normGo, List.length_cons, normGo_length t, List.length_cons]
theorem normGo_runes : ∀ (l : List Gl) (p : Option Int), (normGo p l).map (·.f0) = l.map (·.f0)
  | [], _ => rfl
  | g :: t, p => by rw [normGo, List.map_cons, normGo_runes t, List.map_cons]
theorem set_mid (o : List Gl) (g x : Gl) (t : List Gl) : (o ++ g :: t).set o.length x = (o ++ [x]) ++ t := by
  rw [List.set_append_right _ _ (Nat.le_refl _), Nat.sub_self, List.set_cons_zero, List.append_assoc]
  rfl
theorem rd_mid (o : List Gl) (g : Gl) (t : List Gl) : rd_T44 (o ++ g :: t) (o.length : Int) = g := by
  rw [rdG _ _ (by rw [List.length_append, List.length_cons]; omega)]
  simp
theorem rd_before (o : List Gl) (y g : Gl) (t : List Gl) : rd_T44 ((o ++ [y]) ++ g :: t) (((o ++ [y]).length - 1 : Nat) : Int) = y := by
  have e : (o ++ [y]).length - 1 = o.length := by simp
  rw [e, rdG _ _ (by rw [List.length_append, List.length_append, List.length_singleton, List.length_cons]; omega)]
  simp
theorem normal_ev (l : List Gl) {m : Nat} (hm : IsTrim (clean l) m) (h : l.length ≤ 1000000) : Ev (fun k => plain_Normal.f k l) (normGo none ((clean l).take m)) := by
  have hcl := clean_length l
  unfold plain_Normal.f
  refine Ev.bind (clean_ev l (by omega)) (Ev.bind (trim_ev hm (by omega)) ?_)
  have hlen : ((clean l).take m).length ≤ 1000000 := by rw [List.length_take]; omega
  generalize (clean l).take m = c at hlen
  refine ev_eq (loop_up (fun k o i => plain_Normal.l0 k (o ++ c.drop o.length) (c.length : Int) i) c.length (fun o i => o ++ normGo (lastS o) (c.drop i)) (fun o i => o.length = i) ?_ ?_ [] 0 (by omega) rfl) (by simp [lastS])
  · intro o ho
    refine Ev.step (f := fun _ => some (o ++ c.drop o.length)) (fun k => by simp only [plain_Normal.l0]; rw [if_neg (by omega)]) (ev_eq (Ev.now _) ?_)
    rw [ho, List.drop_length, normGo]
  · intro o i hi ho ih
    subst ho
    obtain ⟨g, t, hgt⟩ : ∃ g t, c.drop o.length = g :: t := ⟨c[o.length], c.drop (o.length + 1), List.drop_eq_getElem_cons hi⟩
    have ht : c.drop (o.length + 1) = t := by
      have := List.drop_eq_getElem_cons hi
      rw [hgt] at this
      injection this with _ h2
      exact h2.symm
    have hxl : (o ++ g :: t).length = c.length := by
      have := congrArg List.length hgt
      rw [List.length_drop] at this
      rw [List.length_append, ← this]
      omega
    have hnext : ∀ x : Gl, x = ⟨g.f0, setOf (lastS o) g⟩ → Ev (fun k => plain_Normal.l0 k ((o ++ [x]) ++ t) (c.length : Int) ((o.length + 1 : Nat) : Int)) (o ++ normGo (lastS o) (g :: t)) := by
      intro x hx
      have h1 := ih (o ++ [x]) (by simp)
      rw [show (o ++ [x]).length = o.length + 1 by simp, ht] at h1
      refine ev_eq h1 ?_
      rw [lastS_snoc, normGo, hx, List.append_assoc]
      rfl
    have hsame : ∀ x : Gl, x = g → (o ++ [x]) ++ t = o ++ g :: t := by
      intro x hx
      rw [hx, List.append_assoc]
      rfl
    rw [hgt]
    by_cases h32 : g.f0 = 32
    · refine Ev.step (f := fun k => plain_Normal.l0 k ((o ++ [⟨g.f0, 0⟩]) ++ t) (c.length : Int) ((o.length + 1 : Nat) : Int)) (fun k => ?_) (hnext ⟨g.f0, 0⟩ (by simp [setOf, h32]))
      simp only [plain_Normal.l0]
      rw [if_pos (by omega), if_pos (by omega), if_pos (by omega), rd_mid, if_pos h32, Int.toNat_natCast, set_mid, wrap_up hi (by omega)]
    · rcases List.eq_nil_or_concat o with ho | ⟨o', y, ho⟩
      · have hn := hnext g (gl_ext rfl (by simp [setOf, h32, ho, lastS]))
        rw [hsame g rfl] at hn
        refine Ev.step (f := fun k => plain_Normal.l0 k (o ++ g :: t) (c.length : Int) ((o.length + 1 : Nat) : Int)) (fun k => ?_) hn
        have h0 : o.length = 0 := by rw [ho]; rfl
        simp only [plain_Normal.l0]
        rw [if_pos (by omega), if_pos (by omega), if_pos (by omega), rd_mid, if_neg h32, if_neg (by omega), wrap_up hi (by omega)]
      · rw [List.concat_eq_append] at ho
        have hol : o.length = o'.length + 1 := by rw [ho]; simp
        have hls : lastS o = some y.f1 := by rw [ho, lastS_snoc]
        have hprev : rd_T44 (o ++ g :: t) ((o.length - 1 : Nat) : Int) = y := by
          rw [ho]
          exact rd_before o' y g t
        by_cases hz : wid g.f0 = 0
        · refine Ev.step (fun k => ?_) (hnext ⟨g.f0, y.f1⟩ (by simp [setOf, h32, hls, hz]))
          simp only [plain_Normal.l0]
          rw [if_pos (by omega), if_pos (by omega), if_pos (by omega), rd_mid, if_neg h32, if_pos (by omega), show runes_Width.f g.f0 = some (wid g.f0) from rfl, Option.bind_some, if_pos hz, wrap_of (x := (o.length : Int) - 1) (by omega) (by omega), show (o.length : Int) - 1 = ((o.length - 1 : Nat) : Int) by omega, if_pos (by omega), if_pos (by omega), hprev, Int.toNat_natCast, set_mid, wrap_up hi (by omega)]
        · have hn := hnext g (gl_ext rfl (by simp [setOf, h32, hls, hz]))
          rw [hsame g rfl] at hn
          refine Ev.step (fun k => ?_) hn
          simp only [plain_Normal.l0]
          rw [if_pos (by omega), if_pos (by omega), if_pos (by omega), rd_mid, if_neg h32, if_pos (by omega), show runes_Width.f g.f0 = some (wid g.f0) from rfl, Option.bind_some, if_neg hz, wrap_up hi (by omega)]
end Go.Proofs.YtdjepocklmlnbaaDoor.Pure

/- Rows as they may be written. -/
namespace Go.Proofs.YtdjepocklmlnbaaDoor.Pure
open Go.RowKit Go.Proofs.YtdjepocklmlnbaaDoorW.PrintWords Go.Proofs.YtdjepocklmlnbaaDoorW.PrintLast Go.Proofs.YtdjepocklmlnbaaDoorW.PrintMore Go.Proofs.YtdjepocklmlnbaaDoor.X Go.Proofs.YtdjepocklmlnbaaDoor.Hand
set_option linter.unusedSimpArgs false
set_option linter.unusedVariables false
/-- A row, normal. -/
noncomputable def nrm (l : List Gl) : List Gl := normGo none ((clean l).take (exists_trim (clean l)).choose)
theorem nrm_length (l : List Gl) : (nrm l).length ≤ l.length := by
  have := clean_length l
  unfold nrm
  rw [normGo_length, List.length_take]
  omega
end Go.Proofs.YtdjepocklmlnbaaDoor.Pure

/- A list of numbers, read at a place. -/
namespace Go.Proofs.YtdjepocklmlnbaaDoor.Pure
open Go.RowKit Go.Proofs.YtdjepocklmlnbaaDoorW.PrintWords Go.Proofs.YtdjepocklmlnbaaDoorW.PrintLast Go.Proofs.YtdjepocklmlnbaaDoorW.PrintMore
set_option linter.unusedSimpArgs false
set_option linter.unusedVariables false
theorem rd_nat (l : List Int) (i : Nat) (h : i < l.length) : rd l (i : Int) = l[i] := by
  simp [rd, List.getD_eq_getElem?_getD, List.getElem?_eq_getElem h]
end Go.Proofs.YtdjepocklmlnbaaDoor.Pure

/- What package runes computes of bytes and of rows: its printed functions answer by plain functions. -/
namespace Go.Proofs.YtdjepocklmlnbaaDoor.Pure
open Go.RowKit Go.Proofs.YtdjepocklmlnbaaDoorW.PrintWords Go.Proofs.YtdjepocklmlnbaaDoorW.PrintLast Go.Proofs.YtdjepocklmlnbaaDoorW.PrintMore Go.Proofs.YtdjepocklmlnbaaDoor.X Go.Proofs.YtdjepocklmlnbaaDoor.Hand
set_option linter.unusedSimpArgs false
set_option linter.unusedVariables false

theorem size_eq (a : Int) : runes_size.f a = some (if a < 128 then 1 else if a < 2048 then 2 else if a < 65536 then 3 else 4) := by
  unfold runes_size.f
  repeat' split
  all_goals rfl
theorem i32_and63 {x : Int} (h₀ : 0 ≤ x) (h₁ : x < 2147483648) : Go.bits .and .i32 x 63 = x % 64 := bits_mask .i32 31 (by decide) wraps_i32 6 (by decide) x h₀ h₁
theorem step_one (x : Int) (n : Int) (b : List Int) (i : Nat) (hx : 0 ≤ x) (hx1 : x < 2147483648) (hi : 0 < i) (hib : i < b.length) (hb : b.length ≤ 4) (r : List Int)
    (k : Ev (fun k => runes_one.l0 k (x / 64) n (b.set i (128 + x % 64)) ((i : Int) - 1)) r) : Ev (fun k => runes_one.l0 k x n b (i : Int)) r := by
  refine Ev.step (f := fun k => runes_one.l0 k (x / 64) n (b.set i (128 + x % 64)) ((i : Int) - 1)) (fun k => ?_) k
  simp only [runes_one.l0]
  rw [if_pos (by omega), if_pos (by omega), if_pos (by omega), i32_and63 hx hx1, show (x % 64) % 256 = x % 64 from by omega, u8_or128 (x % 64) (by omega) (by omega), wrap_of (x := (i : Int) - 1) (by omega) (by omega), Int.toNat_natCast]
theorem last_one (x : Int) (n : Int) (b : List Int) (h : Int) (hn : 0 ≤ n) (hb : 0 < b.length) (hv : Go.bits .or .u8 ((shr .i64 3840 n) % 256) (x % 256) = h) : Ev (fun k => runes_one.l0 k x n b 0) (b.set 0 h) := by
  refine Ev.step (f := fun _ => some (b.set 0 h)) (fun k => ?_) (Ev.now _)
  simp only [runes_one.l0]
  rw [if_neg (by omega), if_pos hn, if_pos (by omega), hv]
  rfl
theorem one_j {x : Int} (h : validB x = true) : Ev (fun k => runes_one.j0 k x) (enc x) := by
  have h' := (validB_iff x).1 h
  refine Ev.step (f := fun k => (runes_size.f x).bind fun t => if t = 1 then some [x % 256] else if 0 ≤ t then (if (t : Int).toNat ≤ 281474976710656 then runes_one.l0 k x t (List.replicate (t : Int).toNat 0) (wrap64 (t - 1)) else none) else none) (fun k => by simp only [runes_one.j0]) ?_
  refine ev_bind1 (size_eq x) ?_
  unfold enc
  by_cases h1 : x < 128
  · simp only [h1, if_true]
    refine ev_eq (Ev.now _) ?_
    rw [show x % 256 = x from by omega]
  · by_cases h2 : x < 2048
    · simp only [h1, h2, if_true, if_false]
      refine ev_neg (by omega) (ev_pos (by omega) (ev_pos (by decide) ?_))
      refine Ev.congr (f := fun k => runes_one.l0 k x 2 [0, 0] ((1 : Nat) : Int)) (fun k => by rw [wrap_of (by omega) (by omega)]; rfl) ?_
      refine step_one x 2 [0, 0] 1 (by omega) (by omega) (by omega) (by simp) (by simp) _ ?_
      refine ev_eq (last_one (x / 64) 2 _ (192 + x / 64) (by omega) (by simp) ?_) (by rfl)
      rw [show (shr .i64 3840 2) % 256 = 192 by decide +kernel, show (x / 64) % 256 = x / 64 from by omega]
      exact u8_or192 _ (by omega) (by omega)
    · by_cases h3 : x < 65536
      · simp only [h1, h2, h3, if_true, if_false]
        refine ev_neg (by omega) (ev_pos (by omega) (ev_pos (by decide) ?_))
        refine Ev.congr (f := fun k => runes_one.l0 k x 3 [0, 0, 0] ((2 : Nat) : Int)) (fun k => by rw [wrap_of (by omega) (by omega)]; rfl) ?_
        refine step_one x 3 [0, 0, 0] 2 (by omega) (by omega) (by omega) (by simp) (by simp) _ ?_
        refine step_one (x / 64) 3 _ 1 (by omega) (by omega) (by omega) (by simp) (by simp) _ ?_
        refine ev_eq (last_one (x / 64 / 64) 3 _ (224 + x / 4096) (by omega) (by simp) ?_) (by rfl)
        rw [show (shr .i64 3840 3) % 256 = 224 by decide +kernel, show (x / 64 / 64) % 256 = x / 4096 from by omega]
        exact u8_or224 _ (by omega) (by omega)
      · simp only [h1, h2, h3, if_false]
        refine ev_neg (by omega) (ev_pos (by omega) (ev_pos (by decide) ?_))
        refine Ev.congr (f := fun k => runes_one.l0 k x 4 [0, 0, 0, 0] ((3 : Nat) : Int)) (fun k => by rw [wrap_of (by omega) (by omega)]; rfl) ?_
        refine step_one x 4 [0, 0, 0, 0] 3 (by omega) (by omega) (by omega) (by simp) (by simp) _ ?_
        refine step_one (x / 64) 4 _ 2 (by omega) (by omega) (by omega) (by simp) (by simp) _ ?_
        refine step_one (x / 64 / 64) 4 _ 1 (by omega) (by omega) (by omega) (by simp) (by simp) _ ?_
        refine ev_eq (last_one (x / 64 / 64 / 64) 4 _ (240 + x / 262144) (by omega) (by simp) ?_) ?_
        · rw [show (shr .i64 3840 4) % 256 = 240 by decide +kernel, show (x / 64 / 64 / 64) % 256 = x / 262144 from by omega]
          exact u8_or240 _ (by omega) (by omega)
        · simp
          omega
theorem one_ev (r : Int) : Ev (fun k => runes_one.f k r) (one r) := by
  unfold runes_one.f
  refine ev_bind1 (valid_eq r) (ev_ite (fun h => ?_) (fun h => ?_))
  · exact ev_eq (one_j h) (by simp [one, h])
  · exact ev_eq (one_j valid_odd) (by simp [one, h])

theorem encode_l (l : List Int) : ∀ (d i : Nat) (o : List Int), l.length - i = d → i ≤ l.length → o.length + 4 * (l.length - i) < 140737488355328 → l.length ≤ 9223372036854775807 →
    Ev (fun k => runes_Encode.l0 k o l (l.length : Int) (i : Int)) (o ++ encode (l.drop i)) := by
  intro d
  induction d with
  | zero =>
    intro i o hd hi ho hl
    refine Ev.step (f := fun _ => some o) (fun k => ?_) (ev_eq (Ev.now _) ?_)
    · simp only [runes_Encode.l0]
      rw [if_neg (by omega)]
    · rw [List.drop_eq_nil_of_le (by omega)]
      simp [encode_nil]
  | succ d ih =>
    intro i o hd hi ho hl
    have hlt : i < l.length := by omega
    have h1 := one_len l[i]
    refine Ev.step (f := fun k => (runes_one.f k l[i]).bind fun t => if o.length + t.length < 140737488355328 then runes_Encode.l0 k (o ++ t) l (l.length : Int) ((i + 1 : Nat) : Int) else none) (fun k => ?_) ?_
    · simp only [runes_Encode.l0]
      rw [if_pos (by omega), if_pos (by omega), if_pos (by omega), rd_nat l i hlt, wrap_of (by omega) (by omega)]
      rfl
    · refine Ev.bind (one_ev _) (ev_pos (by omega) (ev_eq (ih (i + 1) _ (by omega) (by omega) (by rw [List.length_append]; omega) hl) ?_))
      rw [List.drop_eq_getElem_cons hlt, encode_cons, List.append_assoc]
theorem encode_ev (l : List Int) (h : 4 * l.length < 140737488355328) : Ev (fun k => runes_Encode.f k l) (encode l) := by
  unfold runes_Encode.f
  exact ev_eq (encode_l l l.length 0 [] (by omega) (by omega) (by simpa using h) (by omega)) (by simp)

/-! ### reading -/
end Go.Proofs.YtdjepocklmlnbaaDoor.Pure

/- Package cells: a row's runes, its text; a text's glyphs. -/
namespace Go.Proofs.YtdjepocklmlnbaaDoor.Pure
open Go.RowKit Go.Proofs.YtdjepocklmlnbaaDoorW.PrintWords Go.Proofs.YtdjepocklmlnbaaDoorW.PrintLast Go.Proofs.YtdjepocklmlnbaaDoorW.PrintMore Go.Proofs.YtdjepocklmlnbaaDoor.X Go.Proofs.YtdjepocklmlnbaaDoor.Hand
set_option linter.unusedSimpArgs false
set_option linter.unusedVariables false

/-- The runes of a row. -/
def runesOf (l : List Gl) : List Int := l.map (·.f0)
theorem runesOf_nil : runesOf [] = [] := rfl
theorem runesOf_cons (g : Gl) (l : List Gl) : runesOf (g :: l) = g.f0 :: runesOf l := rfl
theorem runesOf_length (l : List Gl) : (runesOf l).length = l.length := by simp [runesOf]
theorem text_ev (l : List Gl) (h : l.length < 8796093022208) : Ev (fun k => cells_Text.f k l) (strOfNums (encode (runesOf l))) := by
  unfold cells_Text.f
  refine ev_eq (loop_up (fun k o i => cells_Text.l0 k o l (l.length : Int) i) l.length (fun o i => strOfNums (encode (o ++ runesOf (l.drop i)))) (fun o i => o.length = i) ?_ ?_ [] 0 (by omega) rfl) (by simp)
  · intro o ho
    refine Ev.step (f := fun k => (runes_Encode.f k o).bind fun t => some (strOfNums t)) (fun k => by simp only [cells_Text.l0]; rw [if_neg (by omega)]) (Ev.bind (encode_ev o (by omega)) (ev_eq (Ev.now _) (by rw [List.drop_length, runesOf_nil, List.append_nil])))
  · intro o i hi ho ih
    refine Ev.step (f := fun k => cells_Text.l0 k (o ++ [l[i].f0]) l (l.length : Int) ((i + 1 : Nat) : Int)) (fun k => ?_) (ev_eq (ih (o ++ [l[i].f0]) (by simp [ho])) ?_)
    · simp only [cells_Text.l0]
      rw [if_pos (by omega), if_pos (by omega), if_pos (by omega), if_pos (by omega), rdG l i hi, wrap_up hi (by omega)]
    · rw [List.drop_eq_getElem_cons hi, runesOf_cons, List.append_assoc]
      rfl
end Go.Proofs.YtdjepocklmlnbaaDoor.Pure

/- Numbers as a text, and back. -/
namespace Go.Proofs.YtdjepocklmlnbaaDoor.Pure
open Go Go.RowKit Go.Proofs.YtdjepocklmlnbaaDoorW.PrintWords Go.Proofs.YtdjepocklmlnbaaDoorW.PrintLast Go.Proofs.YtdjepocklmlnbaaDoorW.PrintMore Go.Proofs.YtdjepocklmlnbaaDoor.X Go.Proofs.YtdjepocklmlnbaaDoor.Hand
set_option linter.unusedSimpArgs false
set_option linter.unusedVariables false
theorem numsStr_size (a : List Int) : (strOfNums a).size = a.length := by
  rw [← data_length, strOfNums_data, List.length_map]
theorem numsStr_back {b : List Int} (hb : Bytes b) : bytesOf (strOfNums b) = b := by
  unfold bytesOf
  rw [strOfNums_data, List.map_map]
  conv => rhs; rw [← List.map_id b]
  apply List.map_congr_left
  intro x hx
  have := hb x hx
  simp
  omega
end Go.Proofs.YtdjepocklmlnbaaDoor.Pure

/- Rows with signs: the package's. -/
namespace Go.Proofs.YtdjepocklmlnbaaDoor.Pure
open Go Go.RowKit Go.Proofs.YtdjepocklmlnbaaDoorW.PrintWords Go.Proofs.YtdjepocklmlnbaaDoorW.PrintLast Go.Proofs.YtdjepocklmlnbaaDoorW.PrintMore Go.Proofs.YtdjepocklmlnbaaDoor.X Go.Proofs.YtdjepocklmlnbaaDoor.Hand
set_option linter.unusedSimpArgs false
set_option linter.unusedVariables false
theorem sign_size (i : Nat) : (signS i).size ≤ 6 := by
  match i with
  | 0 | 1 | 2 => decide
  | _ + 3 => show (⟨#[27, 91, 49, 59, 52, 109]⟩ : ByteArray).size ≤ 6; decide
theorem sgL_length (s : Int) : (sgL s).length ≤ 6 := by
  unfold sgL
  rw [bytesOf_length]
  exact sign_size _
theorem signS_str (i : Nat) : signS i = strOfNums (bytesOf (signS i)) := by
  match i with
  | 0 | 1 | 2 => decide +kernel
  | _ + 3 => show (⟨#[27, 91, 49, 59, 52, 109]⟩ : ByteArray) = strOfNums (bytesOf ⟨#[27, 91, 49, 59, 52, 109]⟩); decide +kernel
theorem sgL_Bytes (s : Int) : Bytes (sgL s) := by
  intro x hx
  unfold sgL bytesOf at hx
  obtain ⟨u, _, rfl⟩ := List.mem_map.1 hx
  have := u.toNat_lt
  omega
theorem sign_eq {s : Int} (h : 0 ≤ s ∧ s ≤ 255) : ansi_Sign.f s = some (strOfNums (sgL s)) := by
  unfold ansi_Sign.f
  rw [if_pos h, sgL, ← signS_str]
theorem setOf_range {p : Option Int} {g : Gl} (hp : ∀ s, p = some s → 0 ≤ s ∧ s ≤ 3) (hg : 0 ≤ g.f1 ∧ g.f1 ≤ 3) : 0 ≤ setOf p g ∧ setOf p g ≤ 3 := by
  unfold setOf
  split
  · omega
  · cases p with
    | none => exact hg
    | some s =>
      simp only
      split
      · exact hp s rfl
      · exact hg
theorem normGo_range : ∀ (l : List Gl) (p : Option Int), (∀ s, p = some s → 0 ≤ s ∧ s ≤ 3) → (∀ g ∈ l, 0 ≤ g.f1 ∧ g.f1 ≤ 3) → ∀ g ∈ normGo p l, 0 ≤ g.f1 ∧ g.f1 ≤ 3
  | [], _, _, _, g, h => by simp [normGo] at h
  | x :: t, p, hp, hl, g, h => by
    have hx := setOf_range hp (hl x (by simp))
    rw [normGo] at h
    rcases List.mem_cons.1 h with rfl | h
    · exact hx
    · exact normGo_range t _ (fun s e => by injection e with e; rw [← e]; exact hx) (fun y hy => hl y (by simp [hy])) g h
theorem rowB_ev : ∀ (rs : List (List Gl)) (o : List Int), (∀ y ∈ rs, 0 < y.length ∧ y.length ≤ 5000 ∧ ∀ g ∈ y, 0 ≤ g.f1 ∧ g.f1 ≤ 255) → o.length + 30000 * rs.length ≤ 1000000000 → Ev (fun k => rowB k rs o) (o ++ outB rs)
  | [], o, _, _ => ev_eq (Ev.now _) (by simp [outB])
  | y :: t, o, h, hl => by
    obtain ⟨hp, hy, hs⟩ := h y (by simp)
    have hen := encode_length (runesOf y)
    rw [runesOf_length] at hen
    have hhd : hd y = rd_T44 y 0 := rfl
    have hs0 : 0 ≤ (hd y).f1 ∧ (hd y).f1 ≤ 255 := by
      rw [hd_eq hp]
      exact hs _ (List.getElem_mem hp)
    have e1 : outB (y :: t) = runB y ++ outB t := by simp [outB]
    rw [e1]
    simp only [List.length_cons] at hl
    have hsl := sgL_length (hd y).f1
    have hsl0 := sgL_length 0
    rw [hhd] at hs0 hsl
    simp only [rowB]
    refine ev_neg (by omega) (ev_ite (fun h0 => ?_) (fun h0 => ?_))
    · refine Ev.bind (text_ev _ (by omega)) (ev_pos (by rw [numsStr_size]; omega) ?_)
      rw [numsStr_back (encode_bytes _)]
      refine ev_eq (rowB_ev t _ (fun x hx => h x (by simp [hx])) (by rw [List.length_append]; omega)) ?_
      rw [runB, hhd, if_pos h0, List.append_assoc]
      rfl
    · refine ev_bind1 (sign_eq hs0) (Ev.bind (text_ev _ (by omega)) (ev_bind1 (sign_eq (by decide)) (ev_pos (by rw [numsStr_size, numsStr_size, numsStr_size]; omega) ?_)))
      rw [numsStr_back (encode_bytes _), numsStr_back (sgL_Bytes _), numsStr_back (sgL_Bytes _)]
      refine ev_eq (rowB_ev t _ (fun x hx => h x (by simp [hx])) (by simp only [List.length_append]; omega)) ?_
      rw [runB, hhd, if_neg h0]
      simp only [List.append_assoc]
      rfl
theorem nrm_set {l : List Gl} (h : ∀ g ∈ l, 0 ≤ g.f1 ∧ g.f1 ≤ 255) : ∀ g ∈ nrm l, 0 ≤ g.f1 ∧ g.f1 ≤ 3 :=
  normGo_range _ none (fun s e => by cases e) (fun g hg => by
    have := clean_Cl l h g (List.mem_of_mem_take hg)
    exact ⟨this.2.2.1, this.2.2.2.1⟩)
theorem part_le : ∀ (rs : List (List Gl)) (y : List Gl), y ∈ rs → y.length ≤ rs.flatten.length ∧ ∀ g ∈ y, g ∈ rs.flatten
  | [], y, h => by simp at h
  | z :: t, y, h => by
    rw [List.flatten_cons, List.length_append]
    rcases List.mem_cons.1 h with rfl | h
    · exact ⟨by omega, fun g hg => List.mem_append_left _ hg⟩
    · have := part_le t y h
      exact ⟨by omega, fun g hg => List.mem_append_right _ (this.2 g hg)⟩
theorem row_ev {l : List Gl} (hl : l.length ≤ 3000) (h : ∀ g ∈ l, 0 ≤ g.f1 ∧ g.f1 ≤ 255) : Ev (fun k => ansi_Row.f k l) (refGo (nrm l) 0) := by
  have hn := nrm_length l
  have hset := nrm_set h
  have hnl := normal_ev l (exists_trim (clean l)).choose_spec (by omega)
  change Ev _ (nrm l) at hnl
  unfold ansi_Row.f
  refine Ev.bind hnl ?_
  revert hn hset
  generalize nrm l = c
  intro hn hset
  have hi := runs_IsRuns c
  have hrl := runs_length c.length c (Nat.le_refl _)
  refine ev_bind1 (a := runs c) (by unfold cells_Runs.f; rw [if_pos (by omega)]) (ev_pos (by omega) (ev_eq (rowB_ev (runs c) [] (fun y hy => ?_) (by simp only [List.length_nil]; omega)) (by rw [List.nil_append, outB_eq _ _ hi])))
  have hp := part_le (runs c) y hy
  rw [hi.flat] at hp
  exact ⟨hi.pos y hy, by omega, fun g hg => by have := hset g (hp.2 g hg); omega⟩
theorem refGo_length : ∀ (c : List Gl) (s : Int), (refGo c s).length ≤ 20 * c.length + 6
  | [], s => by
    have := sgL_length 0
    rw [refGo]
    split <;> simp <;> omega
  | g :: t, s => by
    have h0 := sgL_length 0
    have h1 := sgL_length g.f1
    have h2 := encode_length [g.f0]
    have ih := refGo_length t g.f1
    rw [refGo, List.length_append, List.length_append, List.length_cons]
    have h3 : (if g.f1 = s then ([] : List Int) else (if s = 0 then [] else sgL 0) ++ (if g.f1 = 0 then [] else sgL g.f1)).length ≤ 12 := by
      split
      · simp
      · rw [List.length_append]
        have h4 : (if s = 0 then ([] : List Int) else sgL 0).length ≤ 6 := by split <;> first | (simp; done) | omega
        have h5 : (if g.f1 = 0 then ([] : List Int) else sgL g.f1).length ≤ 6 := by split <;> first | (simp; done) | omega
        omega
    simp only [List.length_singleton] at h2
    omega
end Go.Proofs.YtdjepocklmlnbaaDoor.Pure

/- Whether bytes begin so: strings.HasPrefix. -/
namespace Go.Proofs.YtdjepocklmlnbaaDoor.Pure
open Go Go.RowKit Go.Proofs.YtdjepocklmlnbaaDoorW.PrintWords Go.Proofs.YtdjepocklmlnbaaDoorW.PrintLast Go.Proofs.YtdjepocklmlnbaaDoorW.PrintMore Go.Proofs.YtdjepocklmlnbaaDoor.X Go.Proofs.YtdjepocklmlnbaaDoor.Hand
set_option linter.unusedSimpArgs false
set_option linter.unusedVariables false
theorem str_part (c : List Int) (i j : Nat) : (strOfNums c).extract i j = strOfNums ((c.take j).drop i) := by
  apply ByteArray.ext
  apply Array.ext'
  rw [ByteArray.data_extract, Array.toList_extract, strOfNums_data, strOfNums_data, List.extract_eq_take_drop, List.drop_take, List.map_take, List.map_drop]
theorem str_same {a b : List Int} (ha : Bytes a) (hb : Bytes b) : ((strOfNums a).toList == (strOfNums b).toList) = decide (a = b) := by
  have key : (strOfNums a).toList = (strOfNums b).toList ↔ a = b := by
    rw [ByteArray.toList_eq, ByteArray.toList_eq]
    constructor
    · intro h
      have h2 : bytesOf (strOfNums a) = bytesOf (strOfNums b) := by unfold bytesOf; rw [h]
      rwa [numsStr_back ha, numsStr_back hb] at h2
    · intro h
      rw [h]
  by_cases h : a = b
  · rw [decide_eq_true h, beq_iff_eq]
    exact key.2 h
  · rw [decide_eq_false h, beq_eq_false_iff_ne]
    exact fun e => h (key.1 e)
theorem prefix_eq {b p : List Int} (hb : Bytes b) (hp : Bytes p) : strings_HasPrefix.f (strOfNums b) (strOfNums p) = some (decide (p <+: b)) := by
  unfold strings_HasPrefix.f stringslite_HasPrefix.f
  rw [numsStr_size, numsStr_size]
  by_cases h : p.length ≤ b.length
  · rw [if_pos (by omega), if_pos (by omega), if_pos (by omega), Option.bind_some, str_part, Int.toNat_natCast, List.drop_zero, str_same (fun x hx => hb x (List.mem_of_mem_take hx)) hp]
    congr 1
    rw [decide_eq_decide, List.prefix_iff_eq_take]
    exact eq_comm
  · rw [if_neg (by omega), Option.bind_some]
    congr 1
    symm
    rw [decide_eq_false_iff_not]
    exact fun e => h e.length_le
end Go.Proofs.YtdjepocklmlnbaaDoor.Pure

/- The sign that bytes begin with; bytes of which each 27 begins a sign, and how many there are. -/
namespace Go.Proofs.YtdjepocklmlnbaaDoor.Pure
open Go Go.RowKit Go.Proofs.YtdjepocklmlnbaaDoorW.PrintWords Go.Proofs.YtdjepocklmlnbaaDoorW.PrintLast Go.Proofs.YtdjepocklmlnbaaDoorW.PrintMore Go.Proofs.YtdjepocklmlnbaaDoor.X Go.Proofs.YtdjepocklmlnbaaDoor.Hand
set_option linter.unusedSimpArgs false
set_option linter.unusedVariables false
theorem sgL_0 : sgL 0 = [27, 91, 48, 109] := by decide +kernel
theorem sgL_1 : sgL 1 = [27, 91, 49, 109] := by decide +kernel
theorem sgL_2 : sgL 2 = [27, 91, 52, 109] := by decide +kernel
theorem sgL_3 : sgL 3 = [27, 91, 49, 59, 52, 109] := by decide +kernel
/-- The sign that bytes begin with: how it sets, and how long it is. -/
def sgn (b : List Int) : Option (Int × Nat) :=
  if sgL 0 <+: b then some (0, 4) else if sgL 1 <+: b then some (1, 4) else if sgL 2 <+: b then some (2, 4) else if sgL 3 <+: b then some (3, 6) else none
/-- Signs' answer. -/
def sgnV (b : List Int) : Int × Int × Bool := match sgn b with | some (s, n) => (s, (n : Int), true) | none => (0, 0, false)
theorem signs_eq {b : List Int} (hb : Bytes b) : ansi_Signs.f b = some (sgnV b) := by
  have e0 : signS 0 = strOfNums (sgL 0) := signS_str 0
  have e1 : signS 1 = strOfNums (sgL 1) := signS_str 1
  have e2 : signS 2 = strOfNums (sgL 2) := signS_str 2
  have e3 : signS 3 = strOfNums (sgL 3) := signS_str 3
  unfold ansi_Signs.f
  rw [show (4 : Nat) = 3 + 1 from rfl, ansi_Signs.l, show (3 : Nat) = 2 + 1 from rfl, ansi_Signs.l, show (2 : Nat) = 1 + 1 from rfl, ansi_Signs.l, show (1 : Nat) = 0 + 1 from rfl, ansi_Signs.l, ansi_Signs.l]
  simp only [Nat.zero_add, Nat.reduceAdd]
  rw [e0, e1, e2, e3, prefix_eq hb (sgL_Bytes 0), prefix_eq hb (sgL_Bytes 1), prefix_eq hb (sgL_Bytes 2), prefix_eq hb (sgL_Bytes 3)]
  simp only [Option.bind_some, decide_eq_true_eq, numsStr_size]
  unfold sgnV sgn
  split
  · rfl
  · split
    · rfl
    · split
      · rfl
      · split
        · rfl
        · rfl
theorem sgn_some {b : List Int} {s : Int} {n : Nat} (h : sgn b = some (s, n)) : 0 ≤ s ∧ s ≤ 3 ∧ n = (sgL s).length ∧ sgL s <+: b := by
  unfold sgn at h
  split at h
  · rename_i hp
    cases h
    exact ⟨by decide, by decide, by decide +kernel, hp⟩
  · split at h
    · rename_i hp
      cases h
      exact ⟨by decide, by decide, by decide +kernel, hp⟩
    · split at h
      · rename_i hp
        cases h
        exact ⟨by decide, by decide, by decide +kernel, hp⟩
      · split at h
        · rename_i hp
          cases h
          exact ⟨by decide, by decide, by decide +kernel, hp⟩
        · cases h
theorem sgn_sgL {s : Int} (h0 : 0 ≤ s) (h3 : s ≤ 3) (t : List Int) : sgn (sgL s ++ t) = some (s, (sgL s).length) := by
  have hc : s = 0 ∨ s = 1 ∨ s = 2 ∨ s = 3 := by omega
  unfold sgn
  rcases hc with rfl | rfl | rfl | rfl <;> simp [sgL_0, sgL_1, sgL_2, sgL_3]
theorem sgn_ne {x : Int} {t : List Int} (h : x ≠ 27) : sgn (x :: t) = none := by
  have hx : ¬ (27 : Int) = x := fun e => h e.symm
  unfold sgn
  simp [sgL_0, sgL_1, sgL_2, sgL_3, hx]
end Go.Proofs.YtdjepocklmlnbaaDoor.Pure

/- Bytes without signs. -/
namespace Go.Proofs.YtdjepocklmlnbaaDoor.Pure
open Go Go.RowKit Go.Proofs.YtdjepocklmlnbaaDoorW.PrintWords Go.Proofs.YtdjepocklmlnbaaDoorW.PrintLast Go.Proofs.YtdjepocklmlnbaaDoorW.PrintMore Go.Proofs.YtdjepocklmlnbaaDoor.X Go.Proofs.YtdjepocklmlnbaaDoor.Hand
set_option linter.unusedSimpArgs false
set_option linter.unusedVariables false
theorem sgn_len {b : List Int} {s : Int} {m : Nat} (h : sgn b = some (s, m)) : 4 ≤ m ∧ m ≤ b.length := by
  obtain ⟨h0, h3, hm, hp⟩ := sgn_some h
  have hl := hp.length_le
  rw [← hm] at hl
  refine ⟨?_, hl⟩
  rw [hm]
  have hc : s = 0 ∨ s = 1 ∨ s = 2 ∨ s = 3 := by omega
  rcases hc with rfl | rfl | rfl | rfl <;> decide +kernel
def stripN : Nat → List Int → List Int
  | 0, _ => []
  | n + 1, b => if b = [] then [] else match sgn b with
    | some (_, m) => stripN n (b.drop m)
    | none => b.take 1 ++ stripN n (b.drop 1)
def stripL (b : List Int) : List Int := stripN b.length b
theorem stripN_nil : ∀ n, stripN n [] = []
  | 0 => rfl
  | n + 1 => by rw [stripN, if_pos rfl]
theorem stripN_eq : ∀ (n m : Nat) (b : List Int), b.length ≤ n → b.length ≤ m → stripN n b = stripN m b
  | 0, m, b, h, _ => by
    obtain rfl : b = [] := List.eq_nil_of_length_eq_zero (by omega)
    rw [stripN_nil, stripN_nil]
  | n, 0, b, _, h => by
    obtain rfl : b = [] := List.eq_nil_of_length_eq_zero (by omega)
    rw [stripN_nil, stripN_nil]
  | n + 1, m + 1, b, h, h' => by
    rw [stripN, stripN]
    by_cases hb : b = []
    · rw [if_pos hb, if_pos hb]
    · have hp : 0 < b.length := List.length_pos_iff.2 hb
      rw [if_neg hb, if_neg hb]
      cases hs : sgn b with
      | none =>
        simp only
        rw [stripN_eq n m (b.drop 1) (by rw [List.length_drop]; omega) (by rw [List.length_drop]; omega)]
      | some p =>
        obtain ⟨s, k⟩ := p
        have := sgn_len hs
        simp only
        exact stripN_eq n m (b.drop k) (by rw [List.length_drop]; omega) (by rw [List.length_drop]; omega)
theorem stripL_of {n : Nat} {b : List Int} (h : b.length ≤ n) : stripN n b = stripL b := stripN_eq n b.length b h (Nat.le_refl _)
theorem stripL_sign {b : List Int} {s : Int} {m : Nat} (h : sgn b = some (s, m)) : stripL b = stripL (b.drop m) := by
  have hl := sgn_len h
  rw [← stripL_of (n := b.length) (Nat.le_refl _)]
  obtain ⟨n, hn⟩ : ∃ n, b.length = n + 1 := ⟨b.length - 1, by omega⟩
  rw [hn, stripN, if_neg (fun e => by rw [e] at hl; simp at hl; omega), h]
  exact stripL_of (by rw [List.length_drop]; omega)
theorem stripL_cons {x : Int} {t : List Int} (h : sgn (x :: t) = none) : stripL (x :: t) = x :: stripL t := by
  rw [← stripL_of (n := (x :: t).length) (Nat.le_refl _), List.length_cons, stripN, if_neg (by simp), h]
  simp only
  rw [stripL_of (by simp)]
  rfl
theorem stripL_nil : stripL [] = [] := rfl
theorem stripL_sgL {s : Int} (h0 : 0 ≤ s) (h3 : s ≤ 3) (t : List Int) : stripL (sgL s ++ t) = stripL t := by
  rw [stripL_sign (sgn_sgL h0 h3 t), List.drop_left]
theorem stripL_plain : ∀ (p t : List Int), (∀ x ∈ p, x ≠ 27) → stripL (p ++ t) = p ++ stripL t
  | [], t, _ => rfl
  | x :: p, t, h => by rw [List.cons_append, stripL_cons (sgn_ne (h x (by simp))), stripL_plain p t (fun y hy => h y (by simp [hy])), List.cons_append]
theorem strip_l : ∀ (n : Nat) (b o : List Int), Bytes b → b.length ≤ n → o.length + b.length ≤ 1000000000 → Ev (fun k => ansi_Strip.l0 k b o) (o ++ stripL b)
  | n, [], o, _, _, _ => Ev.step (f := fun _ => some o) (fun k => by simp only [ansi_Strip.l0]; rw [if_neg (by simp)]) (ev_eq (Ev.now _) (by rw [stripL_nil, List.append_nil]))
  | 0, x :: t, o, _, h, _ => by simp at h
  | n + 1, x :: t, o, hb, h, hl => by
    simp only [List.length_cons] at h hl
    cases hs : sgn (x :: t) with
    | some p =>
      obtain ⟨s, m⟩ := p
      obtain ⟨h4, hm⟩ := sgn_len hs
      rw [stripL_sign hs]
      refine Ev.step (f := fun k => ansi_Strip.l0 k ((x :: t).drop m) o) (fun k => ?_) (strip_l n _ o (bytes_drop hb m) (by rw [List.length_drop, List.length_cons]; omega) (by rw [List.length_drop, List.length_cons]; omega))
      simp only [ansi_Strip.l0]
      rw [if_pos (by simp), signs_eq hb, Option.bind_some, sgnV, hs]
      simp only [if_true]
      rw [if_pos (by omega), if_pos (by omega), Int.toNat_natCast]
    | none =>
      rw [stripL_cons hs]
      refine Ev.step (f := fun k => ansi_Strip.l0 k t (o ++ [x])) (fun k => ?_) (ev_eq (strip_l n t (o ++ [x]) (fun y hy => hb y (by simp [hy])) (by omega) (by rw [List.length_append, List.length_singleton]; omega)) (by rw [List.append_assoc]; rfl))
      simp only [ansi_Strip.l0]
      rw [if_pos (by simp), signs_eq hb, Option.bind_some, sgnV, hs]
      simp only [Bool.false_eq_true, if_false]
      rw [if_pos (by simp), if_pos (by omega), if_pos (by simp only [List.length_cons]; omega)]
      rfl
theorem strip_ev {b : List Int} (hb : Bytes b) (h : b.length ≤ 1000000000) : Ev (fun k => ansi_Strip.f k b) (stripL b) := by
  unfold ansi_Strip.f
  exact ev_eq (strip_l b.length b [] hb (Nat.le_refl _) (by simpa using h)) rfl
end Go.Proofs.YtdjepocklmlnbaaDoor.Pure

/- Normal rows hold runes that may be shown: no byte of theirs is a control. -/
namespace Go.Proofs.YtdjepocklmlnbaaDoor.Pure
open Go Go.RowKit Go.Proofs.YtdjepocklmlnbaaDoorW.PrintWords Go.Proofs.YtdjepocklmlnbaaDoorW.PrintLast Go.Proofs.YtdjepocklmlnbaaDoorW.PrintMore Go.Proofs.YtdjepocklmlnbaaDoor.X Go.Proofs.YtdjepocklmlnbaaDoor.Hand
set_option linter.unusedSimpArgs false
set_option linter.unusedVariables false
/-- A row of runes that may be shown. -/
def GoodR (r : List Gl) : Prop := ∀ g ∈ r, validB g.f0 = true ∧ controlB g.f0 = false
theorem nrm_good (l : List Gl) : GoodR (nrm l) := by
  intro g hg
  unfold nrm at hg
  have h1 : g.f0 ∈ (normGo none ((clean l).take (exists_trim (clean l)).choose)).map (·.f0) := List.mem_map_of_mem hg
  rw [normGo_runes] at h1
  obtain ⟨y, hy, e⟩ := List.mem_map.1 h1
  have h2 := List.mem_of_mem_take hy
  have h3 := (List.dropWhile_sublist _).subset h2
  obtain ⟨z, _, rfl⟩ := List.mem_map.1 h3
  rw [← e]
  exact ⟨safe_valid _, safe_control _⟩
theorem shown_byte {r : Int} (hv : validB r = true) (hc : controlB r = false) : ∀ x ∈ one r, 32 ≤ x ∧ x ≠ 127 := by
  intro x hx
  rw [one_valid hv] at hx
  have h1 := (validB_iff r).1 hv
  have h2 : ¬ controlB r = true := by rw [hc]; simp
  rw [controlB_iff] at h2
  unfold enc at hx
  split at hx
  · rw [List.mem_singleton.1 hx]
    omega
  · split at hx
    · simp only [List.mem_cons, List.not_mem_nil, or_false] at hx
      omega
    · split at hx
      · simp only [List.mem_cons, List.not_mem_nil, or_false] at hx
        omega
      · simp only [List.mem_cons, List.not_mem_nil, or_false] at hx
        omega
theorem good_bytes {r : List Gl} (h : GoodR r) : ∀ x ∈ encode (runesOf r), 32 ≤ x ∧ x ≠ 127 := by
  intro x hx
  obtain ⟨y, hy, hx⟩ := List.mem_flatMap.1 hx
  obtain ⟨g, hg, rfl⟩ := List.mem_map.1 hy
  exact shown_byte (h g hg).1 (h g hg).2 x hx
end Go.Proofs.YtdjepocklmlnbaaDoor.Pure

/- A row with signs, without them: its text. -/
namespace Go.Proofs.YtdjepocklmlnbaaDoor.Pure
open Go Go.RowKit Go.Proofs.YtdjepocklmlnbaaDoorW.PrintWords Go.Proofs.YtdjepocklmlnbaaDoorW.PrintLast Go.Proofs.YtdjepocklmlnbaaDoorW.PrintMore Go.Proofs.YtdjepocklmlnbaaDoor.X Go.Proofs.YtdjepocklmlnbaaDoor.Hand
set_option linter.unusedSimpArgs false
set_option linter.unusedVariables false
theorem strip_outB : ∀ (rs : List (List Gl)) (c : List Gl) (t : List Int), IsRuns rs c → GoodR c → (∀ g ∈ c, 0 ≤ g.f1 ∧ g.f1 ≤ 3) → stripL (outB rs ++ t) = encode (runesOf c) ++ stripL t
  | [], c, t, h, _, _ => by
    have hc : c = [] := h.flat.symm
    subst hc
    rfl
  | y :: rs, c, t, h, hg, hs => by
    have hf := h.flat
    rw [List.flatten_cons] at hf
    have hp := h.pos y (by simp)
    have hgy : GoodR y := fun g hgm => hg g (by rw [← hf]; exact List.mem_append_left _ hgm)
    have hgt : GoodR rs.flatten := fun g hgm => hg g (by rw [← hf]; exact List.mem_append_right _ hgm)
    have hst : ∀ g ∈ rs.flatten, 0 ≤ g.f1 ∧ g.f1 ≤ 3 := fun g hgm => hs g (by rw [← hf]; exact List.mem_append_right _ hgm)
    have hy0 : 0 ≤ (hd y).f1 ∧ (hd y).f1 ≤ 3 := by
      rw [hd_eq hp]
      exact hs _ (by rw [← hf]; exact List.mem_append_left _ (List.getElem_mem hp))
    have ih := strip_outB rs rs.flatten t h.tail hgt hst
    have h27 : ∀ x ∈ encode (y.map (·.f0)), x ≠ 27 := fun x hx => by have := good_bytes hgy x hx; omega
    have e : outB (y :: rs) = runB y ++ outB rs := by simp [outB]
    have er : encode (runesOf c) = encode (y.map (·.f0)) ++ encode (runesOf rs.flatten) := by
      rw [← hf, ← encode_append]
      unfold runesOf
      rw [List.map_append]
    rw [e, er, runB]
    split
    · rw [List.append_assoc, stripL_plain _ _ h27, ih, List.append_assoc]
    · simp only [List.append_assoc]
      rw [stripL_sgL hy0.1 hy0.2, stripL_plain _ _ h27, stripL_sgL (by decide) (by decide), ih]
theorem strip_row {c : List Gl} (hg : GoodR c) (hs : ∀ g ∈ c, 0 ≤ g.f1 ∧ g.f1 ≤ 3) (t : List Int) : stripL (refGo c 0 ++ t) = encode (runesOf c) ++ stripL t := by
  have hi := runs_IsRuns c
  rw [← outB_eq _ _ hi]
  exact strip_outB _ _ t hi hg hs
end Go.Proofs.YtdjepocklmlnbaaDoor.Pure

/- Blanks. -/
namespace Go.Proofs.YtdjepocklmlnbaaDoor.Pure
open Go.RowKit Go.Proofs.YtdjepocklmlnbaaDoorW.PrintWords Go.Proofs.YtdjepocklmlnbaaDoorW.PrintLast Go.Proofs.YtdjepocklmlnbaaDoorW.PrintMore Go.Proofs.YtdjepocklmlnbaaDoor.X Go.Proofs.YtdjepocklmlnbaaDoor.Hand
set_option linter.unusedSimpArgs false
set_option linter.unusedVariables false
def sp : Gl := ⟨32, 0⟩
theorem mx_mn (a : Int) : mx 0 (mn a 65535) = max 0 (min a 65535) := by
  unfold mx mn
  omega
theorem blank_eq (a : Int) : cells_Blank.f a = some (List.replicate (max 0 (min a 65535)).toNat sp) := by
  unfold cells_Blank.f repeat_G.f
  rw [mx_mn, if_pos ⟨rfl, by omega, by omega⟩, Option.bind_some]
  rfl
end Go.Proofs.YtdjepocklmlnbaaDoor.Pure

/- A row of rows, read. -/
namespace Go.Proofs.YtdjepocklmlnbaaDoor.Pure
open Go.RowKit Go.Proofs.YtdjepocklmlnbaaDoorW.PrintWords Go.Proofs.YtdjepocklmlnbaaDoorW.PrintLast Go.Proofs.YtdjepocklmlnbaaDoorW.PrintMore Go.Proofs.YtdjepocklmlnbaaDoor.X Go.Proofs.YtdjepocklmlnbaaDoor.Hand
theorem rdL (l : List (List Gl)) (i : Nat) (h : i < l.length) : rd_L5 l (i : Int) = l[i] := by
  simp [rd_L5, List.getD_eq_getElem?_getD, List.getElem?_eq_getElem h]
end Go.Proofs.YtdjepocklmlnbaaDoor.Pure

/- Lines laid flat, made normal, and as bytes: package plain's and the reference's. -/
namespace Go.Proofs.YtdjepocklmlnbaaDoor.Pure
open Go.RowKit Go.Proofs.YtdjepocklmlnbaaDoorW.PrintWords Go.Proofs.YtdjepocklmlnbaaDoorW.PrintLast Go.Proofs.YtdjepocklmlnbaaDoorW.PrintMore Go.Proofs.YtdjepocklmlnbaaDoor.X Go.Proofs.YtdjepocklmlnbaaDoor.Hand
set_option linter.unusedSimpArgs false
set_option linter.unusedVariables false
abbrev Ln := S35
theorem rdN (l : List Ln) (i : Nat) (h : i < l.length) : rd_T35 l (i : Int) = l[i] := by
  simp [rd_T35, List.getD_eq_getElem?_getD, List.getElem?_eq_getElem h]
/-- A line, flat. -/
def flat (x : Ln) : List Gl := if x.f1.length = 0 then [] else List.replicate (max 0 (min x.f0 65535)).toNat sp ++ x.f1
/-- What the chapter's laws look at. -/
def Small (x : Ln) : Prop := x.f0 ≤ 2000 ∧ x.f1.length ≤ 1000 ∧ ∀ g ∈ x.f1, 0 ≤ g.f1 ∧ g.f1 ≤ 255
theorem flat_length {x : Ln} (h : Small x) : (flat x).length ≤ 3000 := by
  obtain ⟨h0, h1, _⟩ := h
  unfold flat
  split
  · simp
  · rw [List.length_append, List.length_replicate]
    omega
theorem flat_set {x : Ln} (h : Small x) : ∀ g ∈ flat x, 0 ≤ g.f1 ∧ g.f1 ≤ 255 := by
  intro g hg
  unfold flat at hg
  split at hg
  · simp at hg
  · rcases List.mem_append.1 hg with hg | hg
    · rw [(List.mem_replicate.1 hg).2]
      decide
    · exact h.2.2 g hg
theorem flat_eq {x : Ln} (h : x.f1.length ≤ 1000000) : layout_Flat.f x.f0 x.f1 x.f2 = some (flat x) := by
  unfold layout_Flat.f flat
  by_cases h0 : x.f1.length = 0
  · rw [if_pos (by omega), if_pos h0]
  · rw [if_neg (by omega), if_neg h0, blank_eq, Option.bind_some, if_pos (by rw [List.length_replicate]; omega)]
noncomputable def prows (l : List Ln) : List (List Gl) := l.map (fun x => nrm (flat x))
theorem prows_length (l : List Ln) : (prows l).length = l.length := by simp [prows]
theorem prows_small {l : List Ln} (h : ∀ x ∈ l, Small x) : ∀ r ∈ prows l, r.length ≤ 3000 := by
  intro r hr
  obtain ⟨x, hx, rfl⟩ := List.mem_map.1 hr
  exact Nat.le_trans (nrm_length _) (flat_length (h x hx))
theorem prows_drop (l : List Ln) (i : Nat) (h : i < l.length) : prows (l.drop i) = nrm (flat l[i]) :: prows (l.drop (i + 1)) := by
  unfold prows
  rw [List.drop_eq_getElem_cons h, List.map_cons]
theorem rows_ev {l : List Ln} (hl : l.length ≤ 1000) (h : ∀ x ∈ l, Small x) : Ev (fun k => plain_Rows.f k l) (prows l) := by
  unfold plain_Rows.f
  refine ev_eq (loop_up (fun k o i => plain_Rows.l0 k o l (l.length : Int) i) l.length (fun o i => o ++ prows (l.drop i)) (fun o i => o.length ≤ i) ?_ ?_ [] 0 (by omega) (by simp)) (by simp)
  · intro o _
    exact Ev.step (f := fun _ => some o) (fun k => by simp only [plain_Rows.l0]; rw [if_neg (by omega)]) (ev_eq (Ev.now _) (by simp [prows]))
  · intro o i hi ho ih
    have hs := h l[i] (List.getElem_mem hi)
    have hf := flat_length hs
    refine Ev.step (f := fun k => (plain_Normal.f k (flat l[i])).bind fun t => if o.length < 5864062014805 then plain_Rows.l0 k (o ++ [t]) l (l.length : Int) ((i + 1 : Nat) : Int) else none) (fun k => ?_) ?_
    · simp only [plain_Rows.l0]
      rw [if_pos (by omega), if_pos (by omega), if_pos (by omega), rdN l i hi, flat_eq (by have := hs.2.1; omega), Option.bind_some, wrap_up hi (by omega)]
    · refine Ev.bind (normal_ev _ (exists_trim (clean (flat l[i]))).choose_spec (by omega)) (ev_pos (by omega) (ev_eq (ih _ (by simp; omega)) ?_))
      rw [prows_drop l i hi, List.append_assoc]
      rfl
/-- Is it more than is looked at? -/
def longB : List Ln → Int → Bool
  | [], n => decide (n > 400)
  | x :: t, n => if x.f0 > 2000 then true else longB t (n + 1 + (x.f1.length : Int))
def lsum (l : List Ln) : Nat := (l.map (fun x => x.f1.length + 1)).sum
theorem lsum_cons (x : Ln) (t : List Ln) : lsum (x :: t) = x.f1.length + 1 + lsum t := by simp [lsum]
theorem lsum_length : ∀ l : List Ln, l.length ≤ lsum l
  | [] => Nat.zero_le _
  | x :: t => by
    have := lsum_length t
    rw [lsum_cons, List.length_cons]
    omega
theorem longB_false : ∀ (l : List Ln) (n : Int), 0 ≤ n → longB l n = false → n + lsum l ≤ 400 ∧ ∀ x ∈ l, x.f0 ≤ 2000 ∧ x.f1.length ≤ 400
  | [], n, h0, h => by
    simp [longB] at h
    simp [lsum]
    omega
  | x :: t, n, h0, h => by
    rw [longB] at h
    split at h
    · cases h
    · obtain ⟨h1, h2⟩ := longB_false t _ (by omega) h
      rw [lsum_cons]
      refine ⟨by omega, fun y hy => ?_⟩
      rcases List.mem_cons.1 hy with rfl | hy
      · omega
      · exact h2 y hy
theorem long_ev {l : List Ln} (h : lsum l ≤ 1048576) : Ev (fun k => flongref17_Long.f k l) (longB l 0) := by
  have hll := lsum_length l
  unfold flongref17_Long.f
  refine ev_eq (loop_up (fun k n i => flongref17_Long.l0 k l n i) l.length (fun n i => longB (l.drop i) n) (fun n i => 0 ≤ n ∧ n + lsum (l.drop i) ≤ 1048576) ?_ ?_ 0 0 (by omega) (by simp; omega)) (by simp)
  · intro n _
    exact Ev.step (f := fun _ => some (decide (n > 400))) (fun k => by simp only [flongref17_Long.l0]; rw [if_neg (by omega)]) (ev_eq (Ev.now _) (by rw [List.drop_length]; rfl))
  · intro n i hi hn ih
    rw [List.drop_eq_getElem_cons hi, lsum_cons] at hn
    rw [List.drop_eq_getElem_cons hi, longB]
    refine Ev.step (f := fun k => if l[i].f0 > 2000 then some true else flongref17_Long.l0 k l (n + 1 + (l[i].f1.length : Int)) ((i + 1 : Nat) : Int)) (fun k => ?_) ?_
    · simp only [flongref17_Long.l0]
      rw [if_pos (by omega), if_pos (by omega), rdN l i hi, wrap_up hi (by omega), wrap_of (x := n + 1) (by omega) (by omega), wrap_of (x := n + 1 + _) (by omega) (by omega)]
    · refine ev_ite (fun h => ev_eq (Ev.now _) (by rw [if_pos h])) (fun h => ?_)
      rw [if_neg h]
      exact ih _ ⟨by omega, by omega⟩
end Go.Proofs.YtdjepocklmlnbaaDoor.Pure

/- Lines with signs: the package's. -/
namespace Go.Proofs.YtdjepocklmlnbaaDoor.Pure
open Go Go.RowKit Go.Proofs.YtdjepocklmlnbaaDoorW.PrintWords Go.Proofs.YtdjepocklmlnbaaDoorW.PrintLast Go.Proofs.YtdjepocklmlnbaaDoorW.PrintMore Go.Proofs.YtdjepocklmlnbaaDoor.X Go.Proofs.YtdjepocklmlnbaaDoor.Hand
set_option linter.unusedSimpArgs false
set_option linter.unusedVariables false
/-- Rows' bytes. -/
noncomputable def wB (rs : List (List Gl)) : List Int := (rs.map (fun r => refGo (nrm r) 0 ++ [10])).flatten
theorem wB_drop (rs : List (List Gl)) (i : Nat) (h : i < rs.length) : wB (rs.drop i) = (refGo (nrm rs[i]) 0 ++ [10]) ++ wB (rs.drop (i + 1)) := by
  unfold wB
  rw [List.drop_eq_getElem_cons h, List.map_cons, List.flatten_cons]
theorem prows_set {l : List Ln} (h : ∀ x ∈ l, Small x) : ∀ r ∈ prows l, ∀ g ∈ r, 0 ≤ g.f1 ∧ g.f1 ≤ 255 := by
  intro r hr
  obtain ⟨x, hx, rfl⟩ := List.mem_map.1 hr
  intro g hg
  have := nrm_set (flat_set (h x hx)) g hg
  omega
theorem awrite_ev {l : List Ln} (hl : l.length ≤ 1000) (h : ∀ x ∈ l, Small x) : Ev (fun k => ansi_Write.f k l) (wB (prows l)) := by
  unfold ansi_Write.f
  refine Ev.bind (rows_ev hl h) ?_
  have hn := prows_length l
  have hsm := prows_small h
  have hst := prows_set h
  revert hn hsm hst
  generalize prows l = rs
  intro hn hsm hst
  refine ev_eq (loop_up (fun k o i => ansi_Write.l0 k o rs (rs.length : Int) i) rs.length (fun o i => o ++ wB (rs.drop i)) (fun o i => o.length ≤ 60007 * i) ?_ ?_ [] 0 (by omega) (by simp)) (by simp)
  · intro o _
    exact Ev.step (f := fun _ => some o) (fun k => by simp only [ansi_Write.l0]; rw [if_neg (by omega)]) (ev_eq (Ev.now _) (by simp [wB]))
  · intro o i hi ho ih
    have hr := hsm rs[i] (List.getElem_mem hi)
    have hlen := refGo_length (nrm rs[i]) 0
    have hnl := nrm_length rs[i]
    refine Ev.step (f := fun k => (ansi_Row.f k rs[i]).bind fun t347 => (if o.length + t347.length < 140737488355328 then ((some (o ++ t347 : List Int)).bind fun y350 => (if y350.length < 140737488355328 then (ansi_Write.l0 k (y350 ++ [10]) rs (rs.length : Int) ((i + 1 : Nat) : Int)) else (none))) else (none))) (fun k => ?_) ?_
    · simp only [ansi_Write.l0]
      rw [if_pos (by omega), if_pos (by omega), if_pos (by omega), rdL rs i hi, wrap_up hi (by omega)]
    · refine Ev.bind (row_ev hr (hst _ (List.getElem_mem hi))) (ev_pos (by omega) (ev_bind1 rfl (ev_pos (by rw [List.length_append]; omega) (ev_eq (ih _ (by simp only [List.length_append, List.length_singleton]; omega)) ?_))))
      rw [wB_drop rs i hi]
      simp only [List.append_assoc]
end Go.Proofs.YtdjepocklmlnbaaDoor.Pure

/- Normal rows: what they are, and that they stay. -/
namespace Go.Proofs.YtdjepocklmlnbaaDoor.Pure
open Go.RowKit Go.Proofs.YtdjepocklmlnbaaDoorW.PrintWords Go.Proofs.YtdjepocklmlnbaaDoorW.PrintLast Go.Proofs.YtdjepocklmlnbaaDoorW.PrintMore Go.Proofs.YtdjepocklmlnbaaDoor.X Go.Proofs.YtdjepocklmlnbaaDoor.Hand
set_option linter.unusedVariables false
end Go.Proofs.YtdjepocklmlnbaaDoor.Pure

/- Rows with signs: each 27 begins a sign; two signs for each run that is set. -/
namespace Go.Proofs.YtdjepocklmlnbaaDoor.Pure
open Go Go.RowKit Go.Proofs.YtdjepocklmlnbaaDoorW.PrintWords Go.Proofs.YtdjepocklmlnbaaDoorW.PrintLast Go.Proofs.YtdjepocklmlnbaaDoorW.PrintMore Go.Proofs.YtdjepocklmlnbaaDoor.X Go.Proofs.YtdjepocklmlnbaaDoor.Hand
set_option linter.unusedSimpArgs false
set_option linter.unusedVariables false
theorem wB_length : ∀ rs : List (List Gl), (∀ r ∈ rs, r.length ≤ 3000) → (wB rs).length ≤ 60007 * rs.length
  | [], _ => by simp [wB]
  | r :: t, h => by
    have h1 := wB_length t (fun x hx => h x (by simp [hx]))
    have h2 := h r (by simp)
    have h3 := refGo_length (nrm r) 0
    have h4 := nrm_length r
    have e : wB (r :: t) = (refGo (nrm r) 0 ++ [10]) ++ wB t := by
      unfold wB
      rw [List.map_cons, List.flatten_cons]
    rw [e]
    simp only [List.length_append, List.length_cons, List.length_nil]
    omega
theorem refGo_Bytes : ∀ (c : List Gl) (s : Int), Bytes (refGo c s)
  | [], s => by
    rw [refGo]
    split
    · intro x hx
      simp at hx
    · exact sgL_Bytes 0
  | g :: t, s => by
    have hn : Bytes ([] : List Int) := fun x hx => by simp at hx
    rw [refGo]
    refine bytes_append ?_ (bytes_append (encode_bytes _) (refGo_Bytes t _))
    split
    · exact hn
    · refine bytes_append ?_ ?_
      · split
        · exact hn
        · exact sgL_Bytes 0
      · split
        · exact hn
        · exact sgL_Bytes _
end Go.Proofs.YtdjepocklmlnbaaDoor.Pure

/- The reference's Erase; a row that is set plain. -/
namespace Go.Proofs.YtdjepocklmlnbaaDoor.Pure
open Go Go.RowKit Go.Proofs.YtdjepocklmlnbaaDoorW.PrintWords Go.Proofs.YtdjepocklmlnbaaDoorW.PrintLast Go.Proofs.YtdjepocklmlnbaaDoorW.PrintMore Go.Proofs.YtdjepocklmlnbaaDoor.X Go.Proofs.YtdjepocklmlnbaaDoor.Hand
set_option linter.unusedSimpArgs false
set_option linter.unusedVariables false
theorem rerase_ev (l : List Gl) (h : l.length ≤ 1000000) : Ev (fun k => flongref17_Erase.f k l) (erase l) := by
  unfold flongref17_Erase.f
  refine ev_eq (loop_up (fun k o i => flongref17_Erase.l0 k l o i) l.length (fun o i => o ++ erase (l.drop i)) (fun o i => o.length ≤ i) ?_ ?_ [] 0 (by omega) (by simp)) (by simp)
  · intro o _
    exact Ev.step (f := fun _ => some o) (fun k => by simp only [flongref17_Erase.l0]; rw [if_neg (by omega)]) (ev_eq (Ev.now _) (by simp [erase]))
  · intro o i hi ho ih
    refine Ev.step (f := fun k => flongref17_Erase.l0 k l (o ++ [⟨l[i].f0, 0⟩]) ((i + 1 : Nat) : Int)) (fun k => ?_) (ev_eq (ih (o ++ [⟨l[i].f0, 0⟩]) (by simp; omega)) ?_)
    · simp only [flongref17_Erase.l0]
      rw [if_pos (by omega), if_pos (by omega), if_pos (by omega), rdG l i hi, wrap_up hi (by omega)]
    · rw [List.drop_eq_getElem_cons hi, List.append_assoc]
      rfl
theorem normGo_zero : ∀ (l : List Gl) (p : Option Int), (∀ s, p = some s → s = 0) → (∀ g ∈ l, g.f1 = 0) → ∀ g ∈ normGo p l, g.f1 = 0
  | [], _, _, _, g, h => by simp [normGo] at h
  | x :: t, p, hp, hl, g, h => by
    have hx : setOf p x = 0 := by
      unfold setOf
      split
      · rfl
      · cases p with
        | none => exact hl x (by simp)
        | some s =>
          simp only
          split
          · exact hp s rfl
          · exact hl x (by simp)
    rw [normGo] at h
    rcases List.mem_cons.1 h with rfl | h
    · exact hx
    · exact normGo_zero t _ (fun s e => by injection e with e; rw [← e]; exact hx) (fun y hy => hl y (by simp [hy])) g h
theorem nrm_zero {l : List Gl} (h : ∀ g ∈ l, g.f1 = 0) : ∀ g ∈ nrm l, g.f1 = 0 := by
  unfold nrm
  refine normGo_zero _ none (fun s e => by cases e) (fun g hg => ?_)
  have h1 := (List.dropWhile_sublist _).subset (List.mem_of_mem_take hg)
  obtain ⟨x, hx, rfl⟩ := List.mem_map.1 h1
  unfold cleanG
  rw [h x hx]
  show Go.bits .and .u8 0 3 = 0
  decide +kernel
theorem erase_zero (l : List Gl) : ∀ g ∈ erase l, g.f1 = 0 := by
  intro g hg
  obtain ⟨x, _, rfl⟩ := List.mem_map.1 hg
  rfl
theorem erase_length (l : List Gl) : (erase l).length = l.length := by unfold erase; rw [List.length_map]
end Go.Proofs.YtdjepocklmlnbaaDoor.Pure

/- The reference's test of a rune. -/
namespace Go.Proofs.YtdjepocklmlnbaaDoor.Pure
open Go Go.RowKit Go.Proofs.YtdjepocklmlnbaaDoorW.PrintWords Go.Proofs.YtdjepocklmlnbaaDoorW.PrintLast Go.Proofs.YtdjepocklmlnbaaDoorW.PrintMore Go.Proofs.YtdjepocklmlnbaaDoor.X Go.Proofs.YtdjepocklmlnbaaDoor.Hand
set_option linter.unusedSimpArgs false
set_option linter.unusedVariables false
theorem rvalid_eq (a : Int) : flongref02_Valid.f a = some (validB a) := by
  unfold flongref02_Valid.f
  by_cases h1 : a ≥ 0 <;> by_cases h2 : a < 1114112 <;> by_cases h3 : a < 55296 <;> simp only [h1, h2, h3, if_true, if_false] <;> congr 1 <;> (rw [Bool.eq_iff_iff]; simp [validB]; omega)
end Go.Proofs.YtdjepocklmlnbaaDoor.Pure

/- The references of layer 2 that look at one rune. -/
namespace Go.Proofs.YtdjepocklmlnbaaDoor.Pure
open Go.RowKit Go.Proofs.YtdjepocklmlnbaaDoorW.PrintWords Go.Proofs.YtdjepocklmlnbaaDoorW.PrintLast Go.Proofs.YtdjepocklmlnbaaDoorW.PrintMore Go.Proofs.YtdjepocklmlnbaaDoor.X Go.Proofs.YtdjepocklmlnbaaDoor.Hand
set_option linter.unusedSimpArgs false
set_option linter.unusedVariables false
theorem rcontrol_eq (a : Int) : flongref02_Control.f a = some (controlB a) := by
  unfold flongref02_Control.f
  by_cases h1 : a ≥ 0 <;> by_cases h2 : a ≤ 31 <;> by_cases h3 : a ≥ 127 <;> by_cases h4 : a ≤ 159 <;> by_cases h5 : a = 8232 <;> simp only [h1, h2, h3, h4, h5, if_true, if_false] <;> congr 1 <;> (rw [Bool.eq_iff_iff]; simp [controlB]; omega)
theorem rsafe_eq (a : Int) : flongref02_Safe.f a = some (safe a) := by
  unfold flongref02_Safe.f
  rw [rvalid_eq, Option.bind_some]
  by_cases h1 : validB a = true
  · rw [if_pos h1, rcontrol_eq, Option.bind_some]
    cases h2 : controlB a <;> simp [safe, h1, h2]
  · rw [if_neg h1]
    simp [safe, h1]
theorem within_step (r : Int) (ls : List Int) (n : Nat) (hn : ls.length = 2 * n) (hs : n ≤ 1000) (i : Nat) (hlt : i < n) (k : Nat) : flongref02_within.l0 (k + 1) r ls ((2 * i : Nat) : Int) =
    if r ≥ lowAt ls i then (if r ≤ highAt ls i then some true else flongref02_within.l0 k r ls ((2 * (i + 1) : Nat) : Int)) else flongref02_within.l0 k r ls ((2 * (i + 1) : Nat) : Int) := by
  have e0 : rd ls ((2 * i : Nat) : Int) = lowAt ls i := by
    rw [rd_nat ls (2 * i) (by omega)]
    simp [lowAt, List.getD_eq_getElem?_getD, Nat.mul_comm i 2, List.getElem?_eq_getElem (show 2 * i < ls.length by omega)]
  have e1 : rd ls (((2 * i : Nat) : Int) + 1) = highAt ls i := by
    rw [show ((2 * i : Nat) : Int) + 1 = ((2 * i + 1 : Nat) : Int) from by omega, rd_nat ls (2 * i + 1) (by omega)]
    simp [highAt, List.getD_eq_getElem?_getD, Nat.mul_comm i 2, List.getElem?_eq_getElem (show 2 * i + 1 < ls.length by omega)]
  simp only [flongref02_within.l0]
  rw [wrap_of (x := ((2 * i : Nat) : Int) + 1) (by omega) (by omega), wrap_of (x := ((2 * i : Nat) : Int) + 2) (by omega) (by omega), if_pos (by omega), if_pos (by omega), if_pos (by omega), e0, e1, show ((2 * i : Nat) : Int) + 2 = ((2 * (i + 1) : Nat) : Int) from by omega]
  split
  · rw [if_pos (by omega)]
  · rfl
theorem within_end (r : Int) (ls : List Int) (n : Nat) (hn : ls.length = 2 * n) (hs : n ≤ 1000) (k : Nat) : flongref02_within.l0 (k + 1) r ls ((2 * n : Nat) : Int) = some false := by
  simp only [flongref02_within.l0]
  rw [wrap_of (by omega) (by omega), if_neg (by omega)]
theorem part_range (r : Int) (ls : List Int) (n i : Nat) (hlt : i < n) : (∃ j, i ≤ j ∧ j < n ∧ lowAt ls j ≤ r ∧ r ≤ highAt ls j) ↔ (lowAt ls i ≤ r ∧ r ≤ highAt ls i) ∨ ∃ j, i + 1 ≤ j ∧ j < n ∧ lowAt ls j ≤ r ∧ r ≤ highAt ls j := by
  constructor
  · rintro ⟨j, h1, h2, h3⟩
    by_cases e : j = i
    · subst e; exact .inl h3
    · exact .inr ⟨j, by omega, h2, h3⟩
  · rintro (h | ⟨j, h1, h2, h3⟩)
    · exact ⟨i, Nat.le_refl _, hlt, h⟩
    · exact ⟨j, by omega, h2, h3⟩
theorem within_l (r : Int) (ls : List Int) (n : Nat) (hn : ls.length = 2 * n) (hs : n ≤ 1000) : ∀ (d i : Nat), n - i = d → i ≤ n → ∀ b : Bool, (b = true ↔ ∃ j, i ≤ j ∧ j < n ∧ lowAt ls j ≤ r ∧ r ≤ highAt ls j) → Ev (fun k => flongref02_within.l0 k r ls ((2 * i : Nat) : Int)) b := by
  intro d
  induction d with
  | zero =>
    intro i hd hi b hb
    obtain rfl : i = n := by clear hb; omega
    refine Ev.step (f := fun _ => some false) (fun k => within_end r ls i hn hs k) (ev_eq (Ev.now _) ?_)
    cases b with
    | false => rfl
    | true =>
      obtain ⟨j, h1, h2, _⟩ := hb.1 rfl
      exact absurd h2 (Nat.not_lt.2 h1)
  | succ d ih =>
    intro i hd hi b hb
    have hlt : i < n := by clear hb; omega
    have hnext := ih (i + 1) (by clear hb; omega) (by clear hb; omega)
    refine Ev.step (within_step r ls n hn hs i hlt) ?_
    refine ev_ite (fun h => ev_ite (fun h' => ev_eq (Ev.now _) ?_) (fun h' => hnext b ?_)) (fun h => hnext b ?_)
    · exact ((hb.trans (part_range r ls n i hlt)).2 (.inl ⟨h, h'⟩)).symm
    · rw [hb, part_range r ls n i hlt]
      exact ⟨fun z => z.resolve_left (fun q => h' q.2), .inr⟩
    · rw [hb, part_range r ls n i hlt]
      exact ⟨fun z => z.resolve_left (fun q => h q.1), .inr⟩
theorem within_ev (r : Int) (ls : List Int) (n : Nat) (hn : ls.length = 2 * n) (hs : n ≤ 1000) : Ev (fun k => flongref02_within.f k r ls) (inRange ls n r) := by
  unfold flongref02_within.f
  refine within_l r ls n hn hs n 0 (by omega) (by omega) _ ?_
  rw [inRange_true]
  constructor
  · rintro ⟨j, h2, h3⟩; exact ⟨j, Nat.zero_le _, h2, h3⟩
  · rintro ⟨j, _, h2, h3⟩; exact ⟨j, h2, h3⟩
theorem rwidth_ev (r : Int) : Ev (fun k => flongref02_Width.f k r) (wid r) := by
  have hj : ∀ b : Bool, Ev (fun k => flongref02_Width.j0 k r b) (if b = true then 0 else if inRange noneL 12 r = true then 0 else if inRange wideL 16 r = true then 2 else 1) := by
    intro b
    refine Ev.step (f := fun k => if b = true then some 0 else ((flongref02_within.f k r noneL).bind fun t => if t = true then some 0 else ((flongref02_within.f k r wideL).bind fun t => if t = true then some 2 else some 1))) (fun k => by simp only [flongref02_Width.j0, noneL, wideL]) ?_
    refine ev_ite (fun h => ev_eq (Ev.now _) (by simp [h])) (fun h => Ev.bind (within_ev r noneL 12 rfl (by omega)) (ev_ite (fun h1 => ev_eq (Ev.now _) (by simp [h, h1])) (fun h1 => Ev.bind (within_ev r wideL 16 rfl (by omega)) (ev_ite (fun h2 => ev_eq (Ev.now _) (by simp [h, h1, h2])) (fun h2 => ev_eq (Ev.now _) (by simp [h, h1, h2]))))))
  unfold flongref02_Width.f
  refine ev_bind1 (rvalid_eq r) (ev_ite (fun h => ev_bind1 (rcontrol_eq r) (ev_eq (hj _) ?_)) (fun h => ev_eq (hj _) ?_))
  · simp [wid, h]
  · simp [wid, h]
end Go.Proofs.YtdjepocklmlnbaaDoor.Pure

/- The reference: what may be written of a row. -/
namespace Go.Proofs.YtdjepocklmlnbaaDoor.Pure
open Go.RowKit Go.Proofs.YtdjepocklmlnbaaDoorW.PrintWords Go.Proofs.YtdjepocklmlnbaaDoorW.PrintLast Go.Proofs.YtdjepocklmlnbaaDoorW.PrintMore Go.Proofs.YtdjepocklmlnbaaDoor.X Go.Proofs.YtdjepocklmlnbaaDoor.Hand
set_option linter.unusedSimpArgs false
set_option linter.unusedVariables false
theorem tmod4 {x : Int} (h : 0 ≤ x ∧ x ≤ 255) : Int.tmod x 4 = Go.bits .and .u8 x 3 := by
  have h1 : ∀ n : Nat, n < 256 → Int.tmod (n : Int) 4 = Go.bits .and .u8 (n : Int) 3 := by decide +kernel
  obtain ⟨n, rfl⟩ := Int.eq_ofNat_of_zero_le h.1
  exact h1 n (by omega)
theorem safe_32 : safe 32 = 32 := by decide +kernel
theorem rclean_ev (l : List Gl) (h : l.length ≤ 5000) (h8 : ∀ g ∈ l, 0 ≤ g.f1 ∧ g.f1 ≤ 255) : Ev (fun k => flongref03_Clean.f k l) (clean l) := by
  unfold flongref03_Clean.f
  refine ev_eq (loop_up (fun k o i => flongref03_Clean.l0 k l o i) l.length (fun o i => if o = [] then clean (l.drop i) else o ++ (l.drop i).map cleanG) (fun o i => o.length ≤ i) ?_ ?_ [] 0 (by omega) (by simp)) (by simp)
  · intro o _
    refine Ev.step (f := fun _ => some o) (fun k => by simp only [flongref03_Clean.l0]; rw [if_neg (by omega)]) (ev_eq (Ev.now _) ?_)
    rw [List.drop_length]
    split
    · rename_i e
      rw [e]
      rfl
    · simp
  · intro o i hi ho ih
    have h1 : Ev (fun k => flongref03_Clean.l0 k l (o ++ [cleanG l[i]]) ((i + 1 : Nat) : Int)) (o ++ cleanG l[i] :: (l.drop (i + 1)).map cleanG) := by
      refine ev_eq (ih (o ++ [cleanG l[i]]) (by simp; omega)) ?_
      rw [if_neg (by simp), List.append_assoc]
      rfl
    have hst : Int.tmod l[i].f1 4 = Go.bits .and .u8 l[i].f1 3 := tmod4 (h8 l[i] (List.getElem_mem hi))
    have hj : ∀ x : Int, cleanG l[i] = ⟨x, Int.tmod l[i].f1 4⟩ → Ev (fun k => if (o.length : Int) > 0 then (if o.length < 17592186044416 then flongref03_Clean.l0 k l (o ++ [(⟨x, Int.tmod l[i].f1 4⟩ : Gl)]) ((i + 1 : Nat) : Int) else none) else ((flongref02_Width.f k x).bind fun t => if t > 0 then (if o.length < 17592186044416 then flongref03_Clean.l0 k l (o ++ [(⟨x, Int.tmod l[i].f1 4⟩ : Gl)]) ((i + 1 : Nat) : Int) else none) else flongref03_Clean.l0 k l o ((i + 1 : Nat) : Int))) (if o = [] then clean (l.drop i) else o ++ (l.drop i).map cleanG) := by
      intro x hx
      rw [← hx]
      refine ev_ite (fun hc => ev_pos (by omega) (ev_eq h1 ?_)) (fun hc => ?_)
      · rw [if_neg (by intro e; rw [e] at hc; simp at hc), List.drop_eq_getElem_cons hi, List.map_cons]
      · obtain rfl : o = [] := by
          rcases o with _ | ⟨_, _⟩
          · rfl
          · exfalso
            apply hc
            simp only [List.length_cons]
            omega
        rw [if_pos rfl]
        have hw : wid x = wid (cleanG l[i]).f0 := by rw [hx]
        refine Ev.bind (rwidth_ev x) ?_
        rw [hw]
        refine ev_ite (fun hp => ev_pos (by simp) (ev_eq h1 ?_)) (fun hp => ev_eq (ih [] (by simp)) ?_)
        · rw [List.drop_eq_getElem_cons hi, clean, List.map_cons, List.dropWhile_cons, if_neg (by simp [hp])]
          rfl
        · rw [if_pos rfl, List.drop_eq_getElem_cons hi, clean, clean, List.map_cons, List.dropWhile_cons, if_pos (by simp [hp])]
    by_cases hc : l[i].f0 = 160
    · refine Ev.step (f := fun k => if (o.length : Int) > 0 then (if o.length < 17592186044416 then flongref03_Clean.l0 k l (o ++ [(⟨32, Int.tmod l[i].f1 4⟩ : Gl)]) ((i + 1 : Nat) : Int) else none) else ((flongref02_Width.f k 32).bind fun t => if t > 0 then (if o.length < 17592186044416 then flongref03_Clean.l0 k l (o ++ [(⟨32, Int.tmod l[i].f1 4⟩ : Gl)]) ((i + 1 : Nat) : Int) else none) else flongref03_Clean.l0 k l o ((i + 1 : Nat) : Int))) (fun k => ?_) (hj 32 ?_)
      · simp only [flongref03_Clean.l0]
        rw [if_pos (by omega), if_pos (by omega), rdG l i hi, rsafe_eq, Option.bind_some, if_pos hc, wrap_up hi (by omega)]
      · rw [cleanG, if_pos hc, safe_32, hst]
    · refine Ev.step (f := fun k => if (o.length : Int) > 0 then (if o.length < 17592186044416 then flongref03_Clean.l0 k l (o ++ [(⟨safe l[i].f0, Int.tmod l[i].f1 4⟩ : Gl)]) ((i + 1 : Nat) : Int) else none) else ((flongref02_Width.f k (safe l[i].f0)).bind fun t => if t > 0 then (if o.length < 17592186044416 then flongref03_Clean.l0 k l (o ++ [(⟨safe l[i].f0, Int.tmod l[i].f1 4⟩ : Gl)]) ((i + 1 : Nat) : Int) else none) else flongref03_Clean.l0 k l o ((i + 1 : Nat) : Int))) (fun k => ?_) (hj (safe l[i].f0) ?_)
      · simp only [flongref03_Clean.l0]
        rw [if_pos (by omega), if_pos (by omega), rdG l i hi, rsafe_eq, Option.bind_some, if_neg hc, wrap_up hi (by omega)]
      · rw [cleanG, if_neg hc, hst]
end Go.Proofs.YtdjepocklmlnbaaDoor.Pure

/- The reference: a row trimmed. -/
namespace Go.Proofs.YtdjepocklmlnbaaDoor.Pure
open Go.RowKit Go.Proofs.YtdjepocklmlnbaaDoorW.PrintWords Go.Proofs.YtdjepocklmlnbaaDoorW.PrintLast Go.Proofs.YtdjepocklmlnbaaDoorW.PrintMore Go.Proofs.YtdjepocklmlnbaaDoor.X Go.Proofs.YtdjepocklmlnbaaDoor.Hand
set_option linter.unusedSimpArgs false
set_option linter.unusedVariables false
theorem rtrim_ev {l : List Gl} {m : Nat} (hm : IsTrim l m) (h : l.length ≤ 5000) : Ev (fun k => flongref03_Trim.f k l) (l.take m) := by
  have hle := hm.le
  have hend : (if 0 ≤ (m : Int) then (if (m : Int) ≤ (l.length : Int) then (some (l.take (m : Int).toNat)) else (none)) else (none)) = some (l.take m) := by
    rw [if_pos (by omega), if_pos (by omega), Int.toNat_natCast]
  have key : ∀ d n, n - m = d → m ≤ n → n ≤ l.length → Ev (fun k => flongref03_Trim.l0 k l (n : Int)) (l.take m) := by
    intro d
    induction d with
    | zero =>
      intro n hd h1 h2
      obtain rfl : n = m := by omega
      refine Ev.step (f := fun _ => some (l.take n)) (fun k => ?_) (Ev.now _)
      simp only [flongref03_Trim.l0]
      by_cases hp : 0 < n
      · have hg := hm.last l[n - 1] hp (List.getElem?_eq_getElem (by omega))
        rw [if_pos (by omega), wrap_of (by omega) (by omega), show (n : Int) - 1 = ((n - 1 : Nat) : Int) by omega, if_pos (by omega), if_pos (by omega), rdG l (n - 1) (by omega), if_neg hg, hend]
      · rw [if_neg (by omega), hend]
    | succ d ih =>
      intro n hd h1 h2
      have hg := hm.rest (n - 1) (l[n - 1]'(by omega)) (by omega) (List.getElem?_eq_getElem (by omega))
      refine Ev.step (f := fun k => flongref03_Trim.l0 k l ((n - 1 : Nat) : Int)) (fun k => ?_) (ih (n - 1) (by omega) (by omega) (by omega))
      simp only [flongref03_Trim.l0]
      rw [if_pos (by omega), wrap_of (by omega) (by omega), show (n : Int) - 1 = ((n - 1 : Nat) : Int) by omega, if_pos (by omega), if_pos (by omega), rdG l (n - 1) (by omega), if_pos hg]
  unfold flongref03_Trim.f
  exact key (l.length - m) l.length rfl hle (Nat.le_refl _)
end Go.Proofs.YtdjepocklmlnbaaDoor.Pure

/- The reference: a row made normal. -/
namespace Go.Proofs.YtdjepocklmlnbaaDoor.Pure
open Go.RowKit Go.Proofs.YtdjepocklmlnbaaDoorW.PrintWords Go.Proofs.YtdjepocklmlnbaaDoorW.PrintLast Go.Proofs.YtdjepocklmlnbaaDoorW.PrintMore Go.Proofs.YtdjepocklmlnbaaDoor.X Go.Proofs.YtdjepocklmlnbaaDoor.Hand
set_option linter.unusedSimpArgs false
set_option linter.unusedVariables false
theorem rnormal_ev (l : List Gl) {m : Nat} (hm : IsTrim (clean l) m) (h : l.length ≤ 5000) (h8 : ∀ g ∈ l, 0 ≤ g.f1 ∧ g.f1 ≤ 255) : Ev (fun k => flongref17_Normal.f k l) (normGo none ((clean l).take m)) := by
  have hcl := clean_length l
  unfold flongref17_Normal.f
  refine Ev.bind (rclean_ev l h h8) (Ev.bind (rtrim_ev hm (by omega)) ?_)
  have hlen : ((clean l).take m).length ≤ 1000000 := by rw [List.length_take]; omega
  generalize (clean l).take m = c at hlen
  refine ev_eq (loop_up (fun k o i => flongref17_Normal.l0 k c o i) c.length (fun o i => o ++ normGo (lastS o) (c.drop i)) (fun o i => o.length = i) ?_ ?_ [] 0 (by omega) rfl) (by simp [lastS])
  · intro o ho
    refine Ev.step (f := fun _ => some o) (fun k => by simp only [flongref17_Normal.l0]; rw [if_neg (by omega)]) (ev_eq (Ev.now _) ?_)
    rw [List.drop_length, normGo, List.append_nil]
  · intro o i hi ho ih
    have hnext : ∀ x : Gl, x = ⟨c[i].f0, setOf (lastS o) c[i]⟩ → Ev (fun k => flongref17_Normal.l0 k c (o ++ [x]) ((i + 1 : Nat) : Int)) (o ++ normGo (lastS o) (c.drop i)) := by
      intro x hx
      refine ev_eq (ih (o ++ [x]) (by simp [ho])) ?_
      rw [List.drop_eq_getElem_cons hi, lastS_snoc, normGo, hx, List.append_assoc]
      rfl
    have hj : ∀ b : Bool, (b = true ↔ (o ≠ [] ∧ wid c[i].f0 = 0)) → Ev (fun k => flongref17_Normal.j1 k c o (i : Int) b c[i].f0 c[i].f1) (o ++ normGo (lastS o) (c.drop i)) := by
      intro b hb
      by_cases h32 : c[i].f0 = 32
      · have hn := hnext ⟨c[i].f0, 0⟩ (by simp [setOf, h32])
        refine Ev.step (fun k => ?_) hn
        simp only [flongref17_Normal.j1]
        cases b with
        | false => rw [if_neg (by simp), if_pos h32, if_pos (by omega), wrap_up hi (by omega)]
        | true =>
          have ho0 : o ≠ [] := (hb.1 rfl).1
          have := List.length_pos_iff.2 ho0
          rw [if_pos rfl, wrap_of (by omega) (by omega), if_pos (by omega), if_pos (by omega), if_pos h32, if_pos (by omega), wrap_up hi (by omega)]
      · cases b with
        | false =>
          have hz : ¬ (o ≠ [] ∧ wid c[i].f0 = 0) := fun e => by simpa using hb.2 e
          have hn := hnext ⟨c[i].f0, c[i].f1⟩ (by
            rcases List.eq_nil_or_concat o with e | ⟨o', y, e⟩
            · simp [setOf, h32, e, lastS]
            · have hne : o ≠ [] := by rw [e]; simp
              have hw : ¬ wid c[i].f0 = 0 := fun e2 => hz ⟨hne, e2⟩
              rw [List.concat_eq_append] at e
              simp [setOf, h32, e, lastS_snoc, hw])
          refine Ev.step (fun k => ?_) hn
          simp only [flongref17_Normal.j1]
          rw [if_neg (by simp), if_neg h32, if_pos (by omega), wrap_up hi (by omega)]
        | true =>
          obtain ⟨ho0, hw⟩ := hb.1 rfl
          rcases List.eq_nil_or_concat o with e | ⟨o', y, e⟩
          · exact absurd e ho0
          · rw [List.concat_eq_append] at e
            have hol : o.length = o'.length + 1 := by rw [e]; simp
            have hy : rd_T44 o ((i - 1 : Nat) : Int) = y := by
              rw [rdG _ _ (by omega)]
              have : i - 1 = o'.length := by omega
              simp [e, this]
            have hn := hnext ⟨c[i].f0, y.f1⟩ (by rw [e]; simp [setOf, h32, lastS_snoc, hw])
            refine Ev.step (fun k => ?_) hn
            simp only [flongref17_Normal.j1]
            rw [if_pos trivial, wrap_of (by omega) (by omega), show (i : Int) - 1 = ((i - 1 : Nat) : Int) by omega, if_pos (by omega), if_pos (by omega), if_neg h32, if_pos (by omega), hy, wrap_up hi (by omega)]
    by_cases h0 : 0 < i
    · have hne : o ≠ [] := by intro e; rw [e] at ho; simp at ho; omega
      refine Ev.step (f := fun k => (flongref02_Width.f k c[i].f0).bind fun t => flongref17_Normal.j1 k c o (i : Int) (t == 0) c[i].f0 c[i].f1) (fun k => ?_) (Ev.bind (rwidth_ev _) (hj _ (by simp [hne])))
      simp only [flongref17_Normal.l0]
      rw [if_pos (by omega), if_pos (by omega), if_pos (by omega), rdG c i hi]
    · have he : o = [] := List.eq_nil_of_length_eq_zero (by omega)
      refine Ev.step (f := fun k => flongref17_Normal.j1 k c o (i : Int) false c[i].f0 c[i].f1) (fun k => ?_) (hj false (by simp [he]))
      simp only [flongref17_Normal.l0]
      rw [if_pos (by omega), if_pos (by omega), if_neg (by omega), rdG c i hi]
end Go.Proofs.YtdjepocklmlnbaaDoor.Pure

/- The reference's bytes of one rune. -/
namespace Go.Proofs.YtdjepocklmlnbaaDoor.Pure
open Go.RowKit Go.Proofs.YtdjepocklmlnbaaDoorW.PrintWords Go.Proofs.YtdjepocklmlnbaaDoorW.PrintLast Go.Proofs.YtdjepocklmlnbaaDoorW.PrintMore Go.Proofs.YtdjepocklmlnbaaDoor.X Go.Proofs.YtdjepocklmlnbaaDoor.Hand
set_option linter.unusedSimpArgs false
set_option linter.unusedVariables false

theorem rone_j {x : Int} (h : validB x = true) : Ev (fun k => flongref02_One.j0 k x) (enc x) := by
  have h' := (validB_iff x).1 h
  have t64 : Int.tdiv x 64 = x / 64 := Int.tdiv_eq_ediv_of_nonneg (by omega)
  have t4096 : Int.tdiv x 4096 = x / 4096 := Int.tdiv_eq_ediv_of_nonneg (by omega)
  have t26 : Int.tdiv x 262144 = x / 262144 := Int.tdiv_eq_ediv_of_nonneg (by omega)
  have m : ∀ y : Int, 0 ≤ y → Int.tmod y 64 = y % 64 := fun y hy => Int.tmod_eq_emod_of_nonneg hy
  refine Ev.step (f := fun _ => some (enc x)) (fun k => ?_) (Ev.now _)
  simp only [flongref02_One.j0, enc, t64, t4096, t26]
  rw [wrap_of (x := x / 64) (by omega) (by omega), wrap_of (x := x / 4096) (by omega) (by omega), wrap_of (x := x / 262144) (by omega) (by omega), m x (by omega), m (x / 64) (by omega), m (x / 4096) (by omega),
    wrap_of (x := 192 + x / 64) (by omega) (by omega), wrap_of (x := 224 + x / 4096) (by omega) (by omega), wrap_of (x := 240 + x / 262144) (by omega) (by omega), wrap_of (x := 128 + x % 64) (by omega) (by omega), wrap_of (x := 128 + x / 64 % 64) (by omega) (by omega), wrap_of (x := 128 + x / 4096 % 64) (by omega) (by omega)]
  split
  · rw [show x % 256 = x from by omega]
  · split
    · rw [show (192 + x / 64) % 256 = 192 + x / 64 from by omega, show (128 + x % 64) % 256 = 128 + x % 64 from by omega]
    · split
      · rw [show (224 + x / 4096) % 256 = 224 + x / 4096 from by omega, show (128 + x % 64) % 256 = 128 + x % 64 from by omega, show (128 + x / 64 % 64) % 256 = 128 + x / 64 % 64 from by omega]
      · rw [show (240 + x / 262144) % 256 = 240 + x / 262144 from by omega, show (128 + x % 64) % 256 = 128 + x % 64 from by omega, show (128 + x / 64 % 64) % 256 = 128 + x / 64 % 64 from by omega, show (128 + x / 4096 % 64) % 256 = 128 + x / 4096 % 64 from by omega]
theorem rone_ev (r : Int) : Ev (fun k => flongref02_One.f k r) (one r) := by
  unfold flongref02_One.f
  refine ev_bind1 (rvalid_eq r) (ev_ite (fun h => ?_) (fun h => ?_))
  · have h' := (validB_iff r).1 h
    rw [wrap_of (by omega) (by omega)]
    exact ev_eq (rone_j h) (by simp [one, h])
  · exact ev_eq (rone_j valid_odd) (by simp [one, h])
end Go.Proofs.YtdjepocklmlnbaaDoor.Pure

/- The reference's rows of glyphs: what text; rows of rows the same. -/
namespace Go.Proofs.YtdjepocklmlnbaaDoor.Pure
open Go.RowKit Go.Proofs.YtdjepocklmlnbaaDoorW.PrintWords Go.Proofs.YtdjepocklmlnbaaDoorW.PrintLast Go.Proofs.YtdjepocklmlnbaaDoorW.PrintMore Go.Proofs.YtdjepocklmlnbaaDoor.X Go.Proofs.YtdjepocklmlnbaaDoor.Hand
set_option linter.unusedSimpArgs false
set_option linter.unusedVariables false
theorem one_len4 (r : Int) : (one r).length ≤ 4 := by
  have := encode_length [r]
  rw [encode_cons, encode_nil, List.append_nil] at this
  simpa using this
theorem rgtext_ev (l : List Gl) (h : l.length ≤ 5000) : Ev (fun k => flongref03_Text.f k l) (strOfNums (encode (runesOf l))) := by
  unfold flongref03_Text.f
  refine ev_eq (loop_up (fun k o i => flongref03_Text.l0 k l o i) l.length (fun o i => strOfNums (o ++ encode (runesOf (l.drop i)))) (fun o i => o.length ≤ 4 * i) ?_ ?_ [] 0 (by omega) (by simp)) (by simp)
  · intro o _
    exact Ev.step (f := fun _ => some (strOfNums o)) (fun k => by simp only [flongref03_Text.l0]; rw [if_neg (by omega)]) (ev_eq (Ev.now _) (by rw [List.drop_length, runesOf_nil, encode_nil, List.append_nil]))
  · intro o i hi ho ih
    have hl := one_len4 l[i].f0
    refine Ev.step (f := fun k => (flongref02_One.f k l[i].f0).bind fun t => if o.length + t.length < 140737488355328 then flongref03_Text.l0 k l (o ++ t) ((i + 1 : Nat) : Int) else none) (fun k => ?_) ?_
    · simp only [flongref03_Text.l0]
      rw [if_pos (by omega), if_pos (by omega), rdG l i hi, wrap_up hi (by omega)]
    · refine Ev.bind (rone_ev _) (ev_pos (by omega) (ev_eq (ih (o ++ one l[i].f0) (by rw [List.length_append]; omega)) ?_))
      rw [List.drop_eq_getElem_cons hi, runesOf_cons, encode_cons, List.append_assoc]
end Go.Proofs.YtdjepocklmlnbaaDoor.Pure

/- What the chapter's example fixes: computed. -/
namespace Go.Proofs.YtdjepocklmlnbaaDoor.Pure
open Go.RowKit Go.Proofs.YtdjepocklmlnbaaDoorW.PrintWords Go.Proofs.YtdjepocklmlnbaaDoorW.PrintLast Go.Proofs.YtdjepocklmlnbaaDoor.X
theorem known_ev : Ev (fun k => flonglaw19_known.f k) true := Ev.of (k := 30) flonglaw19_known.mono (by kernel_rfl)
end Go.Proofs.YtdjepocklmlnbaaDoor.Pure
