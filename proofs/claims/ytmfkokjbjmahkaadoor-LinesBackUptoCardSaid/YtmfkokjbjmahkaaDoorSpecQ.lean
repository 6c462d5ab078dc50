/- SpecQ: several of this session's texts in one. -/
import Derived.Test.YtmfkokjbjmahkaaDoorVMore
import Derived.Lib.IndexBytes
import Derived.Test.YtmfkokjbjmahkaaDoorX2
import Derived.Test.YtmfkokjbjmahkaaDoorHandE
import Derived.Test.YtmfkokjbjmahkaaDoorHandS
import Derived.Test.YtmfkokjbjmahkaaDoorHandH
import Derived.Test.YtmfkokjbjmahkaaDoorX4
import Derived.Test.YtmfkokjbjmahkaaDoorX5
import Derived.Test.YtmfkokjbjmahkaaDoorHandB
import Derived.Test.YtmfkokjbjmahkaaDoorX3
/- Plain lemmas on printed functions: what holds from some number of rounds on. -/
namespace Go.Proofs.YtmfkokjbjmahkaaDoor.Pure
open Go.RowKit Go.Proofs.YtmfkokjbjmahkaaDoorW.PrintWords Go.Proofs.YtmfkokjbjmahkaaDoorW.PrintLast

theorem ev_pos {α : Type} {c : Prop} [Decidable c] {f g : Nat → Option α} {r : α} (h : c) (k : Ev f r) : Ev (fun n => if c then f n else g n) r := by
  obtain ⟨K, k⟩ := k
  exact ⟨K, fun n hn => by simp only [if_pos h]; exact k n hn⟩
theorem ev_neg {α : Type} {c : Prop} [Decidable c] {f g : Nat → Option α} {r : α} (h : ¬ c) (k : Ev g r) : Ev (fun n => if c then f n else g n) r := by
  obtain ⟨K, k⟩ := k
  exact ⟨K, fun n hn => by simp only [if_neg h]; exact k n hn⟩
theorem ev_ite {α : Type} {c : Prop} [Decidable c] {f g : Nat → Option α} {r : α} (h : c → Ev f r) (k : ¬ c → Ev g r) : Ev (fun n => if c then f n else g n) r := by
  by_cases hc : c
  · exact ev_pos hc (h hc)
  · exact ev_neg hc (k hc)
theorem ev_eq {α : Type} {g : Nat → Option α} {r r' : α} (h : Ev g r) (e : r = r') : Ev g r' := e ▸ h
theorem ev_one {α : Type} {g : Option α} {r : α} (h : g = some r) : Ev (fun _ => g) r := ⟨0, fun _ _ => h⟩
theorem wrap_of {x : Int} (h0 : -9223372036854775808 ≤ x) (h1 : x ≤ 9223372036854775807) : wrap64 x = x := by
  unfold wrap64
  omega
end Go.Proofs.YtmfkokjbjmahkaaDoor.Pure

/- A loop that goes up to a length, whatever its state. -/
namespace Go.Proofs.YtmfkokjbjmahkaaDoor.Pure
open Go.RowKit Go.Proofs.YtmfkokjbjmahkaaDoorW.PrintWords Go.Proofs.YtmfkokjbjmahkaaDoorW.PrintLast

theorem loop_up {σ β : Type} (L : Nat → σ → Int → Option β) (n : Nat) (res : σ → Nat → β) (I : σ → Nat → Prop)
    (hend : ∀ s, I s n → Ev (fun k => L k s (n : Int)) (res s n))
    (hstep : ∀ s i, i < n → I s i → (∀ s', I s' (i + 1) → Ev (fun k => L k s' ((i + 1 : Nat) : Int)) (res s' (i + 1))) → Ev (fun k => L k s (i : Int)) (res s i)) :
    ∀ s i, i ≤ n → I s i → Ev (fun k => L k s (i : Int)) (res s i) := by
  have h : ∀ d i, n - i = d → i ≤ n → ∀ s, I s i → Ev (fun k => L k s (i : Int)) (res s i) := by
    intro d
    induction d with
    | zero =>
      intro i hd hi s hs
      obtain rfl : i = n := by omega
      exact hend s hs
    | succ d ih =>
      intro i hd hi s hs
      exact hstep s i (by omega) hs (fun s' hs' => ih (i + 1) (by omega) (by omega) s' hs')
  exact fun s i hi hs => h (n - i) i rfl hi s hs
theorem wrap_up {i n : Nat} (h : i < n) (hn : n ≤ 9223372036854775807) : wrap64 ((i : Int) + 1) = ((i + 1 : Nat) : Int) := by
  rw [wrap_of (by omega) (by omega)]
  omega
end Go.Proofs.YtmfkokjbjmahkaaDoor.Pure

/- Texts as lists of bytes. -/
namespace Go.Proofs.YtmfkokjbjmahkaaDoor.Pure
open Go Go.RowKit Go.Proofs.YtmfkokjbjmahkaaDoorW.PrintWords Go.Proofs.YtmfkokjbjmahkaaDoorW.PrintLast Go.Proofs.YtmfkokjbjmahkaaDoorW.PrintMore
set_option linter.unusedSimpArgs false
set_option linter.unusedVariables false
def Bytes (l : List Int) : Prop := ∀ x ∈ l, 0 ≤ x ∧ x ≤ 255
theorem bytes_append {a b : List Int} (ha : Bytes a) (hb : Bytes b) : Bytes (a ++ b) := fun x hx => (List.mem_append.1 hx).elim (ha x) (hb x)
theorem bytes_drop {b : List Int} (h : Bytes b) (n : Nat) : Bytes (b.drop n) := fun x hx => h x (List.mem_of_mem_drop hx)
theorem bytes_take {b : List Int} (h : Bytes b) (n : Nat) : Bytes (b.take n) := fun x hx => h x (List.mem_of_mem_take hx)
theorem bytes_nil : Bytes [] := fun x hx => by simp at hx
theorem bytes_cons {x : Int} {b : List Int} (h : Bytes (x :: b)) : (0 ≤ x ∧ x ≤ 255) ∧ Bytes b := ⟨h x (by simp), fun y hy => h y (by simp [hy])⟩
theorem numsStr_append (a b : List Int) : strOfNums (a ++ b) = strOfNums a ++ strOfNums b := by
  apply ByteArray.ext
  apply Array.ext'
  rw [ByteArray.data_append, Array.toList_append, strOfNums_data, strOfNums_data, strOfNums_data, List.map_append]
theorem numsStr_size (a : List Int) : (strOfNums a).size = a.length := strOfNums_size a
theorem str_of (t : ByteArray) : strOfNums (bytesOf t) = t := by
  apply ByteArray.ext
  apply Array.ext'
  rw [strOfNums_data]
  unfold bytesOf
  rw [List.map_map]
  conv => rhs; rw [← List.map_id t.data.toList]
  apply List.map_congr_left
  intro x _
  simp
theorem bytesOf_Bytes (t : ByteArray) : Bytes (bytesOf t) := by
  intro x hx
  unfold bytesOf at hx
  obtain ⟨y, _, rfl⟩ := List.mem_map.1 hx
  have := y.toNat_lt
  omega
theorem str_extract (c : List Int) (i j : Nat) : (strOfNums c).extract i j = strOfNums ((c.take j).drop i) := by
  apply ByteArray.ext
  apply Array.ext'
  rw [ByteArray.data_extract, Array.toList_extract, List.extract_eq_take_drop, strOfNums_data, strOfNums_data, List.map_drop, List.map_take, List.drop_take]
theorem str_drop (c : List Int) (i : Nat) : (strOfNums c).extract i (strOfNums c).size = strOfNums (c.drop i) := by
  rw [str_extract, numsStr_size, List.take_length]
theorem str_take (c : List Int) (j : Nat) : (strOfNums c).extract 0 j = strOfNums (c.take j) := by rw [str_extract, List.drop_zero]
theorem str_toList (b : List Int) : (strOfNums b).toList = b.map fun n => UInt8.ofNat n.toNat := by
  rw [ByteArray.toList_eq, strOfNums_data]
theorem str_nil {b : List Int} : (strOfNums b).toList = [] ↔ b = [] := by
  rw [str_toList, List.map_eq_nil_iff]
theorem bt_str {b : List Int} (hb : Bytes b) (i : Nat) (h : i < b.length) : bt (strOfNums b) (i : Int) = b[i] := by
  unfold bt
  have hs : (i : Int).toNat < (strOfNums b).size := by rw [numsStr_size]; omega
  rw [dif_pos hs]
  have h1 := Lib.data_getElem? (strOfNums b) i (by rw [numsStr_size]; omega)
  rw [strOfNums_data, List.getElem?_map, List.getElem?_eq_getElem h] at h1
  have h2 := Option.some.inj h1
  have hx := hb b[i] (List.getElem_mem h)
  simp only [Int.toNat_natCast]
  rw [← h2]
  simp
  omega
theorem bt_head {x : Int} {b : List Int} (hb : Bytes (x :: b)) : bt (strOfNums (x :: b)) 0 = x := bt_str hb 0 (by simp)
end Go.Proofs.YtmfkokjbjmahkaaDoor.Pure

/- Backslashes ahead of a place, words, texts in quotation marks, arguments: what they are. -/
namespace Go.Proofs.YtmfkokjbjmahkaaDoor.Pure
open Go Go.RowKit Go.Proofs.YtmfkokjbjmahkaaDoorW.PrintWords
set_option linter.unusedSimpArgs false
set_option linter.unusedVariables false
/-- How many backslashes stand at the end. -/
def tailV (b : List Int) : Nat := (b.reverse.takeWhile (· == 92)).length
/-- Is it an odd number? -/
def oddP (b : List Int) : Bool := tailV b % 2 == 1
theorem tailV_snoc (b : List Int) (x : Int) : tailV (b ++ [x]) = if x = 92 then tailV b + 1 else 0 := by
  unfold tailV
  rw [List.reverse_append, List.reverse_singleton, List.singleton_append, List.takeWhile_cons]
  by_cases h : x = 92
  · rw [if_pos h, if_pos (by simp [h])]
    simp
  · rw [if_neg h, if_neg (by simp [h])]
    rfl
theorem oddP_nil : oddP [] = false := rfl
theorem oddP_snoc (b : List Int) (x : Int) : oddP (b ++ [x]) = if x = 92 then !oddP b else false := by
  unfold oddP
  rw [tailV_snoc]
  by_cases h : x = 92
  · rw [if_pos h, if_pos h]
    have h1 : (tailV b + 1) % 2 = 1 - tailV b % 2 := by omega
    rw [h1]
    rcases Nat.mod_two_eq_zero_or_one (tailV b) with e | e <;> rw [e] <;> rfl
  · rw [if_neg h, if_neg h]
    rfl
theorem oddP_take {b : List Int} {i : Nat} (h : i < b.length) : oddP (b.take (i + 1)) = if b[i] = 92 then !oddP (b.take i) else false := by
  rw [List.take_succ_eq_append_getElem h, oddP_snoc]
def isBl (x : Int) : Bool := x == 32 || x == 9
/-- How long a word is: up to a blank that no odd number of backslashes stands ahead of. -/
def wordN : Bool → List Int → Nat
  | _, [] => 0
  | o, x :: t => if isBl x = true ∧ o = false then 0 else wordN (if x = 92 then !o else false) t + 1
theorem wordN_le : ∀ (b : List Int) (o : Bool), wordN o b ≤ b.length
  | [], o => by simp [wordN]
  | x :: t, o => by
    unfold wordN
    split
    · simp
    · have := wordN_le t (if x = 92 then !o else false)
      simp only [List.length_cons]
      omega
/-- What stands in quotation marks, how much that takes, whether it ends. -/
def quoN : List Int → List Int × Nat × Bool
  | [] => ([], 0, false)
  | [x] => if x = 34 then ([], 1, true) else ([x], 1, false)
  | x :: y :: t => if x = 34 then (if y = 34 then (34 :: (quoN t).1, (quoN t).2.1 + 2, (quoN t).2.2) else ([], 1, true)) else (x :: (quoN (y :: t)).1, (quoN (y :: t)).2.1 + 1, (quoN (y :: t)).2.2)
theorem quoN_other {x : Int} (h : x ≠ 34) (t : List Int) : quoN (x :: t) = (x :: (quoN t).1, (quoN t).2.1 + 1, (quoN t).2.2) := by
  cases t with
  | nil => simp [quoN, h]
  | cons y t => rw [quoN, if_neg h]
theorem quoN_two (t : List Int) : quoN (34 :: 34 :: t) = (34 :: (quoN t).1, (quoN t).2.1 + 2, (quoN t).2.2) := by rw [quoN, if_pos rfl, if_pos rfl]
theorem quoN_end {y : Int} (h : y ≠ 34) (t : List Int) : quoN (34 :: y :: t) = ([], 1, true) := by rw [quoN, if_pos rfl, if_neg h]
theorem quoN_one : quoN [34] = ([], 1, true) := rfl
theorem quoN_le : ∀ (n : Nat) (b : List Int), b.length ≤ n → (quoN b).2.1 ≤ b.length ∧ (quoN b).1.length ≤ b.length ∧ ((quoN b).2.2 = false → (quoN b).2.1 = b.length) ∧ ∀ x ∈ (quoN b).1, x ∈ b
  | _, [], _ => by simp [quoN]
  | 0, x :: t, h => by simp at h
  | n + 1, x :: t, h => by
    by_cases hx : x = 34
    · subst hx
      cases t with
      | nil => simp [quoN]
      | cons y t =>
        by_cases hy : y = 34
        · subst hy
          obtain ⟨h1, h2, h3, h4⟩ := quoN_le n t (by simp at h; omega)
          rw [quoN_two]
          refine ⟨by simp; omega, by simp; omega, fun e => by have := h3 e; simp; omega, fun z hz => ?_⟩
          rcases List.mem_cons.1 hz with rfl | hz
          · simp
          · simp [h4 z hz]
        · rw [quoN_end hy]
          simp
    · obtain ⟨h1, h2, h3, h4⟩ := quoN_le n t (by simp at h; omega)
      rw [quoN_other hx]
      refine ⟨by simp; omega, by simp; omega, fun e => by have := h3 e; simp; omega, fun z hz => ?_⟩
      rcases List.mem_cons.1 hz with rfl | hz
      · simp
      · simp [h4 z hz]
/-- Arguments, and whether the last one ends. -/
def argsN : Nat → List Int → Bool → List (List Int) × Bool
  | _, [], ok => ([], ok)
  | 0, _ :: _, ok => ([], ok)
  | n + 1, x :: t, ok => if isBl x = true then argsN n t ok else if x = 34 then ((quoN t).1 :: (argsN n (t.drop (quoN t).2.1) (quoN t).2.2).1, (argsN n (t.drop (quoN t).2.1) (quoN t).2.2).2)
    else ((x :: t).take (wordN false (x :: t)) :: (argsN n ((x :: t).drop (wordN false (x :: t))) true).1, (argsN n ((x :: t).drop (wordN false (x :: t))) true).2)
def argsV (b : List Int) : List (List Int) × Bool := argsN b.length b true
theorem wordN_pos {x : Int} (h : isBl x = false) (t : List Int) : wordN false (x :: t) = wordN (if x = 92 then true else false) t + 1 := by
  rw [wordN, if_neg (by simp [h])]
  rfl
/-- A text in quotation marks. -/
def quoB (b : List Int) : List Int := 34 :: (b.flatMap fun x => if x = 34 then [34, 34] else [x]) ++ [34]
theorem argsN_length : ∀ (n : Nat) (b : List Int) (ok : Bool), (argsN n b ok).1.length ≤ n ∧ ∀ y ∈ (argsN n b ok).1, y.length ≤ b.length ∧ ∀ x ∈ y, x ∈ b
  | _, [], ok => by simp [argsN]
  | 0, x :: t, ok => by simp [argsN]
  | n + 1, x :: t, ok => by
    rw [argsN]
    split
    · obtain ⟨h1, h2⟩ := argsN_length n t ok
      exact ⟨by omega, fun y hy => ⟨by have := (h2 y hy).1; simp; omega, fun z hz => by simp [(h2 y hy).2 z hz]⟩⟩
    · split
      · obtain ⟨h1, h2⟩ := argsN_length n (t.drop (quoN t).2.1) (quoN t).2.2
        have hq := quoN_le t.length t (Nat.le_refl _)
        refine ⟨by simp; omega, fun y hy => ?_⟩
        rcases List.mem_cons.1 hy with rfl | hy
        · exact ⟨by simp; omega, fun z hz => by simp [hq.2.2.2 z hz]⟩
        · have := h2 y hy
          rw [List.length_drop] at this
          exact ⟨by simp; omega, fun z hz => by simp [List.mem_of_mem_drop (this.2 z hz)]⟩
      · obtain ⟨h1, h2⟩ := argsN_length n ((x :: t).drop (wordN false (x :: t))) true
        refine ⟨by simp; omega, fun y hy => ?_⟩
        rcases List.mem_cons.1 hy with rfl | hy
        · exact ⟨by rw [List.length_take]; omega, fun z hz => List.mem_of_mem_take hz⟩
        · have := h2 y hy
          rw [List.length_drop] at this
          exact ⟨by omega, fun z hz => List.mem_of_mem_drop (this.2 z hz)⟩
end Go.Proofs.YtmfkokjbjmahkaaDoor.Pure

/- Arguments: package lines'. -/
namespace Go.Proofs.YtmfkokjbjmahkaaDoor.Pure
open Go Go.RowKit Go.Proofs.YtmfkokjbjmahkaaDoorW.PrintWords Go.Proofs.YtmfkokjbjmahkaaDoorW.PrintLast Go.Proofs.YtmfkokjbjmahkaaDoorW.PrintMore Go.Proofs.YtmfkokjbjmahkaaDoor.X Go.Proofs.YtmfkokjbjmahkaaDoor.Hand
set_option linter.unusedSimpArgs false
set_option linter.unusedVariables false
theorem u8_eq {x : Int} (h : 0 ≤ x ∧ x ≤ 255) (c : Nat) (hc : c ≤ 255) : (UInt8.ofNat x.toNat == UInt8.ofNat c) = (x == (c : Int)) := by
  by_cases e : x = c
  · subst e
    simp
  · have h1 : (x == (c : Int)) = false := beq_false_of_ne e
    rw [h1]
    apply beq_false_of_ne
    intro e2
    have h2 := congrArg UInt8.toNat e2
    simp at h2
    omega
theorem drop_tail : ∀ l : List Int, Bytes l → ((l.map fun n => UInt8.ofNat n.toNat).dropWhile (· == 92)).length + (l.takeWhile (· == 92)).length = l.length
  | [], _ => rfl
  | x :: t, h => by
    obtain ⟨hx, ht⟩ := bytes_cons h
    have hu := u8_eq hx 92 (by omega)
    have ih := drop_tail t ht
    rw [List.map_cons, List.dropWhile_cons, List.takeWhile_cons]
    by_cases e : x = 92
    · subst e
      rw [if_pos (by decide), if_pos (by decide), List.length_cons, List.length_cons]
      omega
    · have h1 : (x == 92) = false := beq_false_of_ne e
      rw [if_neg (by rw [show (UInt8.ofNat x.toNat == 92) = (x == 92) from hu, h1]; decide), if_neg (by rw [h1]; decide)]
      simp
theorem tail_eq {b : List Int} (hb : Bytes b) (h : b.length ≤ 70368744177664) : lines_tail.f (strOfNums b) = some (tailV b : Int) := by
  have hr : Bytes b.reverse := fun x hx => hb x (List.mem_reverse.1 hx)
  have hd := drop_tail b.reverse hr
  rw [List.length_reverse] at hd
  unfold lines_tail.f strings_TrimRight.f
  rw [if_pos ⟨rfl, by rw [numsStr_size]; omega⟩, Option.bind_some]
  have hs : (⟨(Lib.trimRightB (strOfNums b).data.toList 92).toArray⟩ : ByteArray).size = ((b.reverse.map fun n => UInt8.ofNat n.toNat).dropWhile (· == 92)).length := by
    unfold Lib.trimRightB
    rw [strOfNums_data, ← List.map_reverse]
    simp [ByteArray.size]
  rw [hs, numsStr_size, wrap_of (by omega) (by omega)]
  unfold tailV
  congr 1
  omega
theorem tail_odd (n : Nat) : (Int.tmod (n : Int) 2 = 1) ↔ (n % 2 == 1) = true := by
  rw [Int.tmod_eq_emod_of_nonneg (by omega)]
  simp
  omega
theorem blank_eq (x : Int) : lines_blank.f x = some (isBl x) := by
  unfold lines_blank.f isBl
  by_cases h : x = 32
  · rw [if_pos h]
    simp [h]
  · rw [if_neg h]
    simp [h]
/-- A word that begins with no quotation mark. -/
theorem word_ev {b : List Int} (hb : Bytes b) (h : b.length ≤ 70368744177664) : Ev (fun k => lines_word.l0 k (strOfNums b) 0) (strOfNums (b.take (wordN false b)), (wordN false b : Int), true) := by
  refine ev_eq (loop_up (σ := Unit) (fun k _ i => lines_word.l0 k (strOfNums b) i) b.length (fun _ i => (strOfNums (b.take (i + wordN (oddP (b.take i)) (b.drop i))), ((i + wordN (oddP (b.take i)) (b.drop i) : Nat) : Int), true)) (fun _ _ => True) ?_ ?_ () 0 (by omega) trivial) (by simp [oddP_nil])
  · intro _ _
    refine Ev.step (f := fun _ => some (strOfNums (b.take b.length), (b.length : Int), true)) (fun k => ?_) (ev_eq (Ev.now _) (by simp [wordN]))
    simp only [lines_word.l0]
    rw [numsStr_size, if_neg (by omega), if_pos (by omega), if_pos (by omega), Int.toNat_natCast, str_take]
  · intro _ i hi _ ih
    have hd := List.drop_eq_getElem_cons hi
    have hnext := oddP_take hi
    have ht : (b.take i).length ≤ 70368744177664 := by rw [List.length_take]; omega
    rw [hd]
    by_cases hbl : isBl b[i] = true
    · have h92 : b[i] ≠ 92 := fun e => by rw [e] at hbl; exact absurd hbl (by decide)
      by_cases ho : oddP (b.take i) = true
      · refine Ev.step (f := fun k => lines_word.l0 k (strOfNums b) ((i + 1 : Nat) : Int)) (fun k => ?_) (ev_eq (ih () trivial) ?_)
        · simp only [lines_word.l0]
          rw [numsStr_size, if_pos (by omega), if_pos (by omega), bt_str hb i hi, blank_eq, Option.bind_some, if_pos hbl, if_pos (by omega), Int.toNat_natCast, str_take, tail_eq (bytes_take hb i) ht, Option.bind_some, if_pos ((tail_odd _).2 ho), wrap_up hi (by omega)]
        · rw [hnext, if_neg h92, wordN, if_neg (by rw [ho]; simp), if_neg h92]
          simp only [Nat.add_assoc, Nat.add_comm 1]
      · refine Ev.step (f := fun _ => some (strOfNums (b.take i), (i : Int), true)) (fun k => ?_) (ev_eq (Ev.now _) ?_)
        · simp only [lines_word.l0]
          rw [numsStr_size, if_pos (by omega), if_pos (by omega), bt_str hb i hi, blank_eq, Option.bind_some, if_pos hbl, if_pos (by omega), Int.toNat_natCast, str_take, tail_eq (bytes_take hb i) ht, Option.bind_some, if_neg (fun e => ho ((tail_odd _).1 e))]
        · rw [wordN, if_pos ⟨hbl, by simpa using ho⟩]
          simp
    · refine Ev.step (f := fun k => lines_word.l0 k (strOfNums b) ((i + 1 : Nat) : Int)) (fun k => ?_) (ev_eq (ih () trivial) ?_)
      · simp only [lines_word.l0]
        rw [numsStr_size, if_pos (by omega), if_pos (by omega), bt_str hb i hi, blank_eq, Option.bind_some, if_neg hbl, wrap_up hi (by omega)]
      · rw [hnext, wordN, if_neg (show ¬ (isBl b[i] = true ∧ oddP (b.take i) = false) from fun e => hbl e.1)]
        simp only [Nat.add_assoc, Nat.add_comm 1]
/-- A text in quotation marks. -/
theorem quo_ev {b : List Int} (hb : Bytes b) (h : b.length ≤ 70368744177664) : ∀ (n i : Nat) (acc : List Int), b.length - i ≤ n → i ≤ b.length → acc.length + (b.length - i) ≤ 70368744177664 →
    Ev (fun k => lines_word.l1 k (strOfNums b) acc (i : Int)) (strOfNums (acc ++ (quoN (b.drop i)).1), ((i + (quoN (b.drop i)).2.1 : Nat) : Int), (quoN (b.drop i)).2.2) := by
  intro n
  induction n with
  | zero =>
    intro i acc hn hi _
    obtain rfl : i = b.length := by omega
    refine Ev.step (f := fun _ => some (strOfNums acc, (b.length : Int), false)) (fun k => ?_) (ev_eq (Ev.now _) (by simp [quoN]))
    simp only [lines_word.l1]
    rw [numsStr_size, if_neg (by omega)]
  | succ n ih =>
    intro i acc hn hi hacc
    by_cases hlt : i < b.length
    · have hd := List.drop_eq_getElem_cons hlt
      by_cases hq : b[i] = 34
      · by_cases hl : i + 1 < b.length
        · have hd2 := List.drop_eq_getElem_cons hl
          have hw : wrap64 ((i : Int) + 1) = ((i + 1 : Nat) : Int) := wrap_up hlt (by omega)
          by_cases hq2 : b[i + 1] = 34
          · have hw2 : wrap64 (((i + 1 : Nat) : Int) + 1) = ((i + 1 + 1 : Nat) : Int) := wrap_up hl (by omega)
            refine Ev.step (f := fun k => lines_word.l1 k (strOfNums b) (acc ++ [34]) ((i + 1 + 1 : Nat) : Int)) (fun k => ?_) (ev_eq (ih (i + 1 + 1) (acc ++ [34]) (by omega) (by omega) (by rw [List.length_append, List.length_singleton]; omega)) ?_)
            · simp only [lines_word.l1]
              rw [numsStr_size, if_pos (by omega), if_pos (by omega), bt_str hb i hlt, if_pos hq, hw, if_neg (by omega), if_pos (by omega), if_pos (by omega), bt_str hb (i + 1) hl, if_pos hq2, if_pos (by omega), hw2]
            · rw [hd, hd2, hq, hq2, quoN_two, List.append_assoc]
              refine Prod.ext rfl (Prod.ext ?_ rfl)
              simp only
              omega
          · refine Ev.step (f := fun _ => some (strOfNums acc, ((i + 1 : Nat) : Int), true)) (fun k => ?_) (ev_eq (Ev.now _) ?_)
            · simp only [lines_word.l1]
              rw [numsStr_size, if_pos (by omega), if_pos (by omega), bt_str hb i hlt, if_pos hq, hw, if_neg (by omega), if_pos (by omega), if_pos (by omega), bt_str hb (i + 1) hl, if_neg hq2]
            · rw [hd, hd2, hq, quoN_end hq2]
              simp
        · have hw : wrap64 ((i : Int) + 1) = ((i + 1 : Nat) : Int) := wrap_up hlt (by omega)
          refine Ev.step (f := fun _ => some (strOfNums acc, ((i + 1 : Nat) : Int), true)) (fun k => ?_) (ev_eq (Ev.now _) ?_)
          · simp only [lines_word.l1]
            rw [numsStr_size, if_pos (by omega), if_pos (by omega), bt_str hb i hlt, if_pos hq, hw, if_pos (by omega)]
          · rw [hd, List.drop_eq_nil_of_le (by omega), hq, quoN_one]
            simp
      · refine Ev.step (f := fun k => lines_word.l1 k (strOfNums b) (acc ++ [b[i]]) ((i + 1 : Nat) : Int)) (fun k => ?_) (ev_eq (ih (i + 1) (acc ++ [b[i]]) (by omega) (by omega) (by rw [List.length_append, List.length_singleton]; omega)) ?_)
        · simp only [lines_word.l1]
          rw [numsStr_size, if_pos (by omega), if_pos (by omega), bt_str hb i hlt, if_neg hq, if_pos (by omega), wrap_up hlt (by omega)]
        · rw [hd, quoN_other hq, List.append_assoc]
          refine Prod.ext rfl (Prod.ext ?_ rfl)
          simp only
          omega
    · obtain rfl : i = b.length := by omega
      refine Ev.step (f := fun _ => some (strOfNums acc, (b.length : Int), false)) (fun k => ?_) (ev_eq (Ev.now _) (by simp [quoN]))
      simp only [lines_word.l1]
      rw [numsStr_size, if_neg (by omega)]
/-- Arguments. -/
theorem args_l {n : Nat} : ∀ (b : List Int) (acc : List ByteArray) (ok : Bool), Bytes b → b.length ≤ n → n ≤ 70368744177664 → acc.length + (argsN n b ok).1.length ≤ 8796093022208 → Ev (fun k => lines_Args.l0 k (strOfNums b) acc ok) (acc ++ (argsN n b ok).1.map strOfNums, (argsN n b ok).2) := by
  induction n with
  | zero =>
    intro b acc ok hb hn h0 ha
    obtain rfl : b = [] := List.eq_nil_of_length_eq_zero (by omega)
    refine Ev.step (f := fun _ => some (acc, ok)) (fun k => ?_) (ev_eq (Ev.now _) (by simp [argsN]))
    simp only [lines_Args.l0]
    rw [if_pos (str_nil.2 rfl)]
  | succ n ih =>
    intro b acc ok hb hn h0 ha
    cases b with
    | nil =>
      refine Ev.step (f := fun _ => some (acc, ok)) (fun k => ?_) (ev_eq (Ev.now _) (by simp [argsN]))
      simp only [lines_Args.l0]
      rw [if_pos (str_nil.2 rfl)]
    | cons x t =>
      obtain ⟨hx, ht⟩ := bytes_cons hb
      simp only [List.length_cons] at hn
      have hne : ¬ (strOfNums (x :: t)).toList = [] := fun e => by have := str_nil.1 e; simp at this
      rw [argsN] at ha ⊢
      by_cases hbl : isBl x = true
      · rw [if_pos hbl] at ha ⊢
        refine Ev.step (f := fun k => lines_Args.l0 k (strOfNums t) acc ok) (fun k => ?_) (ih t acc ok ht (by omega) (by omega) (by omega))
        simp only [lines_Args.l0]
        rw [if_neg hne, if_pos (by rw [numsStr_size, List.length_cons]; omega), bt_head hb, blank_eq, Option.bind_some, if_pos hbl, if_pos (by rw [numsStr_size, List.length_cons]; omega), str_drop]
        rfl
      · rw [if_neg hbl] at ha ⊢
        by_cases hq : x = 34
        · subst hq
          rw [if_pos rfl] at ha ⊢
          simp only [List.length_cons] at ha
          have hqe := quo_ev hb (by simp; omega) (34 :: t).length 1 [] (by omega) (by simp) (by simp; omega)
          have hql := quoN_le t.length t (Nat.le_refl _)
          simp only [List.drop_succ_cons, List.drop_zero, List.nil_append] at hqe
          refine Ev.step (f := fun k => (lines_word.l1 k (strOfNums (34 :: t)) [] ((1 : Nat) : Int)).bind fun bt115 => (if acc.length < 8796093022208 then (if 0 ≤ bt115.2.1 then (if bt115.2.1 ≤ ((strOfNums (34 :: t)).size : Int) then (lines_Args.l0 k ((strOfNums (34 :: t)).extract (bt115.2.1 : Int).toNat (strOfNums (34 :: t)).size) (acc ++ [bt115.1]) bt115.2.2) else (none)) else (none)) else (none))) (fun k => ?_) (Ev.bind hqe ?_)
          · simp only [lines_Args.l0]
            rw [if_neg hne, if_pos (by rw [numsStr_size, List.length_cons]; omega), bt_head hb, blank_eq, Option.bind_some, if_neg hbl]
            unfold lines_word.f
            rw [if_pos (by rw [numsStr_size, List.length_cons]; omega), bt_head hb, if_pos rfl]
            rfl
          · refine ev_pos (by omega) (ev_pos (by simp only; omega) (ev_pos (by rw [numsStr_size]; simp only [List.length_cons]; omega) ?_))
            simp only
            rw [Int.toNat_natCast, str_drop, Nat.add_comm 1, List.drop_succ_cons]
            refine ev_eq (ih _ (acc ++ [strOfNums (quoN t).1]) (quoN t).2.2 (bytes_drop ht _) (by rw [List.length_drop]; omega) (by omega) (by rw [List.length_append, List.length_singleton]; omega)) ?_
            simp
        · rw [if_neg hq] at ha ⊢
          simp only [List.length_cons] at ha
          have hwe := word_ev hb (by simp; omega)
          have hwp := wordN_pos (show isBl x = false by simpa using hbl) t
          have hwl := wordN_le (x :: t) false
          refine Ev.step (f := fun k => (lines_word.l0 k (strOfNums (x :: t)) 0).bind fun bt115 => (if acc.length < 8796093022208 then (if 0 ≤ bt115.2.1 then (if bt115.2.1 ≤ ((strOfNums (x :: t)).size : Int) then (lines_Args.l0 k ((strOfNums (x :: t)).extract (bt115.2.1 : Int).toNat (strOfNums (x :: t)).size) (acc ++ [bt115.1]) bt115.2.2) else (none)) else (none)) else (none))) (fun k => ?_) (Ev.bind hwe ?_)
          · simp only [lines_Args.l0]
            rw [if_neg hne, if_pos (by rw [numsStr_size, List.length_cons]; omega), bt_head hb, blank_eq, Option.bind_some, if_neg hbl]
            unfold lines_word.f
            rw [if_pos (by rw [numsStr_size, List.length_cons]; omega), bt_head hb, if_neg hq]
          · refine ev_pos (by omega) (ev_pos (by simp only; omega) (ev_pos (by rw [numsStr_size]; simp only; omega) ?_))
            simp only
            rw [Int.toNat_natCast, str_drop]
            refine ev_eq (ih _ (acc ++ [strOfNums ((x :: t).take (wordN false (x :: t)))]) true (bytes_drop hb _) (by rw [List.length_drop, List.length_cons]; omega) (by omega) (by rw [List.length_append, List.length_singleton]; omega)) ?_
            simp
/-- At a text as large as a world holds. -/
theorem args_big {b : List Int} (hb : Bytes b) (h : b.length ≤ 70368744177664) (hn : (argsV b).1.length ≤ 8796093022208) : Ev (fun k => lines_Args.f k (strOfNums b)) ((argsV b).1.map strOfNums, (argsV b).2) := by
  unfold lines_Args.f
  exact ev_eq (args_l b [] true hb (Nat.le_refl _) h (by simpa [argsV] using hn)) (by simp [argsV])
theorem args_ev {b : List Int} (hb : Bytes b) (h : b.length ≤ 1000000) : Ev (fun k => lines_Args.f k (strOfNums b)) ((argsV b).1.map strOfNums, (argsV b).2) :=
  args_big hb (by omega) (by have := (argsN_length b.length b true).1; unfold argsV; omega)
end Go.Proofs.YtmfkokjbjmahkaaDoor.Pure

/- Texts in quotation marks; that texts are the same. -/
namespace Go.Proofs.YtmfkokjbjmahkaaDoor.Pure
open Go Go.RowKit Go.Proofs.YtmfkokjbjmahkaaDoorW.PrintWords Go.Proofs.YtmfkokjbjmahkaaDoorW.PrintLast Go.Proofs.YtmfkokjbjmahkaaDoorW.PrintMore Go.Proofs.YtmfkokjbjmahkaaDoor.X Go.Proofs.YtmfkokjbjmahkaaDoor.Hand
set_option linter.unusedSimpArgs false
set_option linter.unusedVariables false
/-- Every quotation mark twice. -/
def twoB (b : List Int) : List Int := b.flatMap fun x => if x = 34 then [34, 34] else [x]
theorem twoB_nil : twoB [] = [] := rfl
theorem twoB_cons (x : Int) (t : List Int) : twoB (x :: t) = (if x = 34 then [34, 34] else [x]) ++ twoB t := by
  unfold twoB
  rw [List.flatMap_cons]
theorem twoB_length : ∀ b : List Int, (twoB b).length ≤ 2 * b.length
  | [] => by simp [twoB]
  | x :: t => by
    have := twoB_length t
    rw [twoB_cons]
    split <;> simp <;> omega
theorem quoB_eq (b : List Int) : quoB b = 34 :: twoB b ++ [34] := rfl
/-- What the library replaces. -/
theorem rep_two : ∀ (l : List UInt8), Lib.replaceK [34] [34, 34] (Lib.count l [34]) l = l.flatMap fun x => if x = 34 then [34, 34] else [x]
  | [] => by rfl
  | x :: t => by
    by_cases hx : x = 34
    · subst hx
      have hi : Lib.index (34 :: t) [34] = ((0 : Nat) : Int) := by simp [Lib.index]
      rw [Lib.count_cons_eq, Nat.add_comm, Lib.replaceK_hit _ _ _ _ 0 hi]
      simp only [List.take_zero, List.nil_append, Nat.zero_add, List.length_singleton, List.drop_succ_cons, List.drop_zero]
      rw [rep_two t]
      simp
    · rw [Lib.count_cons_ne _ _ _ hx]
      have ih := rep_two t
      have hne : ([34] : List UInt8).isPrefixOf (x :: t) = false := by
        simp only [List.isPrefixOf, Bool.and_true]
        exact beq_false_of_ne (fun e => hx e.symm)
      have hix : Lib.index (x :: t) [34] = if Lib.index t [34] == -1 then -1 else Lib.index t [34] + 1 := by rw [Lib.index, hne]; rfl
      cases hc : Lib.count t [34] with
      | zero =>
        rw [hc] at ih
        simp only [Lib.replaceK] at ih ⊢
        rw [List.flatMap_cons, if_neg hx, ← ih]
        rfl
      | succ n =>
        obtain ⟨i, hi⟩ := Lib.index_of_count (s := t) (old := [34]) (by omega)
        rw [hc] at ih
        rw [Lib.replaceK_hit _ _ _ _ i hi] at ih
        rw [Lib.replaceK_hit _ _ _ _ (i + 1) (by rw [hix, hi, if_neg (by simp)]; omega), List.flatMap_cons, if_neg hx, ← ih]
        simp [Nat.add_right_comm]
theorem data_str (b : List Int) : (strOfNums b).data.toList = b.map fun n => UInt8.ofNat n.toNat := by
  rw [← str_toList, ByteArray.toList_eq]
theorem two_map : ∀ {b : List Int}, Bytes b → ((b.map fun n => UInt8.ofNat n.toNat).flatMap fun x => if x = 34 then [34, 34] else [x]) = (twoB b).map fun n => UInt8.ofNat n.toNat
  | [], _ => rfl
  | x :: t, hb => by
    obtain ⟨hx, ht⟩ := bytes_cons hb
    rw [List.map_cons, List.flatMap_cons, two_map ht, twoB_cons, List.map_append]
    congr 1
    by_cases h : x = 34
    · subst h
      rfl
    · rw [if_neg h]
      have : ¬ UInt8.ofNat x.toNat = 34 := fun e => by
        have e2 := u8_eq hx 34 (by omega)
        rw [show (UInt8.ofNat 34 : UInt8) = 34 from rfl, e, beq_self_eq_true] at e2
        exact h (by simpa using e2.symm)
      rw [if_neg this]
      rfl
theorem quoted_eq {b : List Int} (hb : Bytes b) (h : b.length ≤ 1000000) : lines_Quoted.f (strOfNums b) = some (strOfNums (quoB b)) := by
  have hr : strings_ReplaceAll.f (strOfNums b) (⟨#[34]⟩ : ByteArray) (⟨#[34, 34]⟩ : ByteArray) = some (strOfNums (twoB b)) := by
    unfold strings_ReplaceAll.f
    rw [if_pos ⟨rfl, rfl, by rw [numsStr_size]; exact h⟩]
    congr 1
    have : (Lib.replaceAll (strOfNums b).data.toList [34] [34, 34]) = (twoB b).map fun n => UInt8.ofNat n.toNat := by
      unfold Lib.replaceAll Lib.replace Lib.replaceNum
      rw [if_neg (by decide), if_pos (Or.inl (by decide)), rep_two, data_str, two_map hb]
    rw [this, ← data_str]
  have hl := twoB_length b
  unfold lines_Quoted.f
  rw [hr, Option.bind_some, numsStr_size, if_pos (by omega), if_pos (by rw [show (⟨#[34]⟩ : ByteArray) = strOfNums [34] from rfl, ← numsStr_append, numsStr_size]; simp; omega)]
  rw [quoB_eq, show (⟨#[34]⟩ : ByteArray) = strOfNums [34] from rfl, ← numsStr_append, ← numsStr_append]
  rfl
theorem same_texts {l : List ByteArray} (h : l.length ≤ 8796093022208) : Ev (fun k => flongref05_SameTexts.f k l l) true := by
  unfold flongref05_SameTexts.f
  refine ev_pos rfl (loop_up (σ := Unit) (fun k _ i => flongref05_SameTexts.l0 k l l i) l.length (fun _ _ => true) (fun _ _ => True) ?_ ?_ () 0 (by omega) trivial)
  · intro _ _
    refine Ev.step (f := fun _ => some true) (fun k => ?_) (Ev.now _)
    simp only [flongref05_SameTexts.l0]
    rw [if_neg (by omega)]
  · intro _ i hi _ ih
    refine Ev.step (f := fun k => flongref05_SameTexts.l0 k l l ((i + 1 : Nat) : Int)) (fun k => ?_) (ih () trivial)
    simp only [flongref05_SameTexts.l0]
    rw [if_pos (by omega), if_pos (by omega), if_pos (by omega), if_pos trivial, wrap_up hi (by omega)]
end Go.Proofs.YtmfkokjbjmahkaaDoor.Pure

/- Texts in quotation marks, one behind another: read as arguments they are the texts. -/
namespace Go.Proofs.YtmfkokjbjmahkaaDoor.Pure
open Go Go.RowKit Go.Proofs.YtmfkokjbjmahkaaDoorW.PrintWords Go.Proofs.YtmfkokjbjmahkaaDoorW.PrintLast Go.Proofs.YtmfkokjbjmahkaaDoorW.PrintMore Go.Proofs.YtmfkokjbjmahkaaDoor.X Go.Proofs.YtmfkokjbjmahkaaDoor.Hand
set_option linter.unusedSimpArgs false
set_option linter.unusedVariables false
theorem rdOf_at (l : List ByteArray) (i : Nat) (h : i < l.length) : rdOf ByteArray.empty l (i : Int) = l[i] := by
  simp [rdOf, List.getD_eq_getElem?_getD, List.getElem?_eq_getElem h]
end Go.Proofs.YtmfkokjbjmahkaaDoor.Pure

/- Lines: a sign, a comment, a row of a line that is whole: the package's. -/
namespace Go.Proofs.YtmfkokjbjmahkaaDoor.Pure
open Go Go.RowKit Go.Proofs.YtmfkokjbjmahkaaDoorW.PrintWords Go.Proofs.YtmfkokjbjmahkaaDoorW.PrintLast Go.Proofs.YtmfkokjbjmahkaaDoorW.PrintMore Go.Proofs.YtmfkokjbjmahkaaDoor.X Go.Proofs.YtmfkokjbjmahkaaDoor.Hand
set_option linter.unusedSimpArgs false
set_option linter.unusedVariables false
theorem blank_u8 {x : Int} (h : 0 ≤ x ∧ x ≤ 255) : ([32, 9] : List UInt8).contains (UInt8.ofNat x.toNat) = isBl x := by
  have h1 := u8_eq h 32 (by omega)
  have h2 := u8_eq h 9 (by omega)
  have e1 : (UInt8.ofNat x.toNat == 32) = (x == 32) := h1
  have e2 : (UInt8.ofNat x.toNat == 9) = (x == 9) := h2
  simp only [List.contains_cons, List.contains_nil, Bool.or_false, e1, e2]
  rfl
theorem trim_map : ∀ {b : List Int}, Bytes b → Lib.trimLeftS (b.map fun n => UInt8.ofNat n.toNat) [32, 9] = (b.dropWhile isBl).map fun n => UInt8.ofNat n.toNat
  | [], _ => rfl
  | x :: t, hb => by
    obtain ⟨hx, ht⟩ := bytes_cons hb
    have ih := trim_map ht
    unfold Lib.trimLeftS at ih ⊢
    rw [List.map_cons, List.dropWhile_cons, List.dropWhile_cons, blank_u8 hx]
    by_cases h : isBl x = true
    · rw [if_pos h, if_pos h, ih]
    · rw [if_neg h, if_neg h, List.map_cons]
theorem trimleft_eq {b : List Int} (hb : Bytes b) : strings_TrimLeft.f (strOfNums b) (⟨#[32, 9]⟩ : ByteArray) = some (strOfNums (b.dropWhile isBl)) := by
  unfold strings_TrimLeft.f
  rw [if_pos rfl, data_str, trim_map hb, ← data_str]
/-- What stands behind a line's sign, and whether it has one. -/
def ctlV : List Int → List Int × Bool
  | [] => ([], false)
  | x :: t => if x = 46 ∨ x = 39 then (t.dropWhile isBl, true) else (x :: t, false)
theorem control_eq {b : List Int} (hb : Bytes b) : lines_control.f (strOfNums b) = some (strOfNums (ctlV b).1, (ctlV b).2) := by
  unfold lines_control.f
  cases b with
  | nil =>
    rw [if_pos (str_nil.2 rfl)]
    rfl
  | cons x t =>
    obtain ⟨hx, ht⟩ := bytes_cons hb
    have hne : ¬ (strOfNums (x :: t)).toList = [] := fun e => by have := str_nil.1 e; simp at this
    rw [if_neg hne, if_pos (by rw [numsStr_size, List.length_cons]; omega), bt_head hb, ctlV]
    by_cases h1 : x = 46
    · rw [if_pos h1, if_pos (Or.inl h1), if_pos (by rw [numsStr_size, List.length_cons]; omega), str_drop, List.drop_succ_cons, List.drop_zero, trimleft_eq ht]
      rfl
    · rw [if_neg h1]
      by_cases h2 : x = 39
      · rw [if_pos h2, if_pos (Or.inr h2), if_pos (by rw [numsStr_size, List.length_cons]; omega), str_drop, List.drop_succ_cons, List.drop_zero, trimleft_eq ht]
        rfl
      · rw [if_neg h2, if_neg (fun e => e.elim h1 h2)]
/-- Where a comment begins. -/
def cmtN : Nat → List Int → Bool → Int
  | _, [], _ => -1
  | i, x :: t, o => if x = 34 ∧ o = true then (i : Int) - 1 else cmtN (i + 1) t (if x = 92 then !o else false)
def cmtV (b : List Int) : Int := cmtN 0 b false
theorem cmtV_one {x : Int} (t : List Int) : cmtV (x :: t) = cmtN 1 t (oddP [x]) := by
  unfold cmtV
  rw [cmtN, if_neg (fun e => by simpa using e.2)]
  have : oddP [x] = if x = 92 then !false else false := by
    have := oddP_snoc [] x
    rwa [oddP_nil, List.nil_append] at this
  rw [this]
theorem comment_ev {b : List Int} (hb : Bytes b) (h : b.length ≤ 1000000) : Ev (fun k => lines_comment.f k (strOfNums b)) (cmtV b) := by
  unfold lines_comment.f
  cases b with
  | nil =>
    refine Ev.step (f := fun _ => some (-1)) (fun k => ?_) (Ev.now _)
    simp only [lines_comment.l0]
    rw [numsStr_size, if_neg (by simp)]
  | cons x t =>
    refine ev_eq (loop_up (σ := Unit) (fun k _ i => lines_comment.l0 k (strOfNums (x :: t)) i) (x :: t).length (fun _ i => cmtN i ((x :: t).drop i) (oddP ((x :: t).take i))) (fun _ _ => True) ?_ ?_ () 1 (by simp) trivial) (by rw [cmtV_one]; rfl)
    · intro _ _
      refine Ev.step (f := fun _ => some (-1)) (fun k => ?_) (ev_eq (Ev.now _) (by rw [List.drop_length, cmtN]))
      simp only [lines_comment.l0]
      rw [numsStr_size, if_neg (by omega)]
    · intro _ i hi _ ih
      have hd := List.drop_eq_getElem_cons hi
      have hnext := oddP_take hi
      have hw := wrap_up hi (by omega)
      rw [hd, cmtN]
      by_cases hq : (x :: t)[i] = 34
      · have htl := tail_eq (bytes_take hb i) (by rw [List.length_take]; omega)
        by_cases ho : oddP ((x :: t).take i) = true
        · have hi0 : i ≠ 0 := fun e => by subst e; rw [List.take_zero, oddP_nil] at ho; cases ho
          have hw1 : wrap64 ((i : Int) - 1) = (i : Int) - 1 := wrap_of (by omega) (by omega)
          refine Ev.step (f := fun _ => some ((i : Int) - 1)) (fun k => ?_) (ev_eq (Ev.now _) (by rw [if_pos ⟨hq, ho⟩]))
          simp only [lines_comment.l0]
          rw [numsStr_size, if_pos (by omega), if_pos (by omega), bt_str hb i hi, if_pos hq, if_pos (by omega), Int.toNat_natCast, str_take, htl, Option.bind_some, if_pos ((tail_odd _).2 ho), hw1]
        · refine Ev.step (f := fun k => lines_comment.l0 k (strOfNums (x :: t)) ((i + 1 : Nat) : Int)) (fun k => ?_) (ev_eq (ih () trivial) ?_)
          · simp only [lines_comment.l0]
            rw [numsStr_size, if_pos (by omega), if_pos (by omega), bt_str hb i hi, if_pos hq, if_pos (by omega), Int.toNat_natCast, str_take, htl, Option.bind_some, if_neg (fun e => ho ((tail_odd _).1 e)), hw]
          · rw [if_neg (fun e => ho e.2), hnext]
      · refine Ev.step (f := fun k => lines_comment.l0 k (strOfNums (x :: t)) ((i + 1 : Nat) : Int)) (fun k => ?_) (ev_eq (ih () trivial) ?_)
        · simp only [lines_comment.l0]
          rw [numsStr_size, if_pos (by omega), if_pos (by omega), bt_str hb i hi, if_neg hq, hw]
        · rw [if_neg (fun e => hq e.1), hnext]
/-- Where the first blank stands. -/
theorem any_map : ∀ {b : List Int}, Bytes b → Lib.indexAny ((b ++ [32]).map fun n : Int => UInt8.ofNat n.toNat) [32, 9] = ((b.takeWhile fun x => !isBl x).length : Int)
  | [], _ => rfl
  | x :: t, hb => by
    obtain ⟨hx, ht⟩ := bytes_cons hb
    have ih := any_map ht
    rw [List.cons_append, List.map_cons, Lib.indexAny, blank_u8 hx, List.takeWhile_cons]
    by_cases h : isBl x = true
    · rw [if_pos h, h]
      rfl
    · have h' : isBl x = false := by simpa using h
      rw [if_neg h, ih, h', if_neg (by simp)]
      simp
/-- The name that stands first. -/
def nmN (c : List Int) : Nat := (c.takeWhile fun x => !isBl x).length
theorem nmN_le (c : List Int) : nmN c ≤ c.length := (List.takeWhile_sublist _).length_le
theorem any_eq {c : List Int} (hb : Bytes c) (h : c.length ≤ 1000000) : strings_IndexAny.f (strOfNums c ++ ⟨#[32]⟩) ⟨#[32, 9]⟩ = some (nmN c : Int) := by
  unfold strings_IndexAny.f
  rw [show (⟨#[32]⟩ : ByteArray) = strOfNums [32] from rfl, ← numsStr_append, if_pos ⟨by decide, by decide, by rw [numsStr_size, List.length_append, List.length_singleton]; omega, by decide⟩, data_str, show (⟨#[32, 9]⟩ : ByteArray).data.toList = [32, 9] from rfl, any_map hb]
  rfl
/-- A row of a line that is whole. -/
def rowV (frm : Int) (b : List Int) : List Rw × List Dg :=
  if (ctlV b).2 = true then (if nmN (ctlV b).1 = 0 then ([], []) else
    let c := (ctlV b).1
    let a := argsV (c.drop (nmN c))
    ([⟨frm, strOfNums (c.take (nmN c)), if (200 : Int) < (a.1.length : Int) then (a.1.map strOfNums).take 200 else a.1.map strOfNums, ⟨#[]⟩⟩], (if a.2 = true then [] else [⟨5, frm, 0⟩]) ++ (if (200 : Int) < (a.1.length : Int) then [⟨11, frm, 0⟩] else [])))
  else ([⟨frm, ⟨#[]⟩, [], strOfNums b⟩], [])
theorem ctlV_bytes {b : List Int} (hb : Bytes b) : Bytes (ctlV b).1 := by
  cases b with
  | nil => exact bytes_nil
  | cons x t =>
    rw [ctlV]
    split
    · exact fun y hy => (bytes_cons hb).2 y ((List.dropWhile_sublist _).subset hy)
    · exact hb
theorem ctlV_length (b : List Int) : (ctlV b).1.length ≤ b.length := by
  cases b with
  | nil => exact Nat.le_refl _
  | cons x t =>
    rw [ctlV]
    split
    · have := (List.dropWhile_sublist isBl (l := t)).length_le
      simp
      omega
    · exact Nat.le_refl _
theorem done_ev {b : List Int} (hb : Bytes b) (h : b.length ≤ 1000000) (frm : Int) (out : List Rw) (bad : List Dg) : Ev (fun k => doneF k frm (strOfNums b) out bad) (out ++ (rowV frm b).1, bad ++ (rowV frm b).2) := by
  have hc := ctlV_bytes hb
  have hl := ctlV_length b
  unfold doneF rowV
  simp only [control_eq hb, Option.bind_some]
  generalize hcc : ctlV b = cc at hc hl ⊢
  obtain ⟨c, s⟩ := cc
  cases s with
  | false =>
    simp only [Bool.false_eq_true, if_false, List.append_nil]
    exact Ev.now _
  | true =>
    simp only at hl hc
    simp only [if_true, any_eq hc (by omega), Option.bind_some]
    have hn := nmN_le c
    refine ev_pos (by rw [numsStr_size]; omega) ?_
    by_cases h0 : nmN c = 0
    · simp only [h0, if_true, List.append_nil]
      exact Ev.now _
    · refine ev_neg (by omega) (ev_pos ⟨by omega, by rw [numsStr_size]; omega⟩ ?_)
      rw [if_neg h0, Int.toNat_natCast, str_drop, str_take]
      refine Ev.bind (args_ev (bytes_drop hc _) (by rw [List.length_drop]; omega)) (ev_eq (Ev.now _) ?_)
      simp [List.append_assoc]
end Go.Proofs.YtmfkokjbjmahkaaDoor.Pure

/- A text's pieces at line feeds; its last byte. -/
namespace Go.Proofs.YtmfkokjbjmahkaaDoor.Pure
open Go Go.RowKit Go.Proofs.YtmfkokjbjmahkaaDoorW.PrintWords Go.Proofs.YtmfkokjbjmahkaaDoorW.PrintLast Go.Proofs.YtmfkokjbjmahkaaDoorW.PrintMore Go.Proofs.YtmfkokjbjmahkaaDoor.X Go.Proofs.YtmfkokjbjmahkaaDoor.Hand
set_option linter.unusedSimpArgs false
set_option linter.unusedVariables false
/-- Bytes, cut at each line feed; cur: what stands behind the last one. -/
def splitC : List Int → List Int → List (List Int)
  | cur, [] => [cur]
  | cur, x :: t => if x = 10 then cur :: splitC [] t else splitC (cur ++ [x]) t
theorem splitC_none : ∀ (t cur : List Int), (10 : Int) ∉ t → splitC cur t = [cur ++ t]
  | [], cur, _ => by simp [splitC]
  | x :: t, cur, h => by
    simp only [List.mem_cons, not_or] at h
    rw [splitC, if_neg (fun e => h.1 e.symm), splitC_none t _ h.2, List.append_assoc]
    rfl
theorem splitC_mid : ∀ (a cur d : List Int), (10 : Int) ∉ a → splitC cur (a ++ 10 :: d) = (cur ++ a) :: splitC [] d
  | [], cur, d, _ => by simp [splitC]
  | x :: a, cur, d, h => by
    simp only [List.mem_cons, not_or] at h
    rw [List.cons_append, splitC, if_neg (fun e => h.1 e.symm), splitC_mid a _ d h.2, List.append_assoc]
    rfl
theorem splitC_length : ∀ (t cur : List Int), (splitC cur t).length ≤ t.length + 1
  | [], cur => by simp [splitC]
  | x :: t, cur => by
    rw [splitC]
    split
    · have := splitC_length t []
      simp only [List.length_cons]
      omega
    · have := splitC_length t (cur ++ [x])
      simp only [List.length_cons]
      omega
theorem splitC_sum : ∀ (t cur : List Int) (y : List Int), y ∈ splitC cur t → y.length ≤ cur.length + t.length ∧ ∀ x ∈ y, x ∈ cur ∨ x ∈ t
  | [], cur, y, h => by
    simp only [splitC, List.mem_singleton] at h
    subst h
    exact ⟨by simp, fun x hx => .inl hx⟩
  | x :: t, cur, y, h => by
    rw [splitC] at h
    split at h
    · rcases List.mem_cons.1 h with rfl | h
      · exact ⟨by omega, fun x hx => .inl hx⟩
      · obtain ⟨h1, h2⟩ := splitC_sum t [] y h
        simp only [List.length_nil, List.length_cons] at h1 ⊢
        refine ⟨by omega, fun z hz => .inr ?_⟩
        rcases h2 z hz with h3 | h3
        · simp at h3
        · exact List.mem_cons_of_mem _ h3
    · obtain ⟨h1, h2⟩ := splitC_sum t (cur ++ [x]) y h
      simp only [List.length_append, List.length_cons, List.length_nil] at h1 ⊢
      refine ⟨by omega, fun z hz => ?_⟩
      rcases h2 z hz with h3 | h3
      · rcases List.mem_append.1 h3 with h4 | h4
        · exact .inl h4
        · rw [List.mem_singleton.1 h4]
          exact .inr (by simp)
      · exact .inr (List.mem_cons_of_mem _ h3)
theorem first10 : ∀ c : List Int, (10 : Int) ∈ c → ∃ a d, c = a ++ 10 :: d ∧ (10 : Int) ∉ a
  | [], h => by simp at h
  | x :: c, h => by
    by_cases hx : x = 10
    · exact ⟨[], c, by rw [hx]; rfl, by simp⟩
    · obtain ⟨a, d, rfl, h2⟩ := first10 c (by
        rcases List.mem_cons.1 h with h | h
        · exact absurd h.symm hx
        · exact h)
      refine ⟨x :: a, d, rfl, fun h3 => ?_⟩
      rcases List.mem_cons.1 h3 with h3 | h3
      · exact hx h3.symm
      · exact h2 h3
theorem u10 {x : Int} (h : 0 ≤ x ∧ x ≤ 255) : (UInt8.ofNat x.toNat == 10) = decide (x = 10) := by
  have h1 : ∀ n : Nat, n < 256 → (UInt8.ofNat n == 10) = decide (n = 10) := by decide +kernel
  rw [h1 x.toNat (by omega)]
  by_cases e : x = 10
  · rw [decide_eq_true e, decide_eq_true (by omega)]
  · rw [decide_eq_false e, decide_eq_false (by omega)]
theorem idx_none : ∀ c : List Int, Bytes c → (10 : Int) ∉ c → Lib.indexByte (c.map fun n => UInt8.ofNat n.toNat) 10 = -1
  | [], _, _ => rfl
  | x :: c, hb, h => by
    simp only [List.mem_cons, not_or] at h
    rw [List.map_cons, Lib.indexByte, u10 (hb x (by simp)), decide_eq_false (fun e => h.1 e.symm), if_neg (by simp), idx_none c (fun y hy => hb y (List.mem_cons_of_mem _ hy)) h.2]
    rfl
theorem idx_mid : ∀ a d : List Int, Bytes a → (10 : Int) ∉ a → Lib.indexByte ((a ++ 10 :: d).map fun n => UInt8.ofNat n.toNat) 10 = (a.length : Int)
  | [], d, _, _ => by
    rw [List.nil_append, List.map_cons, Lib.indexByte, u10 (by decide)]
    rfl
  | x :: a, d, hb, h => by
    simp only [List.mem_cons, not_or] at h
    rw [List.cons_append, List.map_cons, Lib.indexByte, u10 (hb x (by simp)), decide_eq_false (fun e => h.1 e.symm), if_neg (by simp), idx_mid a d (fun y hy => hb y (List.mem_cons_of_mem _ hy)) h.2]
    rw [if_neg (by simp), List.length_cons]
    omega
theorem next_str (c : List Int) : nextLf (strOfNums c) = Lib.indexByte (c.map fun n => UInt8.ofNat n.toNat) 10 := by
  unfold nextLf
  rw [strOfNums_data]
theorem pieces_eq : ∀ (n : Nat) (c : List Int), c.length ≤ n → Bytes c → pieces (strOfNums c) = (splitC [] c).map strOfNums := by
  intro n
  induction n with
  | zero =>
    intro c hn hb
    obtain rfl : c = [] := List.eq_nil_of_length_eq_zero (by omega)
    rw [pieces_end (by rw [next_str]; decide)]
    rfl
  | succ n ih =>
    intro c hn hb
    by_cases h : (10 : Int) ∈ c
    · obtain ⟨a, d, rfl, ha⟩ := first10 c h
      have hi : nextLf (strOfNums (a ++ 10 :: d)) = (a.length : Int) := by rw [next_str, idx_mid a d (fun x hx => hb x (by simp [hx])) ha]
      rw [pieces_more (by omega), hi, str_extract, str_extract, numsStr_size, splitC_mid a [] d ha, List.map_cons]
      have e1 : ((a ++ 10 :: d).take (a.length : Int).toNat).drop 0 = [] ++ a := by simp
      have e2 : ((a ++ 10 :: d).take (a ++ 10 :: d).length).drop ((a.length : Int).toNat + 1) = d := by
        rw [List.take_length, Int.toNat_natCast, List.drop_append, List.drop_eq_nil_of_le (by omega)]
        simp
      rw [e1, e2, ih d (by simp at hn; omega) (fun x hx => hb x (by simp [hx]))]
    · rw [pieces_end (by rw [next_str, idx_none c hb h]; decide), splitC_none c [] h]
      rfl
/-- A text without one byte at its end, and whether it stood there. -/
def cutV (c : Int) (b : List Int) : List Int × Bool := if b.getLast? = some c then (b.dropLast, true) else (b, false)
theorem cutV_snoc (c : Int) (b : List Int) : cutV c (b ++ [c]) = (b, true) := by
  unfold cutV
  rw [if_pos (by simp), List.dropLast_concat]
theorem cutV_other {c : Int} {b : List Int} (h : b.getLast? ≠ some c) : cutV c b = (b, false) := if_neg h
theorem cutV_sub (c : Int) (b : List Int) : (cutV c b).1.length ≤ b.length ∧ ∀ x ∈ (cutV c b).1, x ∈ b := by
  unfold cutV
  split
  · exact ⟨by rw [List.length_dropLast]; omega, fun x hx => List.dropLast_subset _ hx⟩
  · exact ⟨Nat.le_refl _, fun x hx => hx⟩
theorem suffix_eq {b : List Int} (hb : Bytes b) (h : b.length ≤ 1000000) (c : Nat) (hc : c ≤ 255) : stringslite_HasSuffix.f (strOfNums b) (⟨#[UInt8.ofNat c]⟩ : ByteArray) = some (decide (b.getLast? = some (c : Int))) := by
  unfold stringslite_HasSuffix.f
  have h1 : (⟨#[UInt8.ofNat c]⟩ : ByteArray).size = 1 := rfl
  rcases List.eq_nil_or_concat b with rfl | ⟨a, x, rfl⟩
  · rw [h1, numsStr_size, if_neg (by simp)]
    rfl
  · rw [List.concat_eq_append] at hb h ⊢
    have hx := hb x (by simp)
    have hl : (a ++ [x]).length = a.length + 1 := by simp
    have hw : wrap64 (((a ++ [x]).length : Int) - ((1 : Nat) : Int)) = (a.length : Int) := by rw [wrap_of (by omega) (by omega)]; omega
    rw [h1, numsStr_size, hw, if_pos (by omega), if_pos (by omega), if_pos (by omega), Int.toNat_natCast, ← numsStr_size (a ++ [x]), str_drop, List.drop_left, str_toList]
    congr 1
    have e : ([x].map fun n => UInt8.ofNat n.toNat) = [UInt8.ofNat x.toNat] := rfl
    have e2 : (⟨#[UInt8.ofNat c]⟩ : ByteArray).toList = [UInt8.ofNat c] := by rw [ByteArray.toList_eq]
    have hu := u8_eq hx c hc
    rw [e, e2, List.getLast?_append, List.getLast?_singleton]
    simp only [List.cons_beq_cons, BEq.rfl, Bool.and_true, Option.some_or, Option.some.injEq]
    rw [hu]
    rfl
theorem cutsuffix_eq {b : List Int} (hb : Bytes b) (h : b.length ≤ 1000000) : strings_CutSuffix.f (strOfNums b) (⟨#[10]⟩ : ByteArray) = some (strOfNums (cutV 10 b).1, (cutV 10 b).2) := by
  have hs := suffix_eq hb h 10 (by omega)
  unfold strings_CutSuffix.f stringslite_CutSuffix.f
  rw [show (⟨#[10]⟩ : ByteArray) = ⟨#[UInt8.ofNat 10]⟩ from rfl, hs, Option.bind_some]
  unfold cutV
  by_cases hc : b.getLast? = some (10 : Int)
  · have hne : 0 < b.length := by cases b with
      | nil => simp at hc
      | cons x t => simp
    have hw : wrap64 ((b.length : Int) - ((1 : Nat) : Int)) = ((b.length - 1 : Nat) : Int) := by rw [wrap_of (by omega) (by omega)]; omega
    rw [if_pos (by simpa using hc), if_pos hc, show (⟨#[UInt8.ofNat 10]⟩ : ByteArray).size = 1 from rfl, numsStr_size, hw, if_pos (by omega), if_pos (by omega), Int.toNat_natCast, str_take, List.dropLast_eq_take]
    rfl
  · rw [if_neg (by simpa using hc), if_neg hc]
    rfl
theorem trimsuffix_eq {b : List Int} (hb : Bytes b) (h : b.length ≤ 1000000) : strings_TrimSuffix.f (strOfNums b) (⟨#[13]⟩ : ByteArray) = some (strOfNums (cutV 13 b).1) := by
  have hs := suffix_eq hb h 13 (by omega)
  unfold strings_TrimSuffix.f stringslite_TrimSuffix.f
  rw [show (⟨#[13]⟩ : ByteArray) = ⟨#[UInt8.ofNat 13]⟩ from rfl, hs, Option.bind_some]
  unfold cutV
  by_cases hc : b.getLast? = some (13 : Int)
  · have hne : 0 < b.length := by cases b with
      | nil => simp at hc
      | cons x t => simp
    have hw : wrap64 ((b.length : Int) - ((1 : Nat) : Int)) = ((b.length - 1 : Nat) : Int) := by rw [wrap_of (by omega) (by omega)]; omega
    rw [if_pos (by simpa using hc), if_pos hc, show (⟨#[UInt8.ofNat 13]⟩ : ByteArray).size = 1 from rfl, numsStr_size, hw, if_pos (by omega), if_pos (by omega), Int.toNat_natCast, str_take, List.dropLast_eq_take]
    rfl
  · rw [if_neg (by simpa using hc), if_neg hc]
    rfl
end Go.Proofs.YtmfkokjbjmahkaaDoor.Pure

/- Lines taken one by one; a text read: the package's. -/
namespace Go.Proofs.YtmfkokjbjmahkaaDoor.Pure
open Go Go.RowKit Go.Proofs.YtmfkokjbjmahkaaDoorW.PrintWords Go.Proofs.YtmfkokjbjmahkaaDoorW.PrintLast Go.Proofs.YtmfkokjbjmahkaaDoorW.PrintMore Go.Proofs.YtmfkokjbjmahkaaDoor.X Go.Proofs.YtmfkokjbjmahkaaDoor.Hand
set_option linter.unusedSimpArgs false
set_option linter.unusedVariables false
/-- What has been read. -/
structure Pst where
  line : Int
  whole : List Int
  frm : Int
  out : List Rw
  bad : List Dg
def Pst.rd (x : Pst) : RdSt := ⟨x.line, strOfNums x.whole, x.frm, x.out, x.bad⟩
def Pst.frm' (x : Pst) : Int := if x.frm = 0 then x.line + 1 else x.frm
def Pst.done (x : Pst) (p : List Int) : Pst := ⟨x.line + 1, [], 0, x.out ++ (rowV x.frm' (x.whole ++ p)).1, x.bad ++ (rowV x.frm' (x.whole ++ p)).2⟩
/-- A line is its sign, and blanks, alone; or nothing. -/
def bareP (p : List Int) : Prop := p = [] ∨ (ctlV p).2 = true ∧ (ctlV p).1 = []
instance (p : List Int) : Decidable (bareP p) := inferInstanceAs (Decidable (_ ∨ _))
def takeV (x : Pst) (s : List Int) : Pst :=
  if 0 ≤ cmtV s then (if x.frm = 0 ∧ bareP (s.take (cmtV s).toNat) then ⟨x.line + 1, x.whole, 0, x.out, x.bad⟩ else x.done (s.take (cmtV s).toNat))
  else if oddP s = true then ⟨x.line + 1, x.whole ++ s.take (s.length - 1), x.frm', x.out, x.bad⟩ else x.done s
theorem cmtN_le : ∀ (t : List Int) (i : Nat) (o : Bool), cmtN i t o < (i + t.length : Nat)
  | [], i, o => by rw [cmtN]; omega
  | x :: t, i, o => by
    rw [cmtN]
    split
    · simp only [List.length_cons]
      omega
    · have := cmtN_le t (i + 1) (if x = 92 then !o else false)
      simp only [List.length_cons]
      omega
theorem cmtV_le (s : List Int) : cmtV s < s.length ∨ cmtV s < 0 := by
  have := cmtN_le s 0 false
  unfold cmtV
  omega
theorem oddP_pos {s : List Int} (h : oddP s = true) : 0 < s.length := by
  cases s with
  | nil => rw [oddP_nil] at h; cases h
  | cons x t => simp
theorem take_ev {x : Pst} {s : List Int} (hw : Bytes x.whole) (hs : Bytes s) (h : x.whole.length + s.length ≤ 1000000) : Ev (fun k => takeF k x.rd (strOfNums s)) (takeV x s).rd := by
  have hcl := cmtV_le s
  unfold takeF takeV
  simp only [Pst.rd]
  refine ev_pos (by rw [numsStr_size, numsStr_size]; omega) (Ev.bind (comment_ev hs (by omega)) ?_)
  by_cases hc : 0 ≤ cmtV s
  · have hp := bytes_take hs (cmtV s).toNat
    have hpl : (s.take (cmtV s).toNat).length ≤ s.length := by rw [List.length_take]; omega
    refine ev_pos hc (ev_pos (by rw [numsStr_size]; omega) ?_)
    rw [if_pos hc]
    simp only [str_take]
    generalize s.take (cmtV s).toNat = p at hp hpl ⊢
    rw [control_eq hp]
    refine Ev.bind (Ev.now _) ?_
    by_cases hb : x.frm = 0 ∧ bareP p
    · rw [if_pos hb]
      refine ev_pos ⟨hb.1, ?_⟩ (Ev.now _)
      rcases hb.2 with h1 | ⟨h1, h2⟩
      · exact Or.inl (str_nil.2 h1)
      · exact Or.inr ⟨h1, str_nil.2 h2⟩
    · rw [if_neg hb]
      refine ev_neg (fun e => hb ⟨e.1, ?_⟩) ?_
      · rcases e.2 with h1 | ⟨h1, h2⟩
        · exact Or.inl (str_nil.1 h1)
        · exact Or.inr ⟨h1, str_nil.1 h2⟩
      · rw [← numsStr_append]
        exact Ev.bind (done_ev (bytes_append hw hp) (by rw [List.length_append]; omega) _ _ _) (Ev.now _)
  · refine ev_neg hc ?_
    rw [if_neg hc, tail_eq hs (by omega)]
    refine Ev.bind (Ev.now _) ?_
    by_cases ho : oddP s = true
    · have hpos := oddP_pos ho
      rw [if_pos ho]
      refine ev_pos ((tail_odd _).2 ho) (ev_pos (by rw [numsStr_size]; omega) ?_)
      rw [numsStr_size, str_take, ← numsStr_append]
      exact Ev.now _
    · rw [if_neg ho]
      refine ev_neg (fun e => ho ((tail_odd _).1 e)) ?_
      rw [← numsStr_append]
      exact Ev.bind (done_ev (bytes_append hw hs) (by rw [List.length_append]; omega) _ _ _) (Ev.now _)
/-- Lines, one by one. -/
def takesV (x : Pst) (l : List (List Int)) : Pst := l.foldl (fun y s => takeV y (cutV 13 s).1) x
theorem takesV_cons (x : Pst) (s : List Int) (l : List (List Int)) : takesV x (s :: l) = takesV (takeV x (cutV 13 s).1) l := rfl
theorem takeV_whole (x : Pst) (s : List Int) : (takeV x s).whole.length ≤ x.whole.length + s.length ∧ (Bytes x.whole → Bytes s → Bytes (takeV x s).whole) := by
  unfold takeV Pst.done
  split
  · split
    · exact ⟨by simp only; omega, fun h _ => h⟩
    · exact ⟨by simp, fun _ _ => bytes_nil⟩
  · split
    · exact ⟨by simp only [List.length_append, List.length_take]; omega, fun h1 h2 => bytes_append h1 (bytes_take h2 _)⟩
    · exact ⟨by simp, fun _ _ => bytes_nil⟩
def sumL (l : List (List Int)) : Nat := (l.map List.length).sum
theorem takes_ev : ∀ (l : List (List Int)) (x : Pst), Bytes x.whole → (∀ s ∈ l, Bytes s) → x.whole.length + sumL l ≤ 1000000 → Ev (fun k => takesF k x.rd (l.map strOfNums)) (takesV x l).rd
  | [], x, _, _, _ => Ev.now _
  | s :: l, x, hw, hl, h => by
    have hs := hl s (by simp)
    have hsum : sumL (s :: l) = s.length + sumL l := by simp [sumL]
    obtain ⟨c1, c2⟩ := cutV_sub 13 s
    have hc : Bytes (cutV 13 s).1 := fun y hy => hs y (c2 y hy)
    obtain ⟨t1, t2⟩ := takeV_whole x (cutV 13 s).1
    rw [takesV_cons, List.map_cons]
    show Ev (fun k => (strings_TrimSuffix.f (strOfNums s) ⟨#[13]⟩).bind fun u => (takeF k x.rd u).bind fun y => takesF k y (l.map strOfNums)) _
    rw [trimsuffix_eq hs (by omega)]
    exact Ev.bind (Ev.now _) (Ev.bind (take_ev hw hc (by omega)) (takes_ev l _ (t2 hw hc) (fun y hy => hl y (by simp [hy])) (by omega)))
theorem takesV_whole : ∀ (l : List (List Int)) (x : Pst), (takesV x l).whole.length ≤ x.whole.length + sumL l ∧ (Bytes x.whole → (∀ s ∈ l, Bytes s) → Bytes (takesV x l).whole)
  | [], x => ⟨by simp [takesV], fun h _ => h⟩
  | s :: l, x => by
    have hsum : sumL (s :: l) = s.length + sumL l := by simp [sumL]
    obtain ⟨c1, c2⟩ := cutV_sub 13 s
    obtain ⟨t1, t2⟩ := takeV_whole x (cutV 13 s).1
    obtain ⟨a1, a2⟩ := takesV_whole l (takeV x (cutV 13 s).1)
    rw [takesV_cons]
    exact ⟨by omega, fun hw hl => a2 (t2 hw fun y hy => hl s (by simp) y (c2 y hy)) (fun y hy => hl y (by simp [hy]))⟩
theorem splitC_sumL : ∀ (t cur : List Int), sumL (splitC cur t) ≤ cur.length + t.length
  | [], cur => by simp [splitC, sumL]
  | x :: t, cur => by
    rw [splitC]
    split
    · have := splitC_sumL t []
      simp only [sumL, List.map_cons, List.sum_cons, List.length_nil, List.length_cons] at this ⊢
      omega
    · have := splitC_sumL t (cur ++ [x])
      simp only [List.length_append, List.length_cons, List.length_nil] at this ⊢
      omega
/-- A text, read. -/
def rd0V : Pst := ⟨0, [], 0, [], []⟩
def endV (x : Pst) : List Rw × List Dg := if 0 < x.frm then (x.out ++ (rowV x.frm x.whole).1, x.bad ++ (rowV x.frm x.whole).2) else (x.out, x.bad)
def readV (b : List Int) : List Rw × List Dg := if (cutV 10 b).1 ≠ [] ∨ (cutV 10 b).2 = true then endV (takesV rd0V (splitC [] (cutV 10 b).1)) else ([], [])
theorem read_ev {b : List Int} (hb : Bytes b) (h : b.length ≤ 900000) : Ev (fun k => lines_Read.f k (strOfNums b)) (readV b) := by
  obtain ⟨c1, c2⟩ := cutV_sub 10 b
  have hc : Bytes (cutV 10 b).1 := fun y hy => hb y (c2 y hy)
  unfold lines_Read.f readV
  rw [cutsuffix_eq hb (by omega)]
  refine Ev.bind (Ev.now _) ?_
  generalize (cutV 10 b).1 = c at c1 hc ⊢
  generalize (cutV 10 b).2 = e
  by_cases he : c ≠ [] ∨ e = true
  · rw [if_pos he]
    refine ev_pos (he.imp (fun h1 h2 => h1 (str_nil.1 h2)) id) ?_
    have hp := pieces_eq c.length c (Nat.le_refl _) hc
    have hpl := splitC_length c []
    have hps := splitC_sumL c []
    have hpb : ∀ s ∈ splitC [] c, Bytes s := fun s hs y hy => by
      rcases (splitC_sum c [] s hs).2 y hy with h1 | h1
      · simp at h1
      · exact hc y h1
    rw [hp]
    simp only [List.length_nil] at hps
    refine ev_pos ⟨by rw [List.length_map]; omega, by rw [numsStr_size]; omega⟩ ?_
    have ht := takes_ev (splitC [] c) rd0V bytes_nil hpb (by simp only [rd0V, List.length_nil]; omega)
    obtain ⟨w1, w2⟩ := takesV_whole (splitC [] c) rd0V
    have hw := w2 bytes_nil hpb
    have w0 : rd0V.whole.length = 0 := rfl
    refine Ev.bind ht ?_
    unfold endV
    generalize takesV rd0V (splitC [] c) = x at hw w1 ⊢
    by_cases h0 : 0 < x.frm
    · rw [if_pos h0]
      exact ev_pos h0 (done_ev hw (by omega) _ _ _)
    · rw [if_neg h0]
      exact ev_neg h0 (Ev.now _)
  · rw [if_neg he]
    refine ev_neg (fun e1 => he (e1.imp (fun h1 h2 => h1 (str_nil.2 h2)) id)) (Ev.now _)
end Go.Proofs.YtmfkokjbjmahkaaDoor.Pure

/- Lines without a backslash. -/
namespace Go.Proofs.YtmfkokjbjmahkaaDoor.Pure
open Go Go.RowKit Go.Proofs.YtmfkokjbjmahkaaDoorW.PrintWords Go.Proofs.YtmfkokjbjmahkaaDoorW.PrintLast Go.Proofs.YtmfkokjbjmahkaaDoorW.PrintMore Go.Proofs.YtmfkokjbjmahkaaDoor.X Go.Proofs.YtmfkokjbjmahkaaDoor.Hand
set_option linter.unusedSimpArgs false
set_option linter.unusedVariables false
theorem tailV_none {s : List Int} (h : (92 : Int) ∉ s) : tailV s = 0 := by
  rcases List.eq_nil_or_concat s with rfl | ⟨a, x, rfl⟩
  · rfl
  · rw [List.concat_eq_append] at h ⊢
    rw [tailV_snoc, if_neg (fun e => h (by simp [e]))]
theorem oddP_none {s : List Int} (h : (92 : Int) ∉ s) : oddP s = false := by
  unfold oddP
  rw [tailV_none h]
  rfl
theorem cmtN_append : ∀ (a t : List Int) (i : Nat), (92 : Int) ∉ a → cmtN i (a ++ t) false = cmtN (i + a.length) t false
  | [], t, i, _ => rfl
  | x :: a, t, i, h => by
    simp only [List.mem_cons, not_or] at h
    rw [List.cons_append, cmtN, if_neg (fun e => by simpa using e.2), if_neg (fun e => h.1 e.symm), cmtN_append a t (i + 1) h.2, List.length_cons]
    congr 1
    omega
theorem cmtV_none {s : List Int} (h : (92 : Int) ∉ s) : cmtV s = -1 := by
  have := cmtN_append s [] 0 h
  rw [List.append_nil] at this
  unfold cmtV
  rw [this, cmtN]
theorem takeV_none (x : Pst) {s : List Int} (h : (92 : Int) ∉ s) : takeV x s = x.done s := by
  unfold takeV
  rw [cmtV_none h, if_neg (by omega), oddP_none h, if_neg (by simp)]
end Go.Proofs.YtmfkokjbjmahkaaDoor.Pure

/- Texts without a backslash: a row a line; two texts, one behind the other. -/
namespace Go.Proofs.YtmfkokjbjmahkaaDoor.Pure
open Go Go.RowKit Go.Proofs.YtmfkokjbjmahkaaDoorW.PrintWords Go.Proofs.YtmfkokjbjmahkaaDoorW.PrintLast Go.Proofs.YtmfkokjbjmahkaaDoorW.PrintMore Go.Proofs.YtmfkokjbjmahkaaDoor.X Go.Proofs.YtmfkokjbjmahkaaDoor.Hand
set_option linter.unusedSimpArgs false
set_option linter.unusedVariables false
/-- The rows of lines, none of which goes on. -/
def rowsV : Int → List (List Int) → List Rw × List Dg
  | _, [] => ([], [])
  | D, s :: t => ((rowV (D + 1) (cutV 13 s).1).1 ++ (rowsV (D + 1) t).1, (rowV (D + 1) (cutV 13 s).1).2 ++ (rowsV (D + 1) t).2)
theorem takesV_rows : ∀ (l : List (List Int)) (D : Int) (o : List Rw) (b : List Dg), (∀ s ∈ l, (92 : Int) ∉ s) → takesV ⟨D, [], 0, o, b⟩ l = ⟨D + l.length, [], 0, o ++ (rowsV D l).1, b ++ (rowsV D l).2⟩
  | [], D, o, b, _ => by simp [takesV, rowsV]
  | s :: l, D, o, b, h => by
    have h1 : (92 : Int) ∉ (cutV 13 s).1 := fun e => h s (by simp) ((cutV_sub 13 s).2 _ e)
    rw [takesV_cons, takeV_none _ h1]
    show takesV ⟨D + 1, [], 0, o ++ (rowV (D + 1) ([] ++ (cutV 13 s).1)).1, b ++ (rowV (D + 1) ([] ++ (cutV 13 s).1)).2⟩ l = _
    rw [List.nil_append, takesV_rows l (D + 1) _ _ fun x hx => h x (by simp [hx]), rowsV, List.append_assoc, List.append_assoc, List.length_cons]
    congr 1
    omega
/-- The lines of a text. -/
def lns (b : List Int) : List (List Int) := if b = [] then [] else splitC [] (cutV 10 b).1
theorem mem_lns {b s : List Int} (h : s ∈ lns b) : ∀ x ∈ s, x ∈ b := by
  unfold lns at h
  split at h
  · simp at h
  · intro x hx
    rcases (splitC_sum _ [] s h).2 x hx with h1 | h1
    · simp at h1
    · exact (cutV_sub 10 b).2 x h1
theorem cutV_nil {b : List Int} (h1 : (cutV 10 b).1 = []) (h2 : (cutV 10 b).2 = false) : b = [] := by
  unfold cutV at h1 h2
  split at h1
  · rename_i h
    rw [if_pos h] at h2
    cases h2
  · exact h1
theorem readV_rows {b : List Int} (h : (92 : Int) ∉ b) : readV b = rowsV 0 (lns b) := by
  unfold readV
  by_cases hb : b = []
  · subst hb
    rfl
  · have h1 : lns b = splitC [] (cutV 10 b).1 := by unfold lns; rw [if_neg hb]
    rw [if_pos ?_, ← h1]
    · unfold rd0V
      rw [takesV_rows _ _ _ _ fun s hs e => h (mem_lns hs _ e)]
      unfold endV
      simp
    · by_cases h2 : (cutV 10 b).1 = []
      · right
        cases h3 : (cutV 10 b).2
        · exact absurd (cutV_nil h2 h3) hb
        · rfl
      · exact .inl h2
theorem splitC_append : ∀ (a cur d : List Int), splitC cur (a ++ 10 :: d) = splitC cur a ++ splitC [] d
  | [], cur, d => by simp [splitC]
  | x :: a, cur, d => by
    rw [List.cons_append, splitC, splitC]
    split
    · rw [splitC_append a [] d, List.cons_append]
    · rw [splitC_append a _ d]
/-- Whether a text ends where a line might begin. -/
def openP (a : List Int) : Prop := a = [] ∨ a.getLast? = some 10
instance (a : List Int) : Decidable (openP a) := inferInstanceAs (Decidable (_ ∨ _))
theorem lns_both (a b : List Int) : lns (a ++ 10 :: b) = splitC [] a ++ lns b := by
  have h0 : lns (a ++ 10 :: b) = splitC [] (cutV 10 (a ++ 10 :: b)).1 := by unfold lns; rw [if_neg (by simp)]
  rw [h0]
  rcases List.eq_nil_or_concat b with rfl | ⟨p, x, rfl⟩
  · rw [cutV_snoc]
    simp [lns]
  · rw [List.concat_eq_append]
    have h1 : lns (p ++ [x]) = splitC [] (cutV 10 (p ++ [x])).1 := by unfold lns; rw [if_neg (by simp)]
    rw [h1]
    by_cases hx : x = 10
    · subst hx
      rw [cutV_snoc, show a ++ 10 :: (p ++ [10]) = (a ++ 10 :: p) ++ [10] from by simp, cutV_snoc, splitC_append]
    · rw [cutV_other (b := p ++ [x]) (by simp [hx]), show a ++ 10 :: (p ++ [x]) = (a ++ 10 :: p) ++ [x] from by simp, cutV_other (by rw [List.getLast?_concat]; intro e; exact hx (Option.some.inj e)), show (a ++ 10 :: p) ++ [x] = a ++ 10 :: (p ++ [x]) from by simp, splitC_append]
/-- A row, so many lines below. -/
def upR (D : Int) (r : Rw) : Rw := ⟨r.f0 + D, r.f1, r.f2, r.f3⟩
theorem rowV_up (D f : Int) (s : List Int) : (rowV (f + D) s).1 = (rowV f s).1.map (upR D) := by
  unfold rowV
  split
  · split
    · rfl
    · rfl
  · rfl
/-- A text behind another one is read as it is read alone, so many lines below. -/
structure UpS (D : Int) (o : List Rw) (x y : Pst) : Prop where
  line : y.line = x.line + D
  whole : y.whole = x.whole
  frm : x.frm = 0 ∧ y.frm = 0 ∨ 0 < x.frm ∧ y.frm = x.frm + D
  out : y.out = o ++ x.out.map (upR D)
  pos : 0 ≤ x.line ∧ 0 ≤ D
theorem UpS.frm' {D : Int} {o : List Rw} {x y : Pst} (h : UpS D o x y) : 0 < x.frm' ∧ y.frm' = x.frm' + D := by
  have hp := h.pos
  unfold Pst.frm'
  rcases h.frm with ⟨h1, h2⟩ | ⟨h1, h2⟩
  · rw [if_pos h1, if_pos h2, h.line]
    omega
  · rw [if_neg (by omega), if_neg (by omega)]
    exact ⟨h1, h2⟩
theorem UpS.done {D : Int} {o : List Rw} {x y : Pst} (h : UpS D o x y) (p : List Int) : UpS D o (x.done p) (y.done p) := by
  obtain ⟨h1, h2⟩ := h.frm'
  refine ⟨by simp only [Pst.done, h.line]; omega, rfl, .inl ⟨rfl, rfl⟩, ?_, by have := h.pos; simp only [Pst.done]; omega⟩
  simp only [Pst.done]
  rw [h.out, h.whole, h2, rowV_up, List.map_append, List.append_assoc]
theorem UpS.take {D : Int} {o : List Rw} {x y : Pst} (h : UpS D o x y) (s : List Int) : UpS D o (takeV x s) (takeV y s) := by
  have hp := h.pos
  obtain ⟨h1, h2⟩ := h.frm'
  have h0 : x.frm = 0 ↔ y.frm = 0 := by have := h.frm; omega
  unfold takeV
  split
  · by_cases hb : x.frm = 0 ∧ bareP (s.take (cmtV s).toNat)
    · rw [if_pos hb, if_pos ⟨h0.1 hb.1, hb.2⟩]
      exact ⟨by simp only [h.line]; omega, h.whole, .inl ⟨rfl, rfl⟩, h.out, by simp only; omega⟩
    · rw [if_neg hb, if_neg (fun e => hb ⟨h0.2 e.1, e.2⟩)]
      exact h.done _
  · split
    · exact ⟨by simp only [h.line]; omega, by simp only [h.whole], .inr ⟨h1, h2⟩, h.out, by simp only; omega⟩
    · exact h.done _
theorem rowV_line (f : Int) (s : List Int) : ((rowV f s).1 = [] ∧ (rowV f s).2 = []) ∨ ∃ r, (rowV f s).1 = [r] ∧ r.f0 = f ∧ r.f2.length ≤ 200 ∧ ∀ d ∈ (rowV f s).2, d.f1 = f := by
  unfold rowV
  split
  · split
    · exact .inl ⟨rfl, rfl⟩
    · refine .inr ⟨_, rfl, rfl, ?_, ?_⟩
      · simp only
        split
        · rw [List.length_take]
          omega
        · rename_i h
          rw [List.length_map]
          omega
      · intro d hd
        simp only [List.mem_append] at hd
        rcases hd with hd | hd
        · split at hd
          · simp at hd
          · simp only [List.mem_singleton] at hd
            subst hd
            rfl
        · split at hd
          · simp only [List.mem_singleton] at hd
            subst hd
            rfl
          · simp at hd
  · exact .inr ⟨_, rfl, rfl, by simp, by simp⟩
/-- How many rows there may be, and how far below. -/
structure OkS (x : Pst) : Prop where
  frm : 0 ≤ x.frm ∧ x.frm ≤ x.line
  out : (x.out.length : Int) ≤ x.line
  row : ∀ r ∈ x.out, 0 < r.f0 ∧ r.f0 ≤ x.line ∧ r.f2.length ≤ 200
theorem rowV_rows (f : Int) (s : List Int) : (rowV f s).1.length ≤ 1 ∧ ∀ r ∈ (rowV f s).1, r.f0 = f ∧ r.f2.length ≤ 200 := by
  rcases rowV_line f s with ⟨h, _⟩ | ⟨r, h, h1, h2, _⟩
  · rw [h]
    simp
  · rw [h]
    simp [h1, h2]
theorem OkS.done {x : Pst} (h : OkS x) (p : List Int) : OkS (x.done p) := by
  obtain ⟨h1, h2⟩ := rowV_rows x.frm' (x.whole ++ p)
  have hf := h.frm
  have ho := h.out
  have hf' : 0 < x.frm' ∧ x.frm' ≤ x.line + 1 := by unfold Pst.frm'; split <;> omega
  refine ⟨by simp only [Pst.done]; omega, by simp only [Pst.done, List.length_append]; omega, fun r hr => ?_⟩
  simp only [Pst.done] at hr ⊢
  rcases List.mem_append.1 hr with hr | hr
  · have := h.row r hr
    omega
  · have := h2 r hr
    omega
theorem OkS.take {x : Pst} (h : OkS x) (s : List Int) : OkS (takeV x s) := by
  have hf := h.frm
  have ho := h.out
  have hf' : 0 < x.frm' ∧ x.frm' ≤ x.line + 1 := by unfold Pst.frm'; split <;> omega
  unfold takeV
  split
  · split
    · exact ⟨by simp only; omega, by simp only; omega, fun r hr => by have := h.row r hr; simp only; omega⟩
    · exact h.done _
  · split
    · exact ⟨by simp only; omega, by simp only; omega, fun r hr => by have := h.row r hr; simp only; omega⟩
    · exact h.done _
end Go.Proofs.YtmfkokjbjmahkaaDoor.Pure

/- A macro's line: its name, its arguments in quotation marks, read again. -/
namespace Go.Proofs.YtmfkokjbjmahkaaDoor.Pure
open Go Go.RowKit Go.Proofs.YtmfkokjbjmahkaaDoorW.PrintWords Go.Proofs.YtmfkokjbjmahkaaDoorW.PrintLast Go.Proofs.YtmfkokjbjmahkaaDoorW.PrintMore Go.Proofs.YtmfkokjbjmahkaaDoor.X Go.Proofs.YtmfkokjbjmahkaaDoor.Hand
set_option linter.unusedSimpArgs false
set_option linter.unusedVariables false
/-- Texts, quoted, each with a blank ahead. -/
def joinA (xs : List (List Int)) : List Int := xs.flatMap fun x => 32 :: quoB x
theorem joinA_nil : joinA [] = [] := rfl
theorem joinA_cons (x : List Int) (xs : List (List Int)) : joinA (x :: xs) = 32 :: 34 :: (twoB x ++ 34 :: joinA xs) := by
  unfold joinA
  rw [List.flatMap_cons, quoB_eq]
  simp
theorem joinA_head (xs : List (List Int)) : joinA xs = [] ∨ ∃ t, joinA xs = 32 :: t := by
  cases xs with
  | nil => exact .inl rfl
  | cons x xs => exact .inr ⟨_, joinA_cons x xs⟩
theorem quoN_twoA {t : List Int} (ht : t = [] ∨ ∃ u, t = 32 :: u) : ∀ b : List Int, quoN (twoB b ++ 34 :: t) = (b, (twoB b).length + 1, true)
  | [] => by
    rw [twoB_nil, List.nil_append]
    rcases ht with rfl | ⟨u, rfl⟩
    · rfl
    · rw [quoN_end (by decide)]
      rfl
  | x :: b => by
    rw [twoB_cons]
    by_cases h : x = 34
    · subst h
      rw [if_pos rfl, show ([34, 34] ++ twoB b ++ 34 :: t : List Int) = 34 :: 34 :: (twoB b ++ 34 :: t) from by simp, quoN_two, quoN_twoA ht b]
      simp
    · rw [if_neg h, show ([x] ++ twoB b ++ 34 :: t : List Int) = x :: (twoB b ++ 34 :: t) from by simp, quoN_other h, quoN_twoA ht b]
      simp
theorem argsN_joinA : ∀ (xs : List (List Int)) (n : Nat), (joinA xs).length ≤ n → argsN n (joinA xs) true = (xs, true)
  | [], n, _ => by cases n <;> rfl
  | x :: xs, n, h => by
    rw [joinA_cons] at h ⊢
    simp only [List.length_cons, List.length_append] at h
    obtain ⟨m, rfl⟩ : ∃ m, n = m + 2 := ⟨n - 2, by omega⟩
    rw [argsN, if_pos (by decide), argsN, if_neg (by decide), if_pos rfl, quoN_twoA (joinA_head xs)]
    have hd : (twoB x ++ 34 :: joinA xs).drop ((twoB x).length + 1) = joinA xs := by
      rw [← List.drop_drop, List.drop_left]
      rfl
    simp only [hd]
    rw [argsN_joinA xs m (by omega)]
theorem argsV_joinA (xs : List (List Int)) : argsV (joinA xs) = (xs, true) := argsN_joinA xs _ (Nat.le_refl _)
theorem twoB_mem {b : List Int} {x : Int} (h : x ∈ twoB b) : x ∈ b := by
  obtain ⟨y, hy, hx⟩ := List.mem_flatMap.1 h
  split at hx
  · rename_i e
    simp at hx
    rw [hx, ← e]
    exact hy
  · simp at hx
    rw [hx]
    exact hy
theorem joinA_mem {xs : List (List Int)} {y : Int} (h : y ∈ joinA xs) : y = 32 ∨ y = 34 ∨ ∃ x ∈ xs, y ∈ x := by
  obtain ⟨x, hx, hy⟩ := List.mem_flatMap.1 h
  rw [quoB_eq] at hy
  simp only [List.mem_append, List.mem_cons, List.not_mem_nil, or_false] at hy
  rcases hy with rfl | (rfl | hy) | rfl
  · exact .inl rfl
  · exact .inr (.inl rfl)
  · exact .inr (.inr ⟨x, hx, twoB_mem hy⟩)
  · exact .inr (.inl rfl)
theorem joinA_bytes {xs : List (List Int)} (h : ∀ x ∈ xs, Bytes x) : Bytes (joinA xs) := by
  intro y hy
  rcases joinA_mem hy with rfl | rfl | ⟨x, hx, hy⟩
  · decide
  · decide
  · exact h x hx y hy
/-- A name: no blank, no sign first. -/
structure NameP (nm : List Int) : Prop where
  ne : nm ≠ []
  bl : ∀ x ∈ nm, isBl x = false
  no : ∀ x ∈ nm, x ≠ 10 ∧ x ≠ 13 ∧ x ≠ 92 ∧ x ≠ 34
  sg : ∀ x t, nm = x :: t → x ≠ 46 ∧ x ≠ 39
theorem nmN_name {nm t : List Int} (h : ∀ x ∈ nm, isBl x = false) (ht : t = [] ∨ ∃ u, t = 32 :: u) : nmN (nm ++ t) = nm.length := by
  unfold nmN
  rw [List.takeWhile_append_of_pos (by intro x hx; simp [h x hx])]
  rcases ht with rfl | ⟨u, rfl⟩
  · simp
  · rw [List.takeWhile_cons, if_neg (by decide)]
    simp
/-- The row of a macro's line. -/
theorem rowV_macro {nm : List Int} {xs : List (List Int)} (h : NameP nm) (hx : xs.length ≤ 200) (frm : Int) (g : Nat) {c : Int} (hc : c = 46 ∨ c = 39) : rowV frm (c :: (List.replicate g 32 ++ (nm ++ joinA xs))) = ([⟨frm, strOfNums nm, xs.map strOfNums, ⟨#[]⟩⟩], []) := by
  have e : ctlV (c :: (List.replicate g 32 ++ (nm ++ joinA xs))) = (nm ++ joinA xs, true) := by
    rw [ctlV, if_pos hc, List.dropWhile_append_of_pos (by intro x hx; rw [List.eq_of_mem_replicate hx]; decide)]
    obtain ⟨x, t, rfl⟩ : ∃ x t, nm = x :: t := by
      cases nm with
      | nil => exact absurd rfl h.ne
      | cons x t => exact ⟨x, t, rfl⟩
    rw [List.cons_append, List.dropWhile_cons, if_neg (by rw [h.bl x (by simp)]; simp)]
  have hn := nmN_name h.bl (joinA_head xs)
  have h0 : nm.length ≠ 0 := fun e => h.ne (List.eq_nil_of_length_eq_zero e)
  unfold rowV
  rw [e]
  simp only [if_true, hn, if_neg h0, List.drop_left, List.take_left, argsV_joinA]
  rw [if_neg (by omega), if_neg (by omega)]
  rfl
/-- A line that is a macro's has nothing that ends a line, and ends with none. -/
theorem macro_no {nm : List Int} {xs : List (List Int)} (h : NameP nm) (hx : ∀ x ∈ xs, ∀ y ∈ x, y ≠ 10 ∧ y ≠ 13 ∧ y ≠ 92) : ∀ y ∈ nm ++ joinA xs, y ≠ 10 ∧ y ≠ 13 ∧ y ≠ 92 := by
  intro y hy
  rcases List.mem_append.1 hy with hy | hy
  · have := h.no y hy
    exact ⟨this.1, this.2.1, this.2.2.1⟩
  · rcases joinA_mem hy with rfl | rfl | ⟨x, hxx, hy⟩
    · decide
    · decide
    · exact hx x hxx y hy
end Go.Proofs.YtmfkokjbjmahkaaDoor.Pure

/- Check: whether a row may be written: the package's. -/
namespace Go.Proofs.YtmfkokjbjmahkaaDoor.Pure
open Go Go.RowKit Go.Proofs.YtmfkokjbjmahkaaDoorW.PrintWords Go.Proofs.YtmfkokjbjmahkaaDoorW.PrintLast Go.Proofs.YtmfkokjbjmahkaaDoorW.PrintMore Go.Proofs.YtmfkokjbjmahkaaDoor.X Go.Proofs.YtmfkokjbjmahkaaDoor.Hand
set_option linter.unusedSimpArgs false
set_option linter.unusedVariables false
theorem has_cons (x : UInt8) (l cs : List UInt8) : Lib.containsAny (x :: l) cs = (cs.contains x || Lib.containsAny l cs) := by
  have h := Lib.indexAny_ge cs l
  unfold Lib.containsAny
  rw [Lib.indexAny]
  cases cs.contains x with
  | true => rfl
  | false =>
    simp only [Bool.false_eq_true, if_false, Bool.false_or]
    by_cases e : Lib.indexAny l cs = -1
    · rw [e]
      rfl
    · rw [if_neg (by simpa using e), decide_eq_true (by omega), decide_eq_true (by omega)]
theorem has_one {x : Int} (hx : 0 ≤ x ∧ x ≤ 255) : ∀ cs : List Nat, (∀ c ∈ cs, c ≤ 255) → (cs.map UInt8.ofNat).contains (UInt8.ofNat x.toNat) = cs.any fun c => x == (c : Int)
  | [], _ => rfl
  | c :: cs, h => by
    rw [List.map_cons, List.contains_cons, u8_eq hx c (h c (by simp)), has_one hx cs (fun y hy => h y (by simp [hy])), List.any_cons]
theorem has_map (cs : List Nat) (hc : ∀ c ∈ cs, c ≤ 255) : ∀ {b : List Int}, Bytes b → Lib.containsAny (b.map fun n => UInt8.ofNat n.toNat) (cs.map UInt8.ofNat) = b.any fun x => cs.any fun c => x == (c : Int)
  | [], _ => rfl
  | x :: t, hb => by
    obtain ⟨hx, ht⟩ := bytes_cons hb
    rw [List.map_cons, has_cons, has_one hx cs hc, has_map cs hc ht, List.any_cons]
theorem has_str {b : List Int} (hb : Bytes b) (cs : List Nat) (hc : ∀ c ∈ cs, c ≤ 255) : Lib.containsAny (strOfNums b).data.toList (cs.map UInt8.ofNat) = b.any fun x => cs.any fun c => x == (c : Int) := by
  rw [data_str]
  exact has_map cs hc hb
theorem badT_str {b : List Int} (hb : Bytes b) : badT (strOfNums b) = b.any fun x => [10, 13, 92].any fun c : Nat => x == (c : Int) := has_str hb [10, 13, 92] (by decide)
theorem prefix_eq {b : List Int} (hb : Bytes b) (c : Nat) (hc : c ≤ 255) : stringslite_HasPrefix.f (strOfNums b) (⟨#[UInt8.ofNat c]⟩ : ByteArray) = some (decide (b.head? = some (c : Int))) := by
  have h1 : (⟨#[UInt8.ofNat c]⟩ : ByteArray).size = 1 := rfl
  unfold stringslite_HasPrefix.f
  cases b with
  | nil =>
    rw [h1, numsStr_size, if_neg (by simp)]
    rfl
  | cons x t =>
    obtain ⟨hx, ht⟩ := bytes_cons hb
    have hu := u8_eq hx c hc
    rw [h1, numsStr_size, List.length_cons, if_pos (by omega), if_pos (by omega), if_pos (by omega), str_take, str_toList]
    have e2 : (⟨#[UInt8.ofNat c]⟩ : ByteArray).toList = [UInt8.ofNat c] := by rw [ByteArray.toList_eq]
    rw [e2, List.head?_cons]
    congr 1
    show ([UInt8.ofNat x.toNat] == [UInt8.ofNat c]) = _
    simp only [List.cons_beq_cons, BEq.rfl, Bool.and_true, Option.some.injEq]
    rw [hu]
    rfl
/-- A text that may stand in a row. -/
structure TextP (t : List Int) : Prop where
  no : ∀ x ∈ t, x ≠ 10 ∧ x ≠ 92
  cr : t.getLast? ≠ some 13
  sg : t.head? ≠ some 46 ∧ t.head? ≠ some 39
/-- A row that may be written. -/
def CheckP (nm : List Int) (l : List ByteArray) (t : List Int) : Prop := nm = [] ∧ l = [] ∧ TextP t ∨ NameP nm ∧ t = [] ∧ l.length ≤ 200 ∧ ∀ s ∈ l, badT s = false
theorem ev_three {c1 c3 : Prop} [Decidable c1] [Decidable c3] {u : Bool} {f g h e : Nat → Option Int} {r : Int} (h1 : ¬ c1) (h2 : ¬ u = true) (h3 : c3) (hh : Ev h r) : Ev (fun k => if c1 then f k else (some u).bind fun t => if t = true then g k else if c3 then h k else e k) r := ev_neg h1 (Ev.bind (Ev.now _) (ev_neg h2 (ev_pos h3 hh)))
theorem check_ev {nm t : List Int} {l : List ByteArray} (n : Int) (hn : Bytes nm) (ht : Bytes t) (hnl : nm.length ≤ 140737488355328) (htl : t.length ≤ 1000000) (hl : ∀ s ∈ l, s.size ≤ 140737488355328) :
    ∃ r, Ev (fun k => lines_Check.f k n (strOfNums nm) l (strOfNums t)) r ∧ (r = 0 ∧ CheckP nm l t ∨ r = 2 ∧ ¬ CheckP nm l t) := by
  unfold lines_Check.f
  by_cases h0 : nm = []
  · subst h0
    have hnn : ¬ NameP [] := fun h => h.ne rfl
    have jt : ∀ k0 : Bool, k0 = true → Ev (fun k => lines_Check.j0 k k0 n (strOfNums []) l (strOfNums t)) 2 := fun k0 hk => Ev.step (f := fun _ => some 2) (fun k => by simp only [lines_Check.j0]; rw [if_pos hk]) (Ev.now _)
    have e1 : Lib.containsAny (strOfNums t).data.toList [10, 92] = t.any fun x => [10, 92].any fun c : Nat => x == (c : Int) := has_str ht [10, 92] (by decide)
    have hc : strings_ContainsAny.f (strOfNums t) (⟨#[10, 92]⟩ : ByteArray) = some (t.any fun x => [10, 92].any fun c : Nat => x == (c : Int)) := by
      unfold strings_ContainsAny.f
      rw [if_pos ⟨by decide, by decide, by rw [numsStr_size]; omega, by decide⟩, show (⟨#[10, 92]⟩ : ByteArray).data.toList = [10, 92] from rfl, e1]
    have hs : strings_HasSuffix.f (strOfNums t) (⟨#[13]⟩ : ByteArray) = some (decide (t.getLast? = some 13)) := by
      unfold strings_HasSuffix.f
      rw [show (⟨#[13]⟩ : ByteArray) = ⟨#[UInt8.ofNat 13]⟩ from rfl, suffix_eq ht htl 13 (by omega)]
      rfl
    have hp : strings_HasPrefix.f (strOfNums t) (⟨#[46]⟩ : ByteArray) = some (decide (t.head? = some 46)) := by
      unfold strings_HasPrefix.f
      rw [show (⟨#[46]⟩ : ByteArray) = ⟨#[UInt8.ofNat 46]⟩ from rfl, prefix_eq ht 46 (by omega)]
      rfl
    have hq : strings_HasPrefix.f (strOfNums t) (⟨#[39]⟩ : ByteArray) = some (decide (t.head? = some 39)) := by
      unfold strings_HasPrefix.f
      rw [show (⟨#[39]⟩ : ByteArray) = ⟨#[UInt8.ofNat 39]⟩ from rfl, prefix_eq ht 39 (by omega)]
      rfl
    simp only [hc, hs, hp, Option.bind_some]
    by_cases h1 : l = []
    · subst h1
      by_cases h2 : (t.any fun x => [10, 92].any fun c : Nat => x == (c : Int)) = true
      · refine ⟨2, ev_pos (str_nil.2 rfl) (ev_neg (by simp) (ev_pos h2 (jt _ rfl))), .inr ⟨rfl, ?_⟩⟩
        rintro (⟨_, _, h⟩ | ⟨h, _⟩)
        · obtain ⟨x, hx, hc⟩ := List.any_eq_true.1 h2
          have := h.no x hx
          simp at hc
          omega
        · exact hnn h
      have hno : ∀ x ∈ t, x ≠ 10 ∧ x ≠ 92 := fun x hx => by
        have := List.any_eq_false.1 (Bool.eq_false_iff.2 h2) x hx
        simp at this
        omega
      by_cases h3 : t.getLast? = some 13
      · refine ⟨2, ev_pos (str_nil.2 rfl) (ev_neg (by simp) (ev_neg h2 (ev_pos (decide_eq_true h3) (jt _ rfl)))), .inr ⟨rfl, ?_⟩⟩
        rintro (⟨_, _, h⟩ | ⟨h, _⟩)
        · exact h.cr h3
        · exact hnn h
      have h3' : ¬ (decide (t.getLast? = some 13) = true) := fun e => h3 (of_decide_eq_true e)
      by_cases h4 : t.head? = some 46
      · refine ⟨2, ev_pos (str_nil.2 rfl) (ev_neg (by simp) (ev_neg h2 (ev_neg h3' (jt _ (decide_eq_true h4))))), .inr ⟨rfl, ?_⟩⟩
        rintro (⟨_, _, h⟩ | ⟨h, _⟩)
        · exact h.sg.1 h4
        · exact hnn h
      have jf : ∀ {r : Int}, (if decide (t.head? = some 39) = true then some (2 : Int) else some 0) = some r → Ev (fun k => lines_Check.j0 k (decide (t.head? = some 46)) n (strOfNums []) [] (strOfNums t)) r := fun hr => Ev.step (f := fun _ => if decide (t.head? = some 39) = true then some (2 : Int) else some 0) (fun k => by
        simp only [lines_Check.j0, hq, Option.bind_some]
        rw [if_neg (fun e => h4 (of_decide_eq_true e))]) (ev_one hr)
      by_cases h5 : t.head? = some 39
      · refine ⟨2, ev_pos (str_nil.2 rfl) (ev_neg (by simp) (ev_neg h2 (ev_neg h3' (jf (if_pos (decide_eq_true h5)))))), .inr ⟨rfl, ?_⟩⟩
        rintro (⟨_, _, h⟩ | ⟨h, _⟩)
        · exact h.sg.2 h5
        · exact hnn h
      · exact ⟨0, ev_pos (str_nil.2 rfl) (ev_neg (by simp) (ev_neg h2 (ev_neg h3' (jf (if_neg (fun e => h5 (of_decide_eq_true e))))))), .inl ⟨rfl, .inl ⟨rfl, rfl, hno, h3, h4, h5⟩⟩⟩
    · refine ⟨2, ev_pos (str_nil.2 rfl) (ev_pos ?_ (jt _ rfl)), .inr ⟨rfl, ?_⟩⟩
      · have : 0 < l.length := List.length_pos_iff.2 h1
        omega
      · rintro (⟨_, h, _⟩ | ⟨h, _⟩)
        · exact h1 h
        · exact hnn h
  · have e1 : Lib.containsAny (strOfNums nm).data.toList [32, 9, 10, 13, 92, 34] = nm.any fun x => [32, 9, 10, 13, 92, 34].any fun c : Nat => x == (c : Int) := has_str hn [32, 9, 10, 13, 92, 34] (by decide)
    have hnt : ¬ (strOfNums nm).toList = [] := fun e => h0 (str_nil.1 e)
    have hc : strings_ContainsAny.f (strOfNums nm) (⟨#[32, 9, 10, 13, 92, 34]⟩ : ByteArray) = some (nm.any fun x => [32, 9, 10, 13, 92, 34].any fun c : Nat => x == (c : Int)) := by
      unfold strings_ContainsAny.f
      rw [if_pos ⟨by decide, by decide, by rw [numsStr_size]; omega, by decide⟩, show (⟨#[32, 9, 10, 13, 92, 34]⟩ : ByteArray).data.toList = [32, 9, 10, 13, 92, 34] from rfl, e1]
    rw [hc]
    by_cases h2 : (nm.any fun x => [32, 9, 10, 13, 92, 34].any fun c : Nat => x == (c : Int)) = true
    · refine ⟨2, ev_neg hnt (Ev.bind (Ev.now _) (ev_pos h2 (Ev.now _))), .inr ⟨rfl, ?_⟩⟩
      rintro (⟨h, _⟩ | ⟨h, _⟩)
      · exact h0 h
      · obtain ⟨x, hx, hc⟩ := List.any_eq_true.1 h2
        have h3 := h.no x hx
        have h4 := h.bl x hx
        unfold isBl at h4
        simp at hc h4
        omega
    · have h2' : (nm.any fun x => [32, 9, 10, 13, 92, 34].any fun c : Nat => x == (c : Int)) = false := by simpa using h2
      have hno : ∀ x ∈ nm, x ≠ 32 ∧ x ≠ 9 ∧ x ≠ 10 ∧ x ≠ 13 ∧ x ≠ 92 ∧ x ≠ 34 := fun x hx => by
        have := List.any_eq_false.1 h2' x hx
        simp at this
        omega
      obtain ⟨c, p, rfl⟩ : ∃ c p, nm = c :: p := by
        cases nm with
        | nil => exact absurd rfl h0
        | cons c p => exact ⟨c, p, rfl⟩
      have hh := bt_head hn
      have hsz : 0 < ((strOfNums (c :: p)).size : Int) := by rw [numsStr_size, List.length_cons]; omega
      rw [hh]
      by_cases h3 : c = 46
      · refine ⟨2, ev_three hnt h2 hsz (ev_pos h3 (Ev.now _)), .inr ⟨rfl, ?_⟩⟩
        rintro (⟨h, _⟩ | ⟨h, _⟩)
        · exact h0 h
        · exact (h.sg _ _ rfl).1 h3
      by_cases h4 : c = 39
      · refine ⟨2, ev_three hnt h2 hsz (ev_neg h3 (ev_pos h4 (Ev.now _))), .inr ⟨rfl, ?_⟩⟩
        rintro (⟨h, _⟩ | ⟨h, _⟩)
        · exact h0 h
        · exact (h.sg _ _ rfl).2 h4
      have hnm : NameP (c :: p) := ⟨h0, fun x hx => by have := hno x hx; unfold isBl; simp; omega, fun x hx => by have := hno x hx; omega, fun x q e => by
        obtain ⟨rfl, rfl⟩ := List.cons.inj e
        exact ⟨h3, h4⟩⟩
      by_cases h5 : t = []
      · by_cases h6 : (l.length : Int) > 200
        · refine ⟨2, ev_three hnt h2 hsz (ev_neg h3 (ev_neg h4 (ev_pos (str_nil.2 h5) (ev_pos h6 (Ev.now _))))), .inr ⟨rfl, ?_⟩⟩
          rintro (⟨h, _⟩ | ⟨_, _, h, _⟩)
          · exact h0 h
          · omega
        · have hb : has_bad.f l = some (l.any badT) := by
            unfold has_bad.f
            rw [if_pos (List.all_eq_true.2 fun s hs => decide_eq_true (hl s hs))]
          rw [hb]
          by_cases h7 : l.any badT = true
          · refine ⟨2, ev_three hnt h2 hsz (ev_neg h3 (ev_neg h4 (ev_pos (str_nil.2 h5) (ev_neg h6 (Ev.bind (Ev.now _) (ev_pos h7 (Ev.now _))))))), .inr ⟨rfl, ?_⟩⟩
            rintro (⟨h, _⟩ | ⟨_, _, _, h⟩)
            · exact h0 h
            · obtain ⟨s, hs, e⟩ := List.any_eq_true.1 h7
              rw [h s hs] at e
              cases e
          · refine ⟨0, ev_three hnt h2 hsz (ev_neg h3 (ev_neg h4 (ev_pos (str_nil.2 h5) (ev_neg h6 (Ev.bind (Ev.now _) (ev_neg h7 (Ev.now _))))))), .inl ⟨rfl, .inr ⟨hnm, h5, by omega, fun s hs => ?_⟩⟩⟩
            cases e : badT s with
            | false => rfl
            | true => exact absurd (List.any_eq_true.2 ⟨s, hs, e⟩) h7
      · refine ⟨2, ev_three hnt h2 hsz (ev_neg h3 (ev_neg h4 (ev_neg (fun e => h5 (str_nil.1 e)) (Ev.now _)))), .inr ⟨rfl, ?_⟩⟩
        rintro (⟨h, _⟩ | ⟨_, h, _⟩)
        · exact h0 h
        · exact h5 h
end Go.Proofs.YtmfkokjbjmahkaaDoor.Pure

/- How much there is of some rows; whether each may be written. -/
namespace Go.Proofs.YtmfkokjbjmahkaaDoor.Pure
open Go Go.RowKit Go.Proofs.YtmfkokjbjmahkaaDoorW.PrintWords Go.Proofs.YtmfkokjbjmahkaaDoorW.PrintLast Go.Proofs.YtmfkokjbjmahkaaDoorW.PrintMore Go.Proofs.YtmfkokjbjmahkaaDoor.X Go.Proofs.YtmfkokjbjmahkaaDoor.Hand
set_option linter.unusedSimpArgs false
set_option linter.unusedVariables false
theorem rdRow (l : List Rw) (i : Nat) (h : i < l.length) : rd_T35 l (i : Int) = l[i] := by
  simp [rd_T35, List.getD_eq_getElem?_getD, List.getElem?_eq_getElem h]
def argsLong (l : List ByteArray) : Nat := (l.map fun s => 3 + s.size).sum
def rowLong (x : Rw) : Nat := 2 + x.f1.size + x.f3.size + argsLong x.f2
def longL (l : List Rw) : Nat := (l.map rowLong).sum
theorem argsLong_take (l : List ByteArray) (i : Nat) : argsLong (l.take i) ≤ argsLong l := by
  have h : argsLong l = argsLong (l.take i) + argsLong (l.drop i) := by
    unfold argsLong
    rw [← List.sum_append, ← List.map_append, List.take_append_drop]
  omega
theorem argsLong_snoc (l : List ByteArray) (s : ByteArray) : argsLong (l ++ [s]) = argsLong l + (3 + s.size) := by simp [argsLong]
theorem longL_take (l : List Rw) (i : Nat) : longL (l.take i) ≤ longL l := by
  have h : longL l = longL (l.take i) + longL (l.drop i) := by
    unfold longL
    rw [← List.sum_append, ← List.map_append, List.take_append_drop]
  omega
theorem longL_snoc (l : List Rw) (x : Rw) : longL (l ++ [x]) = longL l + rowLong x := by simp [longL]
theorem longL_cons (x : Rw) (l : List Rw) : longL (x :: l) = rowLong x + longL l := by simp [longL]
theorem longL_mem : ∀ {l : List Rw} {x : Rw}, x ∈ l → rowLong x ≤ longL l
  | y :: l, x, h => by
    rw [longL_cons]
    rcases List.mem_cons.1 h with rfl | h
    · omega
    · have := longL_mem h
      omega
theorem argsLong_mem : ∀ {l : List ByteArray} {s : ByteArray}, s ∈ l → 3 + s.size ≤ argsLong l
  | y :: l, s, h => by
    simp only [argsLong, List.map_cons, List.sum_cons]
    rcases List.mem_cons.1 h with rfl | h
    · omega
    · have := argsLong_mem h
      unfold argsLong at this
      omega
theorem argsLong_len : ∀ l : List ByteArray, 3 * l.length ≤ argsLong l
  | [] => by simp [argsLong]
  | s :: l => by
    have := argsLong_len l
    simp only [argsLong, List.map_cons, List.sum_cons, List.length_cons] at this ⊢
    omega
theorem longL_len : ∀ l : List Rw, 2 * l.length ≤ longL l
  | [] => by simp [longL]
  | x :: l => by
    have := longL_len l
    rw [longL_cons, List.length_cons]
    unfold rowLong
    omega
theorem long_ev {l : List Rw} (hl : longL l ≤ 1000000000) : Ev (fun k => flongref05_Long.f k l) (longL l : Int) := by
  have hlen := longL_len l
  unfold flongref05_Long.f
  refine loop_up (σ := Nat) (fun k s i => flongref05_Long.l0 k l (s : Int) i) l.length (fun _ _ => (longL l : Int)) (fun s i => s = longL (l.take i)) ?_ ?_ 0 0 (by omega) (by simp [longL])
  · intro s hs
    rw [List.take_length] at hs
    subst hs
    refine Ev.step (f := fun _ => some ((longL l : Nat) : Int)) (fun k => ?_) (Ev.now _)
    simp only [flongref05_Long.l0]
    rw [if_neg (by omega)]
  · intro s i hi hs ih
    have hti := longL_take l (i + 1)
    rw [List.take_succ_eq_append_getElem hi, longL_snoc, ← hs] at hti
    have hx : rowLong l[i] = 2 + l[i].f1.size + l[i].f3.size + argsLong l[i].f2 := rfl
    have hal := argsLong_len l[i].f2
    refine Ev.step (f := fun k => flongref05_Long.l1 k l ((s + 2 + l[i].f1.size + l[i].f3.size : Nat) : Int) (i : Int) 0) (fun k => ?_) ?_
    · simp only [flongref05_Long.l0, rdRow l i hi]
      rw [if_pos (by omega), if_pos (by omega), wrap_of (x := (s : Int) + 2) (by omega) (by omega), wrap_of (x := (s : Int) + 2 + (l[i].f1.size : Int)) (by omega) (by omega), wrap_of (x := (s : Int) + 2 + (l[i].f1.size : Int) + (l[i].f3.size : Int)) (by omega) (by omega)]
      congr 1
    · refine loop_up (σ := Nat) (fun k u j => flongref05_Long.l1 k l (u : Int) (i : Int) j) l[i].f2.length (fun _ _ => (longL l : Int)) (fun u j => u = s + 2 + l[i].f1.size + l[i].f3.size + argsLong (l[i].f2.take j)) ?_ ?_ (s + 2 + l[i].f1.size + l[i].f3.size) 0 (by omega) (by simp [argsLong])
      · intro u hu
        rw [List.take_length] at hu
        refine Ev.step (f := fun k => flongref05_Long.l0 k l (u : Int) ((i + 1 : Nat) : Int)) (fun k => ?_) (ih u ?_)
        · simp only [flongref05_Long.l1, rdRow l i hi]
          rw [if_pos (by omega), if_pos (by omega), if_neg (by omega), wrap_up hi (by omega)]
        · rw [List.take_succ_eq_append_getElem hi, longL_snoc, ← hs, hx]
          omega
      · intro u j hj hu ih2
        have htj := argsLong_take l[i].f2 (j + 1)
        have hsn := argsLong_snoc (l[i].f2.take j) l[i].f2[j]
        rw [← List.take_succ_eq_append_getElem hj] at hsn
        have hrd : rdOf ByteArray.empty l[i].f2 (j : Int) = l[i].f2[j] := rdOf_at _ j hj
        refine Ev.step (f := fun k => flongref05_Long.l1 k l ((u + 3 + l[i].f2[j].size : Nat) : Int) (i : Int) ((j + 1 : Nat) : Int)) (fun k => ?_) (ih2 _ ?_)
        · simp only [flongref05_Long.l1, rdRow l i hi, hrd]
          rw [if_pos (by omega), if_pos (by omega), if_pos (by omega), if_pos (by omega), wrap_up hj (by omega), wrap_of (x := (u : Int) + 3) (by omega) (by omega), wrap_of (x := (u : Int) + 3 + (l[i].f2[j].size : Int)) (by omega) (by omega)]
          congr 1
        · omega
instance (nm : List Int) : Decidable (NameP nm) := decidable_of_iff (nm ≠ [] ∧ (∀ x ∈ nm, isBl x = false) ∧ (∀ x ∈ nm, x ≠ 10 ∧ x ≠ 13 ∧ x ≠ 92 ∧ x ≠ 34) ∧ nm.head? ≠ some 46 ∧ nm.head? ≠ some 39)
  ⟨fun ⟨h1, h2, h3, h4, h5⟩ => ⟨h1, h2, h3, fun x t e => by
    subst e
    exact ⟨fun e => h4 (by rw [e]; rfl), fun e => h5 (by rw [e]; rfl)⟩⟩,
   fun h => ⟨h.ne, h.bl, h.no, fun e => by
    cases nm with
    | nil => cases e
    | cons x t => exact (h.sg x t rfl).1 (Option.some.inj e), fun e => by
    cases nm with
    | nil => cases e
    | cons x t => exact (h.sg x t rfl).2 (Option.some.inj e)⟩⟩
instance (t : List Int) : Decidable (TextP t) := decidable_of_iff ((∀ x ∈ t, x ≠ 10 ∧ x ≠ 92) ∧ t.getLast? ≠ some 13 ∧ t.head? ≠ some 46 ∧ t.head? ≠ some 39)
  ⟨fun ⟨h1, h2, h3, h4⟩ => ⟨h1, h2, h3, h4⟩, fun h => ⟨h.no, h.cr, h.sg.1, h.sg.2⟩⟩
instance (nm : List Int) (l : List ByteArray) (t : List Int) : Decidable (CheckP nm l t) := inferInstanceAs (Decidable (_ ∨ _))
/-- A row that may be written. -/
def okR (x : Rw) : Bool := decide (CheckP (bytesOf x.f1) x.f2 (bytesOf x.f3))
theorem check_row {x : Rw} (h : rowLong x ≤ 1000000) : Ev (fun k => lines_Check.f k x.f0 x.f1 x.f2 x.f3) (if okR x = true then 0 else 2) := by
  have hx : rowLong x = 2 + x.f1.size + x.f3.size + argsLong x.f2 := rfl
  have h1 : (bytesOf x.f1).length = x.f1.size := by rw [← numsStr_size, str_of]
  have h3 : (bytesOf x.f3).length = x.f3.size := by rw [← numsStr_size, str_of]
  obtain ⟨r, hr, hc⟩ := check_ev (nm := bytesOf x.f1) (t := bytesOf x.f3) (l := x.f2) x.f0 (bytesOf_Bytes _) (bytesOf_Bytes _) (by omega) (by omega) (fun s hs => by have := argsLong_mem hs; omega)
  rw [str_of, str_of] at hr
  refine ev_eq hr ?_
  unfold okR
  rcases hc with ⟨rfl, hc⟩ | ⟨rfl, hc⟩
  · rw [if_pos (decide_eq_true hc)]
  · rw [if_neg (fun e => hc (of_decide_eq_true e))]
end Go.Proofs.YtmfkokjbjmahkaaDoor.Pure

/- Rows' lines, written: the package's; and read again. -/
namespace Go.Proofs.YtmfkokjbjmahkaaDoor.Pure
open Go Go.RowKit Go.Proofs.YtmfkokjbjmahkaaDoorW.PrintWords Go.Proofs.YtmfkokjbjmahkaaDoorW.PrintLast Go.Proofs.YtmfkokjbjmahkaaDoorW.PrintMore Go.Proofs.YtmfkokjbjmahkaaDoor.X Go.Proofs.YtmfkokjbjmahkaaDoor.Hand
set_option linter.unusedSimpArgs false
set_option linter.unusedVariables false
theorem bytesOf_len (s : ByteArray) : (bytesOf s).length = s.size := by rw [← numsStr_size, str_of]
/-- A row's line. -/
def dotB (m : List Int) : List Int := if m = [] then [] else 46 :: m
def lineB (x : Rw) : List Int := dotB (bytesOf x.f1) ++ joinA (x.f2.map bytesOf) ++ bytesOf x.f3
def textV (l : List Rw) : List Int := (l.filter okR).flatMap fun x => lineB x ++ [10]
theorem joinA_len (l : List ByteArray) : (joinA (l.map bytesOf)).length ≤ 2 * argsLong l := by
  induction l with
  | nil => simp [joinA_nil]
  | cons s l ih =>
    have h2 := twoB_length (bytesOf s)
    have h3 := bytesOf_len s
    rw [List.map_cons, joinA_cons]
    simp only [List.length_cons, List.length_append, argsLong, List.map_cons, List.sum_cons] at ih ⊢
    omega
theorem lineB_len (x : Rw) : (lineB x).length + 1 ≤ 2 * rowLong x := by
  have h1 := bytesOf_len x.f1
  have h3 := bytesOf_len x.f3
  have hj := joinA_len x.f2
  have hd : (dotB (bytesOf x.f1)).length ≤ x.f1.size + 1 := by
    unfold dotB
    split
    · simp
    · rw [List.length_cons]
      omega
  unfold lineB rowLong
  simp only [List.length_append]
  omega
theorem textV_cons (x : Rw) (l : List Rw) : textV (x :: l) = (if okR x = true then lineB x ++ [10] else []) ++ textV l := by
  unfold textV
  rw [List.filter_cons]
  split
  · rw [List.flatMap_cons]
  · rfl
theorem textV_len : ∀ l : List Rw, (textV l).length ≤ 2 * longL l
  | [] => by simp [textV]
  | x :: l => by
    have h1 := textV_len l
    have h2 := lineB_len x
    rw [textV_cons, List.length_append, longL_cons]
    split
    · rw [List.length_append, List.length_singleton]
      omega
    · simp
      omega
theorem argsW_eq : ∀ (l : List ByteArray) (s : List Int), s.length + 2 * argsLong l ≤ 1000000 → argsW (strOfNums s) l = some (strOfNums (s ++ joinA (l.map bytesOf)))
  | [], s, _ => by rw [argsW, List.map_nil, joinA_nil, List.append_nil]
  | y :: l, s, h => by
    have hy := bytesOf_len y
    have ha : argsLong (y :: l) = (3 + y.size) + argsLong l := by simp [argsLong]
    have hq := quoted_eq (bytesOf_Bytes y) (by omega)
    rw [str_of] at hq
    have h2 := twoB_length (bytesOf y)
    have hql : (quoB (bytesOf y)).length ≤ 2 * y.size + 2 := by
      rw [quoB_eq]
      simp
      omega
    rw [argsW, hq, Option.bind_some, if_pos (by rw [numsStr_size, numsStr_size]; omega), show (⟨#[32]⟩ : ByteArray) = strOfNums [32] from rfl, ← numsStr_append, ← numsStr_append, argsW_eq l _ (by simp only [List.length_append, List.length_cons, List.length_nil]; omega)]
    congr 2
    rw [List.map_cons, show joinA (bytesOf y :: l.map bytesOf) = (32 :: quoB (bytesOf y)) ++ joinA (l.map bytesOf) from rfl]
    simp
theorem rowW_eq {x : Rw} {s : List Int} (h : s.length + 2 * rowLong x ≤ 1000000) : rowW (strOfNums s) x = some (strOfNums (s ++ (lineB x ++ [10]))) := by
  have h1 := bytesOf_len x.f1
  have h3 := bytesOf_len x.f3
  have hj := joinA_len x.f2
  have hr : rowLong x = 2 + x.f1.size + x.f3.size + argsLong x.f2 := rfl
  have hd : dotW (strOfNums s) x.f1 = strOfNums (s ++ dotB (bytesOf x.f1)) := by
    unfold dotW dotB
    by_cases hm : bytesOf x.f1 = []
    · rw [if_pos hm, if_pos (by rw [← str_of x.f1]; exact str_nil.2 hm), List.append_nil]
    · rw [if_neg hm, if_neg (fun e => hm (by rw [← str_of x.f1] at e; exact str_nil.1 e))]
      conv => lhs; rw [← str_of x.f1]
      rw [show (⟨#[46]⟩ : ByteArray) = strOfNums [46] from rfl, ← numsStr_append, ← numsStr_append]
      rfl
  have hdl : (dotB (bytesOf x.f1)).length ≤ x.f1.size + 1 := by
    unfold dotB
    split
    · simp
    · rw [List.length_cons]
      omega
  unfold rowW
  rw [if_pos (by rw [numsStr_size]; omega), hd, argsW_eq _ _ (by rw [List.length_append]; omega), Option.bind_some, if_pos (by rw [numsStr_size, List.length_append, List.length_append]; omega)]
  congr 1
  conv => lhs; rw [← str_of x.f3]
  rw [show (⟨#[10]⟩ : ByteArray) = strOfNums [10] from rfl, ← numsStr_append, ← numsStr_append]
  unfold lineB
  simp
theorem writes_ev : ∀ (l : List Rw) (s : List Int), s.length + 2 * longL l ≤ 1000000 → Ev (fun k => lines_Write.l k (strOfNums s) l) (strOfNums (s ++ textV l))
  | [], s, _ => by
    rw [show textV [] = [] from rfl, List.append_nil]
    exact Ev.now _
  | x :: l, s, h => by
    rw [longL_cons] at h
    have hl := lineB_len x
    show Ev (fun k => (lines_Check.f k x.f0 x.f1 x.f2 x.f3).bind fun c => if c = 0 then (rowW (strOfNums s) x).bind fun u => lines_Write.l k u l else lines_Write.l k (strOfNums s) l) _
    refine Ev.bind (check_row (x := x) (by omega)) ?_
    rw [textV_cons]
    by_cases ho : okR x = true
    · rw [if_pos ho, if_pos ho]
      refine ev_pos rfl ?_
      rw [rowW_eq (by omega)]
      refine Ev.bind (Ev.now _) ?_
      have hw := writes_ev l (s ++ (lineB x ++ [10])) (by simp only [List.length_append, List.length_singleton]; omega)
      rw [List.append_assoc] at hw
      exact hw
    · rw [if_neg ho, if_neg ho, List.nil_append]
      exact ev_neg (by decide) (writes_ev l s (by omega))
theorem write_ev {l : List Rw} (h : longL l ≤ 100000) : Ev (fun k => lines_Write.f k l) (strOfNums (textV l)) := by
  show Ev (fun k => lines_Write.l k (strOfNums []) l) (strOfNums ([] ++ textV l))
  exact writes_ev l [] (by rw [List.length_nil]; omega)
theorem dotB_bytes {m : List Int} (h : Bytes m) : Bytes (dotB m) := by
  unfold dotB
  split
  · exact bytes_nil
  · intro y hy
    rcases List.mem_cons.1 hy with rfl | hy
    · decide
    · exact h y hy
theorem lineB_bytes (x : Rw) : Bytes (lineB x) := bytes_append (bytes_append (dotB_bytes (bytesOf_Bytes _)) (joinA_bytes (fun y hy => by obtain ⟨s, _, rfl⟩ := List.mem_map.1 hy; exact bytesOf_Bytes s))) (bytesOf_Bytes _)
theorem textV_bytes (l : List Rw) : Bytes (textV l) := by
  intro y hy
  obtain ⟨x, hx, hy⟩ := List.mem_flatMap.1 hy
  rcases List.mem_append.1 hy with hy | hy
  · exact lineB_bytes x y hy
  · simp at hy
    omega
theorem ok_of {x : Rw} (h : okR x = true) : CheckP (bytesOf x.f1) x.f2 (bytesOf x.f3) := of_decide_eq_true h
/-- A row that may be written is read from its line as it was. -/
theorem rowV_back {x : Rw} (h : okR x = true) (frm : Int) : rowV frm (lineB x) = ([⟨frm, x.f1, x.f2, x.f3⟩], []) := by
  have hx : (⟨frm, x.f1, x.f2, x.f3⟩ : Rw) = ⟨frm, strOfNums (bytesOf x.f1), (x.f2.map bytesOf).map strOfNums, strOfNums (bytesOf x.f3)⟩ := by
    rw [str_of, str_of, List.map_map]
    congr 1
    exact ((List.map_congr_left (fun t _ => str_of t)).trans (List.map_id x.f2)).symm
  rw [hx]
  unfold lineB
  rcases ok_of h with ⟨h1, h2, h3⟩ | ⟨h1, h2, h3, h4⟩
  · rw [h1, h2]
    generalize bytesOf x.f3 = t at h3
    have e : (ctlV t).2 = false := by
      cases t with
      | nil => rfl
      | cons c t =>
        rw [ctlV, if_neg]
        rintro (e | e)
        · exact h3.sg.1 (by rw [e]; rfl)
        · exact h3.sg.2 (by rw [e]; rfl)
    have e0 : dotB [] ++ joinA (([] : List ByteArray).map bytesOf) ++ t = t := rfl
    rw [e0]
    unfold rowV
    rw [if_neg (by rw [e]; simp)]
    rfl
  · rw [h2]
    have e0 : dotB (bytesOf x.f1) ++ joinA (x.f2.map bytesOf) ++ [] = 46 :: (List.replicate 0 32 ++ (bytesOf x.f1 ++ joinA (x.f2.map bytesOf))) := by
      unfold dotB
      rw [if_neg h1.ne]
      simp
    rw [e0, rowV_macro h1 (by rw [List.length_map]; exact h3) frm 0 (.inl rfl)]
    rfl
theorem lineB_no {x : Rw} (h : okR x = true) : (∀ y ∈ lineB x, y ≠ 10 ∧ y ≠ 92) ∧ (lineB x).getLast? ≠ some 13 := by
  unfold lineB
  rcases ok_of h with ⟨h1, h2, h3⟩ | ⟨h1, h2, h3, h4⟩
  · rw [h1, h2]
    exact ⟨h3.no, h3.cr⟩
  · have hb : ∀ y ∈ x.f2.map bytesOf, ∀ z ∈ y, z ≠ 10 ∧ z ≠ 13 ∧ z ≠ 92 := by
      intro y hy z hz
      obtain ⟨s, hs, rfl⟩ := List.mem_map.1 hy
      have e := h4 s hs
      rw [← str_of s, badT_str (bytesOf_Bytes s)] at e
      have := List.any_eq_false.1 e z hz
      simp at this
      omega
    have hno := macro_no h1 hb
    have e0 : dotB (bytesOf x.f1) ++ joinA (x.f2.map bytesOf) ++ [] = 46 :: (bytesOf x.f1 ++ joinA (x.f2.map bytesOf)) := by
      unfold dotB
      rw [if_neg h1.ne]
      simp
    have hall : ∀ y ∈ 46 :: (bytesOf x.f1 ++ joinA (x.f2.map bytesOf)), y ≠ 10 ∧ y ≠ 13 ∧ y ≠ 92 := by
      intro y hy
      rcases List.mem_cons.1 hy with rfl | hy
      · decide
      · exact hno y hy
    rw [h2, e0]
    exact ⟨fun y hy => ⟨(hall y hy).1, (hall y hy).2.2⟩, fun e => (hall 13 (List.mem_of_getLast? e)).2.1 rfl⟩
theorem lns_lines : ∀ ls : List (List Int), (∀ s ∈ ls, (10 : Int) ∉ s) → lns (ls.flatMap fun s => s ++ [10]) = ls
  | [], _ => rfl
  | s :: t, h => by
    rw [List.flatMap_cons, show s ++ [10] ++ (t.flatMap fun s => s ++ [10]) = s ++ 10 :: (t.flatMap fun s => s ++ [10]) from by simp, lns_both, splitC_none s [] (h s (by simp)), lns_lines t fun x hx => h x (by simp [hx])]
    rfl
/-- Rows, told line by line. -/
def numV : Int → List Rw → List Rw
  | _, [] => []
  | D, x :: t => ⟨D + 1, x.f1, x.f2, x.f3⟩ :: numV (D + 1) t
theorem numV_len : ∀ (l : List Rw) (D : Int), (numV D l).length = l.length
  | [], D => rfl
  | x :: l, D => by rw [numV, List.length_cons, numV_len l, List.length_cons]
theorem numV_snoc (x : Rw) : ∀ (l : List Rw) (D : Int), numV D (l ++ [x]) = numV D l ++ [⟨D + l.length + 1, x.f1, x.f2, x.f3⟩]
  | [], D => by simp [numV]
  | y :: l, D => by
    rw [List.cons_append, numV, numV_snoc x l (D + 1), numV, List.length_cons, List.cons_append, show D + 1 + (l.length : Int) + 1 = D + ((l.length + 1 : Nat) : Int) + 1 from by omega]
theorem numV_mem : ∀ {l : List Rw} {D : Int} {r : Rw}, r ∈ numV D l → ∃ x ∈ l, r.f2 = x.f2
  | x :: l, D, r, h => by
    rw [numV] at h
    rcases List.mem_cons.1 h with rfl | h
    · exact ⟨x, by simp, rfl⟩
    · obtain ⟨y, hy, e⟩ := numV_mem h
      exact ⟨y, by simp [hy], e⟩
theorem rowsV_back : ∀ (l : List Rw) (D : Int), (∀ x ∈ l, okR x = true) → rowsV D (l.map lineB) = (numV D l, [])
  | [], D, _ => rfl
  | x :: l, D, h => by
    rw [List.map_cons, rowsV, cutV_other (lineB_no (h x (by simp))).2, rowV_back (h x (by simp)), rowsV_back l (D + 1) fun y hy => h y (by simp [hy])]
    rfl
theorem readV_back (l : List Rw) : readV (textV l) = (numV 0 (l.filter okR), []) := by
  have hok : ∀ x ∈ l.filter okR, okR x = true := fun x hx => (List.mem_filter.1 hx).2
  have e : textV l = ((l.filter okR).map lineB).flatMap fun s => s ++ [10] := by
    unfold textV
    rw [List.flatMap_map]
  have h92 : (92 : Int) ∉ textV l := by
    intro hm
    obtain ⟨x, hx, hy⟩ := List.mem_flatMap.1 hm
    rcases List.mem_append.1 hy with hy | hy
    · exact ((lineB_no (hok x hx)).1 92 hy).2 rfl
    · simp at hy
  rw [readV_rows h92, e, lns_lines _ (fun s hs hm => by
    obtain ⟨x, hx, rfl⟩ := List.mem_map.1 hs
    exact ((lineB_no (hok x hx)).1 10 hm).1 rfl), rowsV_back _ 0 hok]
end Go.Proofs.YtmfkokjbjmahkaaDoor.Pure

/- That rows are the same: of the same rows it is told. -/
namespace Go.Proofs.YtmfkokjbjmahkaaDoor.Pure
open Go Go.RowKit Go.Proofs.YtmfkokjbjmahkaaDoorW.PrintWords Go.Proofs.YtmfkokjbjmahkaaDoorW.PrintLast Go.Proofs.YtmfkokjbjmahkaaDoorW.PrintMore Go.Proofs.YtmfkokjbjmahkaaDoor.X Go.Proofs.YtmfkokjbjmahkaaDoor.Hand
set_option linter.unusedSimpArgs false
set_option linter.unusedVariables false
theorem rdRw (l : List S35) (i : Nat) (h : i < l.length) : rd_T35 l (i : Int) = l[i] := by
  simp [rd_T35, List.getD_eq_getElem?_getD, List.getElem?_eq_getElem h]
theorem same_rows {l : List S35} (h : l.length ≤ 8796093022208) (ha : ∀ r ∈ l, r.f2.length ≤ 8796093022208) : Ev (fun k => flongref05_Same.f k l l) true := by
  unfold flongref05_Same.f
  refine ev_pos rfl (loop_up (σ := Unit) (fun k _ i => flongref05_Same.l0 k l l i) l.length (fun _ _ => true) (fun _ _ => True) ?_ ?_ () 0 (by omega) trivial)
  · intro _ _
    refine Ev.step (f := fun _ => some true) (fun k => ?_) (Ev.now _)
    simp only [flongref05_Same.l0]
    rw [if_neg (by omega)]
  · intro _ i hi _ ih
    have hr := rdRw l i hi
    refine Ev.step (f := fun k => (flongref05_SameTexts.f k l[i].f2 l[i].f2).bind fun t => if t = true then flongref05_Same.l0 k l l ((i + 1 : Nat) : Int) else some false) (fun k => ?_) (Ev.bind (same_texts (ha _ (List.getElem_mem hi))) (ev_pos rfl (ih () trivial)))
    simp only [flongref05_Same.l0, hr]
    rw [if_pos (by omega), if_pos (by omega), if_pos (by omega), if_pos trivial, if_pos trivial, if_pos trivial, wrap_up hi (by omega)]
end Go.Proofs.YtmfkokjbjmahkaaDoor.Pure

/- What the chapter's examples fix: computed. -/
namespace Go.Proofs.YtmfkokjbjmahkaaDoor.Pure
open Go.RowKit Go.Proofs.YtmfkokjbjmahkaaDoorW.PrintWords Go.Proofs.YtmfkokjbjmahkaaDoorW.PrintLast Go.Proofs.YtmfkokjbjmahkaaDoor.X
theorem known_ev : Ev (fun k => flonglaw05_known.f k) true := Ev.of (k := 30) flonglaw05_known.mono (by kernel_rfl)
end Go.Proofs.YtmfkokjbjmahkaaDoor.Pure
