/- SpecQ: several of this session's texts in one. -/
import Derived.Test.YtmfkokjbjmahkaaDoorWMore
import Derived.Lib.IndexBytes
import Derived.Test.YtmfkokjbjmahkaaDoorX2
import Derived.Test.YtmfkokjbjmahkaaDoorX4
/- Plain lemmas on printed functions: what holds from some number of rounds on. -/
namespace Go.Proofs.YtmfkokjbjmahkaaDoor.Pure
open Go.RowKit Go.Proofs.YtmfkokjbjmahkaaDoorW.PrintWords Go.Proofs.YtmfkokjbjmahkaaDoorW.PrintLast

theorem ev_pos {α : Type} {c : Prop} [Decidable c] {f g : Nat → Option α} {r : α} (h : c) (k : Ev f r) : Ev (fun n => if c then f n else g n) r := by
  obtain ⟨K, k⟩ := k
  exact ⟨K, fun n hn => by simp only [if_pos h]; exact k n hn⟩
theorem ev_neg {α : Type} {c : Prop} [Decidable c] {f g : Nat → Option α} {r : α} (h : ¬ c) (k : Ev g r) : Ev (fun n => if c then f n else g n) r := by
  obtain ⟨K, k⟩ := k
  exact ⟨K, fun n hn => by simp only [if_neg h]; exact k n hn⟩
theorem ev_ite {α : Type} {c : Prop} [Decidable c] {f g : Nat → Option α} {r : α} (h : c → Ev f r) (k : ¬ c → Ev g r) : Ev (fun n => if c then f n else g n) r := by
  by_cases hc : c
  · exact ev_pos hc (h hc)
  · exact ev_neg hc (k hc)
theorem ev_eq {α : Type} {g : Nat → Option α} {r r' : α} (h : Ev g r) (e : r = r') : Ev g r' := e ▸ h
/-- What answers at once. -/
theorem ev_bind1 {α β : Type} {g : Option α} {f : Nat → α → Option β} {a : α} {r : β} (h : g = some a) (k : Ev (fun n => f n a) r) : Ev (fun n => g.bind (f n)) r := by
  subst h
  exact k
theorem ev_one {α : Type} {g : Option α} {r : α} (h : g = some r) : Ev (fun _ => g) r := ⟨0, fun _ _ => h⟩
theorem ev_unique {α : Type} {g : Nat → Option α} {r r' : α} (h : Ev g r) (h' : Ev g r') : r = r' := by
  obtain ⟨K, h⟩ := h
  obtain ⟨K', h'⟩ := h'
  have h1 := h (max K K') (Nat.le_max_left _ _)
  have h2 := h' (max K K') (Nat.le_max_right _ _)
  exact Option.some.inj (h1.symm.trans h2)
theorem wrap_of {x : Int} (h0 : -9223372036854775808 ≤ x) (h1 : x ≤ 9223372036854775807) : wrap64 x = x := by
  unfold wrap64
  omega
theorem wrap32_of {x : Int} (h0 : -2147483648 ≤ x) (h1 : x ≤ 2147483647) : wrap32 x = x := by
  unfold wrap32
  omega
theorem wf_i32 {x : Int} (h : (Lit.int .i32 x).wf = true) : -2147483648 ≤ x ∧ x ≤ 2147483647 := by
  have h' : (decide (IntKind.min .i32 ≤ x) && decide (x ≤ IntKind.max .i32)) = true := h
  rw [Bool.and_eq_true, decide_eq_true_eq, decide_eq_true_eq, show IntKind.min .i32 = -2147483648 from rfl, show IntKind.max .i32 = 2147483647 from rfl] at h'
  exact h'
theorem wf_u8 {x : Int} (h : (Lit.int .u8 x).wf = true) : 0 ≤ x ∧ x ≤ 255 := by
  have h' : (decide (IntKind.min .u8 ≤ x) && decide (x ≤ IntKind.max .u8)) = true := h
  rw [Bool.and_eq_true, decide_eq_true_eq, decide_eq_true_eq, show IntKind.min .u8 = 0 from rfl, show IntKind.max .u8 = 255 from rfl] at h'
  exact h'
theorem wf_u16 {x : Int} (h : (Lit.int .u16 x).wf = true) : 0 ≤ x ∧ x ≤ 65535 := by
  have h' : (decide (IntKind.min .u16 ≤ x) && decide (x ≤ IntKind.max .u16)) = true := h
  rw [Bool.and_eq_true, decide_eq_true_eq, decide_eq_true_eq, show IntKind.min .u16 = 0 from rfl, show IntKind.max .u16 = 65535 from rfl] at h'
  exact h'
theorem wf_i64 {x : Int} (h : (Lit.int .i64 x).wf = true) : -9223372036854775808 ≤ x ∧ x ≤ 9223372036854775807 := by
  have h' : (decide (IntKind.min .i64 ≤ x) && decide (x ≤ IntKind.max .i64)) = true := h
  rw [Bool.and_eq_true, decide_eq_true_eq, decide_eq_true_eq, show IntKind.min .i64 = -9223372036854775808 from rfl, show IntKind.max .i64 = 9223372036854775807 from rfl] at h'
  exact h'
end Go.Proofs.YtmfkokjbjmahkaaDoor.Pure

/- A loop that goes up to a length, whatever its state. -/
namespace Go.Proofs.YtmfkokjbjmahkaaDoor.Pure
open Go.RowKit Go.Proofs.YtmfkokjbjmahkaaDoorW.PrintWords Go.Proofs.YtmfkokjbjmahkaaDoorW.PrintLast

theorem loop_up {σ β : Type} (L : Nat → σ → Int → Option β) (n : Nat) (res : σ → Nat → β) (I : σ → Nat → Prop)
    (hend : ∀ s, I s n → Ev (fun k => L k s (n : Int)) (res s n))
    (hstep : ∀ s i, i < n → I s i → (∀ s', I s' (i + 1) → Ev (fun k => L k s' ((i + 1 : Nat) : Int)) (res s' (i + 1))) → Ev (fun k => L k s (i : Int)) (res s i)) :
    ∀ s i, i ≤ n → I s i → Ev (fun k => L k s (i : Int)) (res s i) := by
  have h : ∀ d i, n - i = d → i ≤ n → ∀ s, I s i → Ev (fun k => L k s (i : Int)) (res s i) := by
    intro d
    induction d with
    | zero =>
      intro i hd hi s hs
      obtain rfl : i = n := by omega
      exact hend s hs
    | succ d ih =>
      intro i hd hi s hs
      exact hstep s i (by omega) hs (fun s' hs' => ih (i + 1) (by omega) (by omega) s' hs')
  exact fun s i hi hs => h (n - i) i rfl hi s hs
theorem wrap_up {i n : Nat} (h : i < n) (hn : n ≤ 9223372036854775807) : wrap64 ((i : Int) + 1) = ((i + 1 : Nat) : Int) := by
  rw [wrap_of (by omega) (by omega)]
  omega
end Go.Proofs.YtmfkokjbjmahkaaDoor.Pure

/- Texts as lists of bytes. -/
namespace Go.Proofs.YtmfkokjbjmahkaaDoor.Pure
open Go Go.RowKit Go.Proofs.YtmfkokjbjmahkaaDoorW.PrintWords Go.Proofs.YtmfkokjbjmahkaaDoorW.PrintLast Go.Proofs.YtmfkokjbjmahkaaDoorW.PrintMore
set_option linter.unusedSimpArgs false
set_option linter.unusedVariables false
def Bytes (l : List Int) : Prop := ∀ x ∈ l, 0 ≤ x ∧ x ≤ 255
theorem bytes_append {a b : List Int} (ha : Bytes a) (hb : Bytes b) : Bytes (a ++ b) := fun x hx => (List.mem_append.1 hx).elim (ha x) (hb x)
theorem bytes_drop {b : List Int} (h : Bytes b) (n : Nat) : Bytes (b.drop n) := fun x hx => h x (List.mem_of_mem_drop hx)
theorem bytes_take {b : List Int} (h : Bytes b) (n : Nat) : Bytes (b.take n) := fun x hx => h x (List.mem_of_mem_take hx)
theorem bytes_nil : Bytes [] := fun x hx => by simp at hx
theorem bytes_cons {x : Int} {b : List Int} (h : Bytes (x :: b)) : (0 ≤ x ∧ x ≤ 255) ∧ Bytes b := ⟨h x (by simp), fun y hy => h y (by simp [hy])⟩
theorem numsStr_append (a b : List Int) : strOfNums (a ++ b) = strOfNums a ++ strOfNums b := by
  apply ByteArray.ext
  apply Array.ext'
  rw [ByteArray.data_append, Array.toList_append, strOfNums_data, strOfNums_data, strOfNums_data, List.map_append]
theorem numsStr_size (a : List Int) : (strOfNums a).size = a.length := strOfNums_size a
theorem numsStr_back {b : List Int} (hb : Bytes b) : bytesOf (strOfNums b) = b := by
  unfold bytesOf
  rw [strOfNums_data, List.map_map]
  conv => rhs; rw [← List.map_id b]
  apply List.map_congr_left
  intro x hx
  have := hb x hx
  simp
  omega
theorem str_of (t : ByteArray) : strOfNums (bytesOf t) = t := by
  apply ByteArray.ext
  apply Array.ext'
  rw [strOfNums_data]
  unfold bytesOf
  rw [List.map_map]
  conv => rhs; rw [← List.map_id t.data.toList]
  apply List.map_congr_left
  intro x _
  simp
theorem bytesOf_Bytes (t : ByteArray) : Bytes (bytesOf t) := by
  intro x hx
  unfold bytesOf at hx
  obtain ⟨y, _, rfl⟩ := List.mem_map.1 hx
  have := y.toNat_lt
  omega
theorem str_inj {a b : List Int} (ha : Bytes a) (hb : Bytes b) (h : strOfNums a = strOfNums b) : a = b := by rw [← numsStr_back ha, h, numsStr_back hb]
theorem str_extract (c : List Int) (i j : Nat) : (strOfNums c).extract i j = strOfNums ((c.take j).drop i) := by
  apply ByteArray.ext
  apply Array.ext'
  rw [ByteArray.data_extract, Array.toList_extract, List.extract_eq_take_drop, strOfNums_data, strOfNums_data, List.map_drop, List.map_take, List.drop_take]
theorem str_drop (c : List Int) (i : Nat) : (strOfNums c).extract i (strOfNums c).size = strOfNums (c.drop i) := by
  rw [str_extract, numsStr_size, List.take_length]
theorem str_take (c : List Int) (j : Nat) : (strOfNums c).extract 0 j = strOfNums (c.take j) := by rw [str_extract, List.drop_zero]
theorem str_toList (b : List Int) : (strOfNums b).toList = b.map fun n => UInt8.ofNat n.toNat := by
  rw [ByteArray.toList_eq, strOfNums_data]
theorem str_nil {b : List Int} : (strOfNums b).toList = [] ↔ b = [] := by
  rw [str_toList, List.map_eq_nil_iff]
theorem toList_inj {s t : ByteArray} (h : s.toList = t.toList) : s = t := by
  rw [ByteArray.toList_eq, ByteArray.toList_eq] at h
  exact ByteArray.ext (Array.ext' h)
theorem bt_str {b : List Int} (hb : Bytes b) (i : Nat) (h : i < b.length) : bt (strOfNums b) (i : Int) = b[i] := by
  unfold bt
  have hs : (i : Int).toNat < (strOfNums b).size := by rw [numsStr_size]; omega
  rw [dif_pos hs]
  have h1 := Lib.data_getElem? (strOfNums b) i (by rw [numsStr_size]; omega)
  rw [strOfNums_data, List.getElem?_map, List.getElem?_eq_getElem h] at h1
  have h2 := Option.some.inj h1
  have hx := hb b[i] (List.getElem_mem h)
  simp only [Int.toNat_natCast]
  rw [← h2]
  simp
  omega
theorem bt_head {x : Int} {b : List Int} (hb : Bytes (x :: b)) : bt (strOfNums (x :: b)) 0 = x := bt_str hb 0 (by simp)
end Go.Proofs.YtmfkokjbjmahkaaDoor.Pure

/- Backslashes ahead of a place, words, texts in quotation marks, arguments: what they are. -/
namespace Go.Proofs.YtmfkokjbjmahkaaDoor.Pure
open Go Go.RowKit Go.Proofs.YtmfkokjbjmahkaaDoorW.PrintWords
set_option linter.unusedSimpArgs false
set_option linter.unusedVariables false
/-- How many backslashes stand at the end. -/
def tailV (b : List Int) : Nat := (b.reverse.takeWhile (· == 92)).length
/-- Is it an odd number? -/
def oddP (b : List Int) : Bool := tailV b % 2 == 1
theorem tailV_nil : tailV [] = 0 := rfl
theorem tailV_snoc (b : List Int) (x : Int) : tailV (b ++ [x]) = if x = 92 then tailV b + 1 else 0 := by
  unfold tailV
  rw [List.reverse_append, List.reverse_singleton, List.singleton_append, List.takeWhile_cons]
  by_cases h : x = 92
  · rw [if_pos h, if_pos (by simp [h])]
    simp
  · rw [if_neg h, if_neg (by simp [h])]
    rfl
theorem tailV_le (b : List Int) : tailV b ≤ b.length := by
  unfold tailV
  have := (List.takeWhile_sublist (l := b.reverse) (· == 92)).length_le
  rw [List.length_reverse] at this
  exact this
theorem oddP_nil : oddP [] = false := rfl
theorem oddP_snoc (b : List Int) (x : Int) : oddP (b ++ [x]) = if x = 92 then !oddP b else false := by
  unfold oddP
  rw [tailV_snoc]
  by_cases h : x = 92
  · rw [if_pos h, if_pos h]
    have h1 : (tailV b + 1) % 2 = 1 - tailV b % 2 := by omega
    rw [h1]
    rcases Nat.mod_two_eq_zero_or_one (tailV b) with e | e <;> rw [e] <;> rfl
  · rw [if_neg h, if_neg h]
    rfl
theorem oddP_take {b : List Int} {i : Nat} (h : i < b.length) : oddP (b.take (i + 1)) = if b[i] = 92 then !oddP (b.take i) else false := by
  rw [List.take_succ_eq_append_getElem h, oddP_snoc]
def isBl (x : Int) : Bool := x == 32 || x == 9
/-- How long a word is: up to a blank that no odd number of backslashes stands ahead of. -/
def wordN : Bool → List Int → Nat
  | _, [] => 0
  | o, x :: t => if isBl x = true ∧ o = false then 0 else wordN (if x = 92 then !o else false) t + 1
theorem wordN_le : ∀ (b : List Int) (o : Bool), wordN o b ≤ b.length
  | [], o => by simp [wordN]
  | x :: t, o => by
    unfold wordN
    split
    · simp
    · have := wordN_le t (if x = 92 then !o else false)
      simp only [List.length_cons]
      omega
/-- What stands in quotation marks, how much that takes, whether it ends. -/
def quoN : List Int → List Int × Nat × Bool
  | [] => ([], 0, false)
  | [x] => if x = 34 then ([], 1, true) else ([x], 1, false)
  | x :: y :: t => if x = 34 then (if y = 34 then (34 :: (quoN t).1, (quoN t).2.1 + 2, (quoN t).2.2) else ([], 1, true)) else (x :: (quoN (y :: t)).1, (quoN (y :: t)).2.1 + 1, (quoN (y :: t)).2.2)
theorem quoN_other {x : Int} (h : x ≠ 34) (t : List Int) : quoN (x :: t) = (x :: (quoN t).1, (quoN t).2.1 + 1, (quoN t).2.2) := by
  cases t with
  | nil => simp [quoN, h]
  | cons y t => rw [quoN, if_neg h]
theorem quoN_two (t : List Int) : quoN (34 :: 34 :: t) = (34 :: (quoN t).1, (quoN t).2.1 + 2, (quoN t).2.2) := by rw [quoN, if_pos rfl, if_pos rfl]
theorem quoN_end {y : Int} (h : y ≠ 34) (t : List Int) : quoN (34 :: y :: t) = ([], 1, true) := by rw [quoN, if_pos rfl, if_neg h]
theorem quoN_one : quoN [34] = ([], 1, true) := rfl
theorem quoN_le : ∀ (n : Nat) (b : List Int), b.length ≤ n → (quoN b).2.1 ≤ b.length ∧ (quoN b).1.length ≤ b.length ∧ ((quoN b).2.2 = false → (quoN b).2.1 = b.length) ∧ ∀ x ∈ (quoN b).1, x ∈ b
  | _, [], _ => by simp [quoN]
  | 0, x :: t, h => by simp at h
  | n + 1, x :: t, h => by
    by_cases hx : x = 34
    · subst hx
      cases t with
      | nil => simp [quoN]
      | cons y t =>
        by_cases hy : y = 34
        · subst hy
          obtain ⟨h1, h2, h3, h4⟩ := quoN_le n t (by simp at h; omega)
          rw [quoN_two]
          refine ⟨by simp; omega, by simp; omega, fun e => by have := h3 e; simp; omega, fun z hz => ?_⟩
          rcases List.mem_cons.1 hz with rfl | hz
          · simp
          · simp [h4 z hz]
        · rw [quoN_end hy]
          simp
    · obtain ⟨h1, h2, h3, h4⟩ := quoN_le n t (by simp at h; omega)
      rw [quoN_other hx]
      refine ⟨by simp; omega, by simp; omega, fun e => by have := h3 e; simp; omega, fun z hz => ?_⟩
      rcases List.mem_cons.1 hz with rfl | hz
      · simp
      · simp [h4 z hz]
/-- Arguments, and whether the last one ends. -/
def argsN : Nat → List Int → Bool → List (List Int) × Bool
  | _, [], ok => ([], ok)
  | 0, _ :: _, ok => ([], ok)
  | n + 1, x :: t, ok => if isBl x = true then argsN n t ok else if x = 34 then ((quoN t).1 :: (argsN n (t.drop (quoN t).2.1) (quoN t).2.2).1, (argsN n (t.drop (quoN t).2.1) (quoN t).2.2).2)
    else ((x :: t).take (wordN false (x :: t)) :: (argsN n ((x :: t).drop (wordN false (x :: t))) true).1, (argsN n ((x :: t).drop (wordN false (x :: t))) true).2)
def argsV (b : List Int) : List (List Int) × Bool := argsN b.length b true
theorem wordN_pos {x : Int} (h : isBl x = false) (t : List Int) : wordN false (x :: t) = wordN (if x = 92 then true else false) t + 1 := by
  rw [wordN, if_neg (by simp [h])]
  rfl
theorem argsN_eq : ∀ (n m : Nat) (b : List Int) (ok : Bool), b.length ≤ n → b.length ≤ m → argsN n b ok = argsN m b ok
  | 0, m, [], ok, _, _ => by cases m <;> rfl
  | 0, m, x :: t, ok, h, _ => by simp at h
  | n + 1, m, [], ok, _, _ => by cases m <;> rfl
  | n + 1, 0, x :: t, ok, _, h => by simp at h
  | n + 1, m + 1, x :: t, ok, h1, h2 => by
    simp only [List.length_cons] at h1 h2
    rw [argsN, argsN, argsN_eq n m t ok (by omega) (by omega)]
    have hq := quoN_le t.length t (Nat.le_refl _)
    rw [argsN_eq n m (t.drop (quoN t).2.1) (quoN t).2.2 (by rw [List.length_drop]; omega) (by rw [List.length_drop]; omega)]
    split
    · rfl
    · rename_i hb
      split
      · rfl
      · have hw := wordN_pos (by simpa using hb) t
        rw [argsN_eq n m _ true (by rw [List.length_drop, List.length_cons, hw]; omega) (by rw [List.length_drop, List.length_cons, hw]; omega)]
/-- A text in quotation marks. -/
def quoB (b : List Int) : List Int := 34 :: (b.flatMap fun x => if x = 34 then [34, 34] else [x]) ++ [34]
theorem argsN_length : ∀ (n : Nat) (b : List Int) (ok : Bool), (argsN n b ok).1.length ≤ n ∧ ∀ y ∈ (argsN n b ok).1, y.length ≤ b.length ∧ ∀ x ∈ y, x ∈ b
  | _, [], ok => by simp [argsN]
  | 0, x :: t, ok => by simp [argsN]
  | n + 1, x :: t, ok => by
    rw [argsN]
    split
    · obtain ⟨h1, h2⟩ := argsN_length n t ok
      exact ⟨by omega, fun y hy => ⟨by have := (h2 y hy).1; simp; omega, fun z hz => by simp [(h2 y hy).2 z hz]⟩⟩
    · split
      · obtain ⟨h1, h2⟩ := argsN_length n (t.drop (quoN t).2.1) (quoN t).2.2
        have hq := quoN_le t.length t (Nat.le_refl _)
        refine ⟨by simp; omega, fun y hy => ?_⟩
        rcases List.mem_cons.1 hy with rfl | hy
        · exact ⟨by simp; omega, fun z hz => by simp [hq.2.2.2 z hz]⟩
        · have := h2 y hy
          rw [List.length_drop] at this
          exact ⟨by simp; omega, fun z hz => by simp [List.mem_of_mem_drop (this.2 z hz)]⟩
      · obtain ⟨h1, h2⟩ := argsN_length n ((x :: t).drop (wordN false (x :: t))) true
        refine ⟨by simp; omega, fun y hy => ?_⟩
        rcases List.mem_cons.1 hy with rfl | hy
        · exact ⟨by rw [List.length_take]; omega, fun z hz => List.mem_of_mem_take hz⟩
        · have := h2 y hy
          rw [List.length_drop] at this
          exact ⟨by omega, fun z hz => List.mem_of_mem_drop (this.2 z hz)⟩
end Go.Proofs.YtmfkokjbjmahkaaDoor.Pure

/- Arguments: package lines'. -/
namespace Go.Proofs.YtmfkokjbjmahkaaDoor.Pure
open Go Go.RowKit Go.Proofs.YtmfkokjbjmahkaaDoorW.PrintWords Go.Proofs.YtmfkokjbjmahkaaDoorW.PrintLast Go.Proofs.YtmfkokjbjmahkaaDoorW.PrintMore Go.Proofs.YtmfkokjbjmahkaaDoor.X Go.Proofs.YtmfkokjbjmahkaaDoor.Hand
set_option linter.unusedSimpArgs false
set_option linter.unusedVariables false
theorem u8_eq {x : Int} (h : 0 ≤ x ∧ x ≤ 255) (c : Nat) (hc : c ≤ 255) : (UInt8.ofNat x.toNat == UInt8.ofNat c) = (x == (c : Int)) := by
  by_cases e : x = c
  · subst e
    simp
  · have h1 : (x == (c : Int)) = false := beq_false_of_ne e
    rw [h1]
    apply beq_false_of_ne
    intro e2
    have h2 := congrArg UInt8.toNat e2
    simp at h2
    omega
theorem drop_tail : ∀ l : List Int, Bytes l → ((l.map fun n => UInt8.ofNat n.toNat).dropWhile (· == 92)).length + (l.takeWhile (· == 92)).length = l.length
  | [], _ => rfl
  | x :: t, h => by
    obtain ⟨hx, ht⟩ := bytes_cons h
    have hu := u8_eq hx 92 (by omega)
    have ih := drop_tail t ht
    rw [List.map_cons, List.dropWhile_cons, List.takeWhile_cons]
    by_cases e : x = 92
    · subst e
      rw [if_pos (by decide), if_pos (by decide), List.length_cons, List.length_cons]
      omega
    · have h1 : (x == 92) = false := beq_false_of_ne e
      rw [if_neg (by rw [show (UInt8.ofNat x.toNat == 92) = (x == 92) from hu, h1]; decide), if_neg (by rw [h1]; decide)]
      simp
theorem tail_eq {b : List Int} (hb : Bytes b) (h : b.length ≤ 70368744177664) : lines_tail.f (strOfNums b) = some (tailV b : Int) := by
  have hr : Bytes b.reverse := fun x hx => hb x (List.mem_reverse.1 hx)
  have hd := drop_tail b.reverse hr
  rw [List.length_reverse] at hd
  unfold lines_tail.f strings_TrimRight.f
  rw [if_pos ⟨rfl, by rw [numsStr_size]; omega⟩, Option.bind_some]
  have hs : (⟨(Lib.trimRightB (strOfNums b).data.toList 92).toArray⟩ : ByteArray).size = ((b.reverse.map fun n => UInt8.ofNat n.toNat).dropWhile (· == 92)).length := by
    unfold Lib.trimRightB
    rw [strOfNums_data, ← List.map_reverse]
    simp [ByteArray.size]
  rw [hs, numsStr_size, wrap_of (by omega) (by omega)]
  unfold tailV
  congr 1
  omega
theorem tail_odd (n : Nat) : (Int.tmod (n : Int) 2 = 1) ↔ (n % 2 == 1) = true := by
  rw [Int.tmod_eq_emod_of_nonneg (by omega)]
  simp
  omega
theorem blank_eq (x : Int) : lines_blank.f x = some (isBl x) := by
  unfold lines_blank.f isBl
  by_cases h : x = 32
  · rw [if_pos h]
    simp [h]
  · rw [if_neg h]
    simp [h]
/-- A word that begins with no quotation mark. -/
theorem word_ev {b : List Int} (hb : Bytes b) (h : b.length ≤ 70368744177664) : Ev (fun k => lines_word.l0 k (strOfNums b) 0) (strOfNums (b.take (wordN false b)), (wordN false b : Int), true) := by
  refine ev_eq (loop_up (σ := Unit) (fun k _ i => lines_word.l0 k (strOfNums b) i) b.length (fun _ i => (strOfNums (b.take (i + wordN (oddP (b.take i)) (b.drop i))), ((i + wordN (oddP (b.take i)) (b.drop i) : Nat) : Int), true)) (fun _ _ => True) ?_ ?_ () 0 (by omega) trivial) (by simp [oddP_nil])
  · intro _ _
    refine Ev.step (f := fun _ => some (strOfNums (b.take b.length), (b.length : Int), true)) (fun k => ?_) (ev_eq (Ev.now _) (by simp [wordN]))
    simp only [lines_word.l0]
    rw [numsStr_size, if_neg (by omega), if_pos (by omega), if_pos (by omega), Int.toNat_natCast, str_take]
  · intro _ i hi _ ih
    have hd := List.drop_eq_getElem_cons hi
    have hnext := oddP_take hi
    have ht : (b.take i).length ≤ 70368744177664 := by rw [List.length_take]; omega
    rw [hd]
    by_cases hbl : isBl b[i] = true
    · have h92 : b[i] ≠ 92 := fun e => by rw [e] at hbl; exact absurd hbl (by decide)
      by_cases ho : oddP (b.take i) = true
      · refine Ev.step (f := fun k => lines_word.l0 k (strOfNums b) ((i + 1 : Nat) : Int)) (fun k => ?_) (ev_eq (ih () trivial) ?_)
        · simp only [lines_word.l0]
          rw [numsStr_size, if_pos (by omega), if_pos (by omega), bt_str hb i hi, blank_eq, Option.bind_some, if_pos hbl, if_pos (by omega), Int.toNat_natCast, str_take, tail_eq (bytes_take hb i) ht, Option.bind_some, if_pos ((tail_odd _).2 ho), wrap_up hi (by omega)]
        · rw [hnext, if_neg h92, wordN, if_neg (by rw [ho]; simp), if_neg h92]
          simp only [Nat.add_assoc, Nat.add_comm 1]
      · refine Ev.step (f := fun _ => some (strOfNums (b.take i), (i : Int), true)) (fun k => ?_) (ev_eq (Ev.now _) ?_)
        · simp only [lines_word.l0]
          rw [numsStr_size, if_pos (by omega), if_pos (by omega), bt_str hb i hi, blank_eq, Option.bind_some, if_pos hbl, if_pos (by omega), Int.toNat_natCast, str_take, tail_eq (bytes_take hb i) ht, Option.bind_some, if_neg (fun e => ho ((tail_odd _).1 e))]
        · rw [wordN, if_pos ⟨hbl, by simpa using ho⟩]
          simp
    · refine Ev.step (f := fun k => lines_word.l0 k (strOfNums b) ((i + 1 : Nat) : Int)) (fun k => ?_) (ev_eq (ih () trivial) ?_)
      · simp only [lines_word.l0]
        rw [numsStr_size, if_pos (by omega), if_pos (by omega), bt_str hb i hi, blank_eq, Option.bind_some, if_neg hbl, wrap_up hi (by omega)]
      · rw [hnext, wordN, if_neg (show ¬ (isBl b[i] = true ∧ oddP (b.take i) = false) from fun e => hbl e.1)]
        simp only [Nat.add_assoc, Nat.add_comm 1]
/-- A text in quotation marks. -/
theorem quo_ev {b : List Int} (hb : Bytes b) (h : b.length ≤ 70368744177664) : ∀ (n i : Nat) (acc : List Int), b.length - i ≤ n → i ≤ b.length → acc.length + (b.length - i) ≤ 70368744177664 →
    Ev (fun k => lines_word.l1 k (strOfNums b) acc (i : Int)) (strOfNums (acc ++ (quoN (b.drop i)).1), ((i + (quoN (b.drop i)).2.1 : Nat) : Int), (quoN (b.drop i)).2.2) := by
  intro n
  induction n with
  | zero =>
    intro i acc hn hi _
    obtain rfl : i = b.length := by omega
    refine Ev.step (f := fun _ => some (strOfNums acc, (b.length : Int), false)) (fun k => ?_) (ev_eq (Ev.now _) (by simp [quoN]))
    simp only [lines_word.l1]
    rw [numsStr_size, if_neg (by omega)]
  | succ n ih =>
    intro i acc hn hi hacc
    by_cases hlt : i < b.length
    · have hd := List.drop_eq_getElem_cons hlt
      by_cases hq : b[i] = 34
      · by_cases hl : i + 1 < b.length
        · have hd2 := List.drop_eq_getElem_cons hl
          have hw : wrap64 ((i : Int) + 1) = ((i + 1 : Nat) : Int) := wrap_up hlt (by omega)
          by_cases hq2 : b[i + 1] = 34
          · have hw2 : wrap64 (((i + 1 : Nat) : Int) + 1) = ((i + 1 + 1 : Nat) : Int) := wrap_up hl (by omega)
            refine Ev.step (f := fun k => lines_word.l1 k (strOfNums b) (acc ++ [34]) ((i + 1 + 1 : Nat) : Int)) (fun k => ?_) (ev_eq (ih (i + 1 + 1) (acc ++ [34]) (by omega) (by omega) (by rw [List.length_append, List.length_singleton]; omega)) ?_)
            · simp only [lines_word.l1]
              rw [numsStr_size, if_pos (by omega), if_pos (by omega), bt_str hb i hlt, if_pos hq, hw, if_neg (by omega), if_pos (by omega), if_pos (by omega), bt_str hb (i + 1) hl, if_pos hq2, if_pos (by omega), hw2]
            · rw [hd, hd2, hq, hq2, quoN_two, List.append_assoc]
              refine Prod.ext rfl (Prod.ext ?_ rfl)
              simp only
              omega
          · refine Ev.step (f := fun _ => some (strOfNums acc, ((i + 1 : Nat) : Int), true)) (fun k => ?_) (ev_eq (Ev.now _) ?_)
            · simp only [lines_word.l1]
              rw [numsStr_size, if_pos (by omega), if_pos (by omega), bt_str hb i hlt, if_pos hq, hw, if_neg (by omega), if_pos (by omega), if_pos (by omega), bt_str hb (i + 1) hl, if_neg hq2]
            · rw [hd, hd2, hq, quoN_end hq2]
              simp
        · have hw : wrap64 ((i : Int) + 1) = ((i + 1 : Nat) : Int) := wrap_up hlt (by omega)
          refine Ev.step (f := fun _ => some (strOfNums acc, ((i + 1 : Nat) : Int), true)) (fun k => ?_) (ev_eq (Ev.now _) ?_)
          · simp only [lines_word.l1]
            rw [numsStr_size, if_pos (by omega), if_pos (by omega), bt_str hb i hlt, if_pos hq, hw, if_pos (by omega)]
          · rw [hd, List.drop_eq_nil_of_le (by omega), hq, quoN_one]
            simp
      · refine Ev.step (f := fun k => lines_word.l1 k (strOfNums b) (acc ++ [b[i]]) ((i + 1 : Nat) : Int)) (fun k => ?_) (ev_eq (ih (i + 1) (acc ++ [b[i]]) (by omega) (by omega) (by rw [List.length_append, List.length_singleton]; omega)) ?_)
        · simp only [lines_word.l1]
          rw [numsStr_size, if_pos (by omega), if_pos (by omega), bt_str hb i hlt, if_neg hq, if_pos (by omega), wrap_up hlt (by omega)]
        · rw [hd, quoN_other hq, List.append_assoc]
          refine Prod.ext rfl (Prod.ext ?_ rfl)
          simp only
          omega
    · obtain rfl : i = b.length := by omega
      refine Ev.step (f := fun _ => some (strOfNums acc, (b.length : Int), false)) (fun k => ?_) (ev_eq (Ev.now _) (by simp [quoN]))
      simp only [lines_word.l1]
      rw [numsStr_size, if_neg (by omega)]
/-- Arguments. -/
theorem args_l {n : Nat} : ∀ (b : List Int) (acc : List ByteArray) (ok : Bool), Bytes b → b.length ≤ n → n ≤ 70368744177664 → acc.length + (argsN n b ok).1.length ≤ 8796093022208 → Ev (fun k => lines_Args.l0 k (strOfNums b) acc ok) (acc ++ (argsN n b ok).1.map strOfNums, (argsN n b ok).2) := by
  induction n with
  | zero =>
    intro b acc ok hb hn h0 ha
    obtain rfl : b = [] := List.eq_nil_of_length_eq_zero (by omega)
    refine Ev.step (f := fun _ => some (acc, ok)) (fun k => ?_) (ev_eq (Ev.now _) (by simp [argsN]))
    simp only [lines_Args.l0]
    rw [if_pos (str_nil.2 rfl)]
  | succ n ih =>
    intro b acc ok hb hn h0 ha
    cases b with
    | nil =>
      refine Ev.step (f := fun _ => some (acc, ok)) (fun k => ?_) (ev_eq (Ev.now _) (by simp [argsN]))
      simp only [lines_Args.l0]
      rw [if_pos (str_nil.2 rfl)]
    | cons x t =>
      obtain ⟨hx, ht⟩ := bytes_cons hb
      simp only [List.length_cons] at hn
      have hne : ¬ (strOfNums (x :: t)).toList = [] := fun e => by have := str_nil.1 e; simp at this
      rw [argsN] at ha ⊢
      by_cases hbl : isBl x = true
      · rw [if_pos hbl] at ha ⊢
        refine Ev.step (f := fun k => lines_Args.l0 k (strOfNums t) acc ok) (fun k => ?_) (ih t acc ok ht (by omega) (by omega) (by omega))
        simp only [lines_Args.l0]
        rw [if_neg hne, if_pos (by rw [numsStr_size, List.length_cons]; omega), bt_head hb, blank_eq, Option.bind_some, if_pos hbl, if_pos (by rw [numsStr_size, List.length_cons]; omega), str_drop]
        rfl
      · rw [if_neg hbl] at ha ⊢
        by_cases hq : x = 34
        · subst hq
          rw [if_pos rfl] at ha ⊢
          simp only [List.length_cons] at ha
          have hqe := quo_ev hb (by simp; omega) (34 :: t).length 1 [] (by omega) (by simp) (by simp; omega)
          have hql := quoN_le t.length t (Nat.le_refl _)
          simp only [List.drop_succ_cons, List.drop_zero, List.nil_append] at hqe
          refine Ev.step (f := fun k => (lines_word.l1 k (strOfNums (34 :: t)) [] ((1 : Nat) : Int)).bind fun bt115 => (if acc.length < 8796093022208 then (if 0 ≤ bt115.2.1 then (if bt115.2.1 ≤ ((strOfNums (34 :: t)).size : Int) then (lines_Args.l0 k ((strOfNums (34 :: t)).extract (bt115.2.1 : Int).toNat (strOfNums (34 :: t)).size) (acc ++ [bt115.1]) bt115.2.2) else (none)) else (none)) else (none))) (fun k => ?_) (Ev.bind hqe ?_)
          · simp only [lines_Args.l0]
            rw [if_neg hne, if_pos (by rw [numsStr_size, List.length_cons]; omega), bt_head hb, blank_eq, Option.bind_some, if_neg hbl]
            unfold lines_word.f
            rw [if_pos (by rw [numsStr_size, List.length_cons]; omega), bt_head hb, if_pos rfl]
            rfl
          · refine ev_pos (by omega) (ev_pos (by simp only; omega) (ev_pos (by rw [numsStr_size]; simp only [List.length_cons]; omega) ?_))
            simp only
            rw [Int.toNat_natCast, str_drop, Nat.add_comm 1, List.drop_succ_cons]
            refine ev_eq (ih _ (acc ++ [strOfNums (quoN t).1]) (quoN t).2.2 (bytes_drop ht _) (by rw [List.length_drop]; omega) (by omega) (by rw [List.length_append, List.length_singleton]; omega)) ?_
            simp
        · rw [if_neg hq] at ha ⊢
          simp only [List.length_cons] at ha
          have hwe := word_ev hb (by simp; omega)
          have hwp := wordN_pos (show isBl x = false by simpa using hbl) t
          have hwl := wordN_le (x :: t) false
          refine Ev.step (f := fun k => (lines_word.l0 k (strOfNums (x :: t)) 0).bind fun bt115 => (if acc.length < 8796093022208 then (if 0 ≤ bt115.2.1 then (if bt115.2.1 ≤ ((strOfNums (x :: t)).size : Int) then (lines_Args.l0 k ((strOfNums (x :: t)).extract (bt115.2.1 : Int).toNat (strOfNums (x :: t)).size) (acc ++ [bt115.1]) bt115.2.2) else (none)) else (none)) else (none))) (fun k => ?_) (Ev.bind hwe ?_)
          · simp only [lines_Args.l0]
            rw [if_neg hne, if_pos (by rw [numsStr_size, List.length_cons]; omega), bt_head hb, blank_eq, Option.bind_some, if_neg hbl]
            unfold lines_word.f
            rw [if_pos (by rw [numsStr_size, List.length_cons]; omega), bt_head hb, if_neg hq]
          · refine ev_pos (by omega) (ev_pos (by simp only; omega) (ev_pos (by rw [numsStr_size]; simp only; omega) ?_))
            simp only
            rw [Int.toNat_natCast, str_drop]
            refine ev_eq (ih _ (acc ++ [strOfNums ((x :: t).take (wordN false (x :: t)))]) true (bytes_drop hb _) (by rw [List.length_drop, List.length_cons]; omega) (by omega) (by rw [List.length_append, List.length_singleton]; omega)) ?_
            simp
/-- At a text as large as a world holds. -/
theorem args_big {b : List Int} (hb : Bytes b) (h : b.length ≤ 70368744177664) (hn : (argsV b).1.length ≤ 8796093022208) : Ev (fun k => lines_Args.f k (strOfNums b)) ((argsV b).1.map strOfNums, (argsV b).2) := by
  unfold lines_Args.f
  exact ev_eq (args_l b [] true hb (Nat.le_refl _) h (by simpa [argsV] using hn)) (by simp [argsV])
theorem args_ev {b : List Int} (hb : Bytes b) (h : b.length ≤ 1000000) : Ev (fun k => lines_Args.f k (strOfNums b)) ((argsV b).1.map strOfNums, (argsV b).2) :=
  args_big hb (by omega) (by have := (argsN_length b.length b true).1; unfold argsV; omega)
end Go.Proofs.YtmfkokjbjmahkaaDoor.Pure

/- Texts in quotation marks; that texts are the same. -/
namespace Go.Proofs.YtmfkokjbjmahkaaDoor.Pure
open Go Go.RowKit Go.Proofs.YtmfkokjbjmahkaaDoorW.PrintWords Go.Proofs.YtmfkokjbjmahkaaDoorW.PrintLast Go.Proofs.YtmfkokjbjmahkaaDoorW.PrintMore Go.Proofs.YtmfkokjbjmahkaaDoor.X Go.Proofs.YtmfkokjbjmahkaaDoor.Hand
set_option linter.unusedSimpArgs false
set_option linter.unusedVariables false
/-- Every quotation mark twice. -/
def twoB (b : List Int) : List Int := b.flatMap fun x => if x = 34 then [34, 34] else [x]
theorem twoB_nil : twoB [] = [] := rfl
theorem twoB_cons (x : Int) (t : List Int) : twoB (x :: t) = (if x = 34 then [34, 34] else [x]) ++ twoB t := by
  unfold twoB
  rw [List.flatMap_cons]
theorem twoB_append (a b : List Int) : twoB (a ++ b) = twoB a ++ twoB b := by
  unfold twoB
  rw [List.flatMap_append]
theorem twoB_length : ∀ b : List Int, (twoB b).length ≤ 2 * b.length
  | [] => by simp [twoB]
  | x :: t => by
    have := twoB_length t
    rw [twoB_cons]
    split <;> simp <;> omega
theorem twoB_bytes {b : List Int} (hb : Bytes b) : Bytes (twoB b) := by
  intro x hx
  obtain ⟨y, hy, hx⟩ := List.mem_flatMap.1 hx
  split at hx
  · simp at hx
    omega
  · simp at hx
    subst hx
    exact hb _ hy
theorem quoB_eq (b : List Int) : quoB b = 34 :: twoB b ++ [34] := rfl
/-- What the library replaces. -/
theorem rep_two : ∀ (l : List UInt8), Lib.replaceK [34] [34, 34] (Lib.count l [34]) l = l.flatMap fun x => if x = 34 then [34, 34] else [x]
  | [] => by rfl
  | x :: t => by
    by_cases hx : x = 34
    · subst hx
      have hi : Lib.index (34 :: t) [34] = ((0 : Nat) : Int) := by simp [Lib.index]
      rw [Lib.count_cons_eq, Nat.add_comm, Lib.replaceK_hit _ _ _ _ 0 hi]
      simp only [List.take_zero, List.nil_append, Nat.zero_add, List.length_singleton, List.drop_succ_cons, List.drop_zero]
      rw [rep_two t]
      simp
    · rw [Lib.count_cons_ne _ _ _ hx]
      have ih := rep_two t
      have hne : ([34] : List UInt8).isPrefixOf (x :: t) = false := by
        simp only [List.isPrefixOf, Bool.and_true]
        exact beq_false_of_ne (fun e => hx e.symm)
      have hix : Lib.index (x :: t) [34] = if Lib.index t [34] == -1 then -1 else Lib.index t [34] + 1 := by rw [Lib.index, hne]; rfl
      cases hc : Lib.count t [34] with
      | zero =>
        rw [hc] at ih
        simp only [Lib.replaceK] at ih ⊢
        rw [List.flatMap_cons, if_neg hx, ← ih]
        rfl
      | succ n =>
        obtain ⟨i, hi⟩ := Lib.index_of_count (s := t) (old := [34]) (by omega)
        rw [hc] at ih
        rw [Lib.replaceK_hit _ _ _ _ i hi] at ih
        rw [Lib.replaceK_hit _ _ _ _ (i + 1) (by rw [hix, hi, if_neg (by simp)]; omega), List.flatMap_cons, if_neg hx, ← ih]
        simp [Nat.add_right_comm]
theorem data_str (b : List Int) : (strOfNums b).data.toList = b.map fun n => UInt8.ofNat n.toNat := by
  rw [← str_toList, ByteArray.toList_eq]
theorem two_map : ∀ {b : List Int}, Bytes b → ((b.map fun n => UInt8.ofNat n.toNat).flatMap fun x => if x = 34 then [34, 34] else [x]) = (twoB b).map fun n => UInt8.ofNat n.toNat
  | [], _ => rfl
  | x :: t, hb => by
    obtain ⟨hx, ht⟩ := bytes_cons hb
    rw [List.map_cons, List.flatMap_cons, two_map ht, twoB_cons, List.map_append]
    congr 1
    by_cases h : x = 34
    · subst h
      rfl
    · rw [if_neg h]
      have : ¬ UInt8.ofNat x.toNat = 34 := fun e => by
        have e2 := u8_eq hx 34 (by omega)
        rw [show (UInt8.ofNat 34 : UInt8) = 34 from rfl, e, beq_self_eq_true] at e2
        exact h (by simpa using e2.symm)
      rw [if_neg this]
      rfl
theorem quoted_eq {b : List Int} (hb : Bytes b) (h : b.length ≤ 1000000) : lines_Quoted.f (strOfNums b) = some (strOfNums (quoB b)) := by
  have hr : strings_ReplaceAll.f (strOfNums b) (⟨#[34]⟩ : ByteArray) (⟨#[34, 34]⟩ : ByteArray) = some (strOfNums (twoB b)) := by
    unfold strings_ReplaceAll.f
    rw [if_pos ⟨rfl, rfl, by rw [numsStr_size]; exact h⟩]
    congr 1
    have : (Lib.replaceAll (strOfNums b).data.toList [34] [34, 34]) = (twoB b).map fun n => UInt8.ofNat n.toNat := by
      unfold Lib.replaceAll Lib.replace Lib.replaceNum
      rw [if_neg (by decide), if_pos (Or.inl (by decide)), rep_two, data_str, two_map hb]
    rw [this, ← data_str]
  have hl := twoB_length b
  unfold lines_Quoted.f
  rw [hr, Option.bind_some, numsStr_size, if_pos (by omega), if_pos (by rw [show (⟨#[34]⟩ : ByteArray) = strOfNums [34] from rfl, ← numsStr_append, numsStr_size]; simp; omega)]
  rw [quoB_eq, show (⟨#[34]⟩ : ByteArray) = strOfNums [34] from rfl, ← numsStr_append, ← numsStr_append]
  rfl
theorem same_texts {l : List ByteArray} (h : l.length ≤ 8796093022208) : Ev (fun k => flongref05_SameTexts.f k l l) true := by
  unfold flongref05_SameTexts.f
  refine ev_pos rfl (loop_up (σ := Unit) (fun k _ i => flongref05_SameTexts.l0 k l l i) l.length (fun _ _ => true) (fun _ _ => True) ?_ ?_ () 0 (by omega) trivial)
  · intro _ _
    refine Ev.step (f := fun _ => some true) (fun k => ?_) (Ev.now _)
    simp only [flongref05_SameTexts.l0]
    rw [if_neg (by omega)]
  · intro _ i hi _ ih
    refine Ev.step (f := fun k => flongref05_SameTexts.l0 k l l ((i + 1 : Nat) : Int)) (fun k => ?_) (ih () trivial)
    simp only [flongref05_SameTexts.l0]
    rw [if_pos (by omega), if_pos (by omega), if_pos (by omega), if_pos trivial, wrap_up hi (by omega)]
end Go.Proofs.YtmfkokjbjmahkaaDoor.Pure

/- Texts in quotation marks, one behind another: read as arguments they are the texts. -/
namespace Go.Proofs.YtmfkokjbjmahkaaDoor.Pure
open Go Go.RowKit Go.Proofs.YtmfkokjbjmahkaaDoorW.PrintWords Go.Proofs.YtmfkokjbjmahkaaDoorW.PrintLast Go.Proofs.YtmfkokjbjmahkaaDoorW.PrintMore Go.Proofs.YtmfkokjbjmahkaaDoor.X Go.Proofs.YtmfkokjbjmahkaaDoor.Hand
set_option linter.unusedSimpArgs false
set_option linter.unusedVariables false
theorem rdOf_at (l : List ByteArray) (i : Nat) (h : i < l.length) : rdOf ByteArray.empty l (i : Int) = l[i] := by
  simp [rdOf, List.getD_eq_getElem?_getD, List.getElem?_eq_getElem h]
theorem quoN_twoB (t : List Int) : ∀ b : List Int, quoN (twoB b ++ 34 :: 32 :: t) = (b, (twoB b).length + 1, true)
  | [] => by rw [twoB_nil, List.nil_append, quoN_end (by decide)]; rfl
  | x :: b => by
    rw [twoB_cons]
    by_cases h : x = 34
    · subst h
      rw [if_pos rfl, show ([34, 34] ++ twoB b ++ 34 :: 32 :: t : List Int) = 34 :: 34 :: (twoB b ++ 34 :: 32 :: t) from by simp, quoN_two, quoN_twoB t b]
      simp
    · rw [if_neg h, show ([x] ++ twoB b ++ 34 :: 32 :: t : List Int) = x :: (twoB b ++ 34 :: 32 :: t) from by simp, quoN_other h, quoN_twoB t b]
      simp
def joinQ (xs : List (List Int)) : List Int := xs.flatMap fun x => quoB x ++ [32, 32]
theorem joinQ_cons (x : List Int) (xs : List (List Int)) : joinQ (x :: xs) = 34 :: (twoB x ++ 34 :: 32 :: (32 :: joinQ xs)) := by
  unfold joinQ
  rw [List.flatMap_cons, quoB_eq]
  simp
theorem joinQ_snoc (x : List Int) (xs : List (List Int)) : joinQ (xs ++ [x]) = joinQ xs ++ quoB x ++ [32, 32] := by
  unfold joinQ
  rw [List.flatMap_append]
  simp
theorem argsN_join : ∀ (xs : List (List Int)) (n : Nat), (joinQ xs).length ≤ n → argsN n (joinQ xs) true = (xs, true)
  | [], n, _ => by cases n <;> rfl
  | x :: xs, n, h => by
    rw [joinQ_cons] at h ⊢
    simp only [List.length_cons, List.length_append] at h
    obtain ⟨m, rfl⟩ : ∃ m, n = m + 3 := ⟨n - 3, by omega⟩
    rw [argsN, if_neg (by decide), if_pos rfl, quoN_twoB]
    have hd : (twoB x ++ 34 :: 32 :: 32 :: joinQ xs).drop ((twoB x).length + 1) = 32 :: 32 :: joinQ xs := by
      rw [← List.drop_drop, List.drop_left]
      rfl
    simp only [hd]
    rw [argsN, if_pos (by decide), argsN, if_pos (by decide), argsN_join xs m (by omega)]
theorem argsV_join (xs : List (List Int)) : argsV (32 :: joinQ xs) = (xs, true) := by
  unfold argsV
  rw [List.length_cons, argsN, if_pos (by decide), argsN_join xs _ (Nat.le_refl _)]
theorem joinQ_bytes {xs : List (List Int)} (h : ∀ x ∈ xs, Bytes x) : Bytes (joinQ xs) := by
  intro y hy
  obtain ⟨x, hx, hy⟩ := List.mem_flatMap.1 hy
  rw [quoB_eq] at hy
  simp only [List.mem_append, List.mem_cons, List.not_mem_nil, or_false] at hy
  rcases hy with ((rfl | hy) | rfl) | rfl | rfl
  · decide
  · exact twoB_bytes (h x hx) _ hy
  · decide
  · decide
  · decide
end Go.Proofs.YtmfkokjbjmahkaaDoor.Pure

/- What the chapter's examples fix: computed. -/
namespace Go.Proofs.YtmfkokjbjmahkaaDoor.Pure
open Go.RowKit Go.Proofs.YtmfkokjbjmahkaaDoorW.PrintWords Go.Proofs.YtmfkokjbjmahkaaDoorW.PrintLast Go.Proofs.YtmfkokjbjmahkaaDoor.X
theorem known_ev : Ev (fun k => flonglaw05_known.f k) true := Ev.of (k := 30) flonglaw05_known.mono (by kernel_rfl)
end Go.Proofs.YtmfkokjbjmahkaaDoor.Pure
