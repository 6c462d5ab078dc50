/- SpecQ: several of this session's texts in one. -/
import Derived.Test.YtmfkokjbjmahkaaDoorVMore
import Derived.Lib.IndexBytes
import Derived.Test.YtmfkokjbjmahkaaDoorX2
import Derived.Test.YtmfkokjbjmahkaaDoorHandE
import Derived.Test.YtmfkokjbjmahkaaDoorHandS
import Derived.Test.YtmfkokjbjmahkaaDoorHandH
import Derived.Test.YtmfkokjbjmahkaaDoorX4
import Derived.Test.YtmfkokjbjmahkaaDoorX5
import Derived.Test.YtmfkokjbjmahkaaDoorHandB
import Derived.Test.YtmfkokjbjmahkaaDoorX6
/- Plain lemmas on printed functions: what holds from some number of rounds on. -/
namespace Go.Proofs.YtmfkokjbjmahkaaDoor.Pure
open Go.RowKit Go.Proofs.YtmfkokjbjmahkaaDoorW.PrintWords Go.Proofs.YtmfkokjbjmahkaaDoorW.PrintLast

theorem ev_pos {α : Type} {c : Prop} [Decidable c] {f g : Nat → Option α} {r : α} (h : c) (k : Ev f r) : Ev (fun n => if c then f n else g n) r := by
  obtain ⟨K, k⟩ := k
  exact ⟨K, fun n hn => by simp only [if_pos h]; exact k n hn⟩
theorem ev_neg {α : Type} {c : Prop} [Decidable c] {f g : Nat → Option α} {r : α} (h : ¬ c) (k : Ev g r) : Ev (fun n => if c then f n else g n) r := by
  obtain ⟨K, k⟩ := k
  exact ⟨K, fun n hn => by simp only [if_neg h]; exact k n hn⟩
theorem ev_ite {α : Type} {c : Prop} [Decidable c] {f g : Nat → Option α} {r : α} (h : c → Ev f r) (k : ¬ c → Ev g r) : Ev (fun n => if c then f n else g n) r := by
  by_cases hc : c
  · exact ev_pos hc (h hc)
  · exact ev_neg hc (k hc)
theorem ev_eq {α : Type} {g : Nat → Option α} {r r' : α} (h : Ev g r) (e : r = r') : Ev g r' := e ▸ h
theorem ev_one {α : Type} {g : Option α} {r : α} (h : g = some r) : Ev (fun _ => g) r := ⟨0, fun _ _ => h⟩
theorem wrap_of {x : Int} (h0 : -9223372036854775808 ≤ x) (h1 : x ≤ 9223372036854775807) : wrap64 x = x := by
  unfold wrap64
  omega
end Go.Proofs.YtmfkokjbjmahkaaDoor.Pure

/- A loop that goes up to a length, whatever its state. -/
namespace Go.Proofs.YtmfkokjbjmahkaaDoor.Pure
open Go.RowKit Go.Proofs.YtmfkokjbjmahkaaDoorW.PrintWords Go.Proofs.YtmfkokjbjmahkaaDoorW.PrintLast

theorem loop_up {σ β : Type} (L : Nat → σ → Int → Option β) (n : Nat) (res : σ → Nat → β) (I : σ → Nat → Prop)
    (hend : ∀ s, I s n → Ev (fun k => L k s (n : Int)) (res s n))
    (hstep : ∀ s i, i < n → I s i → (∀ s', I s' (i + 1) → Ev (fun k => L k s' ((i + 1 : Nat) : Int)) (res s' (i + 1))) → Ev (fun k => L k s (i : Int)) (res s i)) :
    ∀ s i, i ≤ n → I s i → Ev (fun k => L k s (i : Int)) (res s i) := by
  have h : ∀ d i, n - i = d → i ≤ n → ∀ s, I s i → Ev (fun k => L k s (i : Int)) (res s i) := by
    intro d
    induction d with
    | zero =>
      intro i hd hi s hs
      obtain rfl : i = n := by omega
      exact hend s hs
    | succ d ih =>
      intro i hd hi s hs
      exact hstep s i (by omega) hs (fun s' hs' => ih (i + 1) (by omega) (by omega) s' hs')
  exact fun s i hi hs => h (n - i) i rfl hi s hs
theorem wrap_up {i n : Nat} (h : i < n) (hn : n ≤ 9223372036854775807) : wrap64 ((i : Int) + 1) = ((i + 1 : Nat) : Int) := by
  rw [wrap_of (by omega) (by omega)]
  omega
end Go.Proofs.YtmfkokjbjmahkaaDoor.Pure

/- Texts as lists of bytes. -/
namespace Go.Proofs.YtmfkokjbjmahkaaDoor.Pure
open Go Go.RowKit Go.Proofs.YtmfkokjbjmahkaaDoorW.PrintWords Go.Proofs.YtmfkokjbjmahkaaDoorW.PrintLast Go.Proofs.YtmfkokjbjmahkaaDoorW.PrintMore
set_option linter.unusedSimpArgs false
set_option linter.unusedVariables false
def Bytes (l : List Int) : Prop := ∀ x ∈ l, 0 ≤ x ∧ x ≤ 255
theorem bytes_cons {x : Int} {b : List Int} (h : Bytes (x :: b)) : (0 ≤ x ∧ x ≤ 255) ∧ Bytes b := ⟨h x (by simp), fun y hy => h y (by simp [hy])⟩
theorem numsStr_append (a b : List Int) : strOfNums (a ++ b) = strOfNums a ++ strOfNums b := by
  apply ByteArray.ext
  apply Array.ext'
  rw [ByteArray.data_append, Array.toList_append, strOfNums_data, strOfNums_data, strOfNums_data, List.map_append]
theorem numsStr_size (a : List Int) : (strOfNums a).size = a.length := strOfNums_size a
theorem str_of (t : ByteArray) : strOfNums (bytesOf t) = t := by
  apply ByteArray.ext
  apply Array.ext'
  rw [strOfNums_data]
  unfold bytesOf
  rw [List.map_map]
  conv => rhs; rw [← List.map_id t.data.toList]
  apply List.map_congr_left
  intro x _
  simp
theorem bytesOf_Bytes (t : ByteArray) : Bytes (bytesOf t) := by
  intro x hx
  unfold bytesOf at hx
  obtain ⟨y, _, rfl⟩ := List.mem_map.1 hx
  have := y.toNat_lt
  omega
theorem str_extract (c : List Int) (i j : Nat) : (strOfNums c).extract i j = strOfNums ((c.take j).drop i) := by
  apply ByteArray.ext
  apply Array.ext'
  rw [ByteArray.data_extract, Array.toList_extract, List.extract_eq_take_drop, strOfNums_data, strOfNums_data, List.map_drop, List.map_take, List.drop_take]
theorem str_drop (c : List Int) (i : Nat) : (strOfNums c).extract i (strOfNums c).size = strOfNums (c.drop i) := by
  rw [str_extract, numsStr_size, List.take_length]
theorem str_take (c : List Int) (j : Nat) : (strOfNums c).extract 0 j = strOfNums (c.take j) := by rw [str_extract, List.drop_zero]
theorem str_toList (b : List Int) : (strOfNums b).toList = b.map fun n => UInt8.ofNat n.toNat := by
  rw [ByteArray.toList_eq, strOfNums_data]
theorem str_nil {b : List Int} : (strOfNums b).toList = [] ↔ b = [] := by
  rw [str_toList, List.map_eq_nil_iff]
theorem bt_str {b : List Int} (hb : Bytes b) (i : Nat) (h : i < b.length) : bt (strOfNums b) (i : Int) = b[i] := by
  unfold bt
  have hs : (i : Int).toNat < (strOfNums b).size := by rw [numsStr_size]; omega
  rw [dif_pos hs]
  have h1 := Lib.data_getElem? (strOfNums b) i (by rw [numsStr_size]; omega)
  rw [strOfNums_data, List.getElem?_map, List.getElem?_eq_getElem h] at h1
  have h2 := Option.some.inj h1
  have hx := hb b[i] (List.getElem_mem h)
  simp only [Int.toNat_natCast]
  rw [← h2]
  simp
  omega
theorem bt_head {x : Int} {b : List Int} (hb : Bytes (x :: b)) : bt (strOfNums (x :: b)) 0 = x := bt_str hb 0 (by simp)
end Go.Proofs.YtmfkokjbjmahkaaDoor.Pure

/- Backslashes ahead of a place, words, texts in quotation marks, arguments: what they are. -/
namespace Go.Proofs.YtmfkokjbjmahkaaDoor.Pure
open Go Go.RowKit Go.Proofs.YtmfkokjbjmahkaaDoorW.PrintWords
set_option linter.unusedSimpArgs false
set_option linter.unusedVariables false
/-- How many backslashes stand at the end. -/
def tailV (b : List Int) : Nat := (b.reverse.takeWhile (· == 92)).length
/-- Is it an odd number? -/
def oddP (b : List Int) : Bool := tailV b % 2 == 1
def isBl (x : Int) : Bool := x == 32 || x == 9
/-- How long a word is: up to a blank that no odd number of backslashes stands ahead of. -/
def wordN : Bool → List Int → Nat
  | _, [] => 0
  | o, x :: t => if isBl x = true ∧ o = false then 0 else wordN (if x = 92 then !o else false) t + 1
/-- What stands in quotation marks, how much that takes, whether it ends. -/
def quoN : List Int → List Int × Nat × Bool
  | [] => ([], 0, false)
  | [x] => if x = 34 then ([], 1, true) else ([x], 1, false)
  | x :: y :: t => if x = 34 then (if y = 34 then (34 :: (quoN t).1, (quoN t).2.1 + 2, (quoN t).2.2) else ([], 1, true)) else (x :: (quoN (y :: t)).1, (quoN (y :: t)).2.1 + 1, (quoN (y :: t)).2.2)
/-- Arguments, and whether the last one ends. -/
def argsN : Nat → List Int → Bool → List (List Int) × Bool
  | _, [], ok => ([], ok)
  | 0, _ :: _, ok => ([], ok)
  | n + 1, x :: t, ok => if isBl x = true then argsN n t ok else if x = 34 then ((quoN t).1 :: (argsN n (t.drop (quoN t).2.1) (quoN t).2.2).1, (argsN n (t.drop (quoN t).2.1) (quoN t).2.2).2)
    else ((x :: t).take (wordN false (x :: t)) :: (argsN n ((x :: t).drop (wordN false (x :: t))) true).1, (argsN n ((x :: t).drop (wordN false (x :: t))) true).2)
def argsV (b : List Int) : List (List Int) × Bool := argsN b.length b true
/-- A text in quotation marks. -/
def quoB (b : List Int) : List Int := 34 :: (b.flatMap fun x => if x = 34 then [34, 34] else [x]) ++ [34]
end Go.Proofs.YtmfkokjbjmahkaaDoor.Pure

/- Arguments: package lines'. -/
namespace Go.Proofs.YtmfkokjbjmahkaaDoor.Pure
open Go Go.RowKit Go.Proofs.YtmfkokjbjmahkaaDoorW.PrintWords Go.Proofs.YtmfkokjbjmahkaaDoorW.PrintLast Go.Proofs.YtmfkokjbjmahkaaDoorW.PrintMore Go.Proofs.YtmfkokjbjmahkaaDoor.X Go.Proofs.YtmfkokjbjmahkaaDoor.Hand
set_option linter.unusedSimpArgs false
set_option linter.unusedVariables false
theorem u8_eq {x : Int} (h : 0 ≤ x ∧ x ≤ 255) (c : Nat) (hc : c ≤ 255) : (UInt8.ofNat x.toNat == UInt8.ofNat c) = (x == (c : Int)) := by
  by_cases e : x = c
  · subst e
    simp
  · have h1 : (x == (c : Int)) = false := beq_false_of_ne e
    rw [h1]
    apply beq_false_of_ne
    intro e2
    have h2 := congrArg UInt8.toNat e2
    simp at h2
    omega
end Go.Proofs.YtmfkokjbjmahkaaDoor.Pure

/- Texts in quotation marks; that texts are the same. -/
namespace Go.Proofs.YtmfkokjbjmahkaaDoor.Pure
open Go Go.RowKit Go.Proofs.YtmfkokjbjmahkaaDoorW.PrintWords Go.Proofs.YtmfkokjbjmahkaaDoorW.PrintLast Go.Proofs.YtmfkokjbjmahkaaDoorW.PrintMore Go.Proofs.YtmfkokjbjmahkaaDoor.X Go.Proofs.YtmfkokjbjmahkaaDoor.Hand
set_option linter.unusedSimpArgs false
set_option linter.unusedVariables false
/-- Every quotation mark twice. -/
def twoB (b : List Int) : List Int := b.flatMap fun x => if x = 34 then [34, 34] else [x]
theorem twoB_nil : twoB [] = [] := rfl
theorem twoB_cons (x : Int) (t : List Int) : twoB (x :: t) = (if x = 34 then [34, 34] else [x]) ++ twoB t := by
  unfold twoB
  rw [List.flatMap_cons]
theorem twoB_length : ∀ b : List Int, (twoB b).length ≤ 2 * b.length
  | [] => by simp [twoB]
  | x :: t => by
    have := twoB_length t
    rw [twoB_cons]
    split <;> simp <;> omega
theorem quoB_eq (b : List Int) : quoB b = 34 :: twoB b ++ [34] := rfl
/-- What the library replaces. -/
theorem rep_two : ∀ (l : List UInt8), Lib.replaceK [34] [34, 34] (Lib.count l [34]) l = l.flatMap fun x => if x = 34 then [34, 34] else [x]
  | [] => by rfl
  | x :: t => by
    by_cases hx : x = 34
    · subst hx
      have hi : Lib.index (34 :: t) [34] = ((0 : Nat) : Int) := by simp [Lib.index]
      rw [Lib.count_cons_eq, Nat.add_comm, Lib.replaceK_hit _ _ _ _ 0 hi]
      simp only [List.take_zero, List.nil_append, Nat.zero_add, List.length_singleton, List.drop_succ_cons, List.drop_zero]
      rw [rep_two t]
      simp
    · rw [Lib.count_cons_ne _ _ _ hx]
      have ih := rep_two t
      have hne : ([34] : List UInt8).isPrefixOf (x :: t) = false := by
        simp only [List.isPrefixOf, Bool.and_true]
        exact beq_false_of_ne (fun e => hx e.symm)
      have hix : Lib.index (x :: t) [34] = if Lib.index t [34] == -1 then -1 else Lib.index t [34] + 1 := by rw [Lib.index, hne]; rfl
      cases hc : Lib.count t [34] with
      | zero =>
        rw [hc] at ih
        simp only [Lib.replaceK] at ih ⊢
        rw [List.flatMap_cons, if_neg hx, ← ih]
        rfl
      | succ n =>
        obtain ⟨i, hi⟩ := Lib.index_of_count (s := t) (old := [34]) (by omega)
        rw [hc] at ih
        rw [Lib.replaceK_hit _ _ _ _ i hi] at ih
        rw [Lib.replaceK_hit _ _ _ _ (i + 1) (by rw [hix, hi, if_neg (by simp)]; omega), List.flatMap_cons, if_neg hx, ← ih]
        simp [Nat.add_right_comm]
theorem data_str (b : List Int) : (strOfNums b).data.toList = b.map fun n => UInt8.ofNat n.toNat := by
  rw [← str_toList, ByteArray.toList_eq]
theorem two_map : ∀ {b : List Int}, Bytes b → ((b.map fun n => UInt8.ofNat n.toNat).flatMap fun x => if x = 34 then [34, 34] else [x]) = (twoB b).map fun n => UInt8.ofNat n.toNat
  | [], _ => rfl
  | x :: t, hb => by
    obtain ⟨hx, ht⟩ := bytes_cons hb
    rw [List.map_cons, List.flatMap_cons, two_map ht, twoB_cons, List.map_append]
    congr 1
    by_cases h : x = 34
    · subst h
      rfl
    · rw [if_neg h]
      have : ¬ UInt8.ofNat x.toNat = 34 := fun e => by
        have e2 := u8_eq hx 34 (by omega)
        rw [show (UInt8.ofNat 34 : UInt8) = 34 from rfl, e, beq_self_eq_true] at e2
        exact h (by simpa using e2.symm)
      rw [if_neg this]
      rfl
theorem quoted_eq {b : List Int} (hb : Bytes b) (h : b.length ≤ 1000000) : lines_Quoted.f (strOfNums b) = some (strOfNums (quoB b)) := by
  have hr : strings_ReplaceAll.f (strOfNums b) (⟨#[34]⟩ : ByteArray) (⟨#[34, 34]⟩ : ByteArray) = some (strOfNums (twoB b)) := by
    unfold strings_ReplaceAll.f
    rw [if_pos ⟨rfl, rfl, by rw [numsStr_size]; exact h⟩]
    congr 1
    have : (Lib.replaceAll (strOfNums b).data.toList [34] [34, 34]) = (twoB b).map fun n => UInt8.ofNat n.toNat := by
      unfold Lib.replaceAll Lib.replace Lib.replaceNum
      rw [if_neg (by decide), if_pos (Or.inl (by decide)), rep_two, data_str, two_map hb]
    rw [this, ← data_str]
  have hl := twoB_length b
  unfold lines_Quoted.f
  rw [hr, Option.bind_some, numsStr_size, if_pos (by omega), if_pos (by rw [show (⟨#[34]⟩ : ByteArray) = strOfNums [34] from rfl, ← numsStr_append, numsStr_size]; simp; omega)]
  rw [quoB_eq, show (⟨#[34]⟩ : ByteArray) = strOfNums [34] from rfl, ← numsStr_append, ← numsStr_append]
  rfl
end Go.Proofs.YtmfkokjbjmahkaaDoor.Pure

/- Texts in quotation marks, one behind another: read as arguments they are the texts. -/
namespace Go.Proofs.YtmfkokjbjmahkaaDoor.Pure
open Go Go.RowKit Go.Proofs.YtmfkokjbjmahkaaDoorW.PrintWords Go.Proofs.YtmfkokjbjmahkaaDoorW.PrintLast Go.Proofs.YtmfkokjbjmahkaaDoorW.PrintMore Go.Proofs.YtmfkokjbjmahkaaDoor.X Go.Proofs.YtmfkokjbjmahkaaDoor.Hand
set_option linter.unusedSimpArgs false
set_option linter.unusedVariables false
theorem rdOf_at (l : List ByteArray) (i : Nat) (h : i < l.length) : rdOf ByteArray.empty l (i : Int) = l[i] := by
  simp [rdOf, List.getD_eq_getElem?_getD, List.getElem?_eq_getElem h]
end Go.Proofs.YtmfkokjbjmahkaaDoor.Pure

/- Lines: a sign, a comment, a row of a line that is whole: the package's. -/
namespace Go.Proofs.YtmfkokjbjmahkaaDoor.Pure
open Go Go.RowKit Go.Proofs.YtmfkokjbjmahkaaDoorW.PrintWords Go.Proofs.YtmfkokjbjmahkaaDoorW.PrintLast Go.Proofs.YtmfkokjbjmahkaaDoorW.PrintMore Go.Proofs.YtmfkokjbjmahkaaDoor.X Go.Proofs.YtmfkokjbjmahkaaDoor.Hand
set_option linter.unusedSimpArgs false
set_option linter.unusedVariables false
/-- What stands behind a line's sign, and whether it has one. -/
def ctlV : List Int → List Int × Bool
  | [] => ([], false)
  | x :: t => if x = 46 ∨ x = 39 then (t.dropWhile isBl, true) else (x :: t, false)
/-- Where a comment begins. -/
def cmtN : Nat → List Int → Bool → Int
  | _, [], _ => -1
  | i, x :: t, o => if x = 34 ∧ o = true then (i : Int) - 1 else cmtN (i + 1) t (if x = 92 then !o else false)
def cmtV (b : List Int) : Int := cmtN 0 b false
/-- The name that stands first. -/
def nmN (c : List Int) : Nat := (c.takeWhile fun x => !isBl x).length
/-- A row of a line that is whole. -/
def rowV (frm : Int) (b : List Int) : List Rw × List Dg :=
  if (ctlV b).2 = true then (if nmN (ctlV b).1 = 0 then ([], []) else
    let c := (ctlV b).1
    let a := argsV (c.drop (nmN c))
    ([⟨frm, strOfNums (c.take (nmN c)), if (200 : Int) < (a.1.length : Int) then (a.1.map strOfNums).take 200 else a.1.map strOfNums, ⟨#[]⟩⟩], (if a.2 = true then [] else [⟨5, frm, 0⟩]) ++ (if (200 : Int) < (a.1.length : Int) then [⟨11, frm, 0⟩] else [])))
  else ([⟨frm, ⟨#[]⟩, [], strOfNums b⟩], [])
end Go.Proofs.YtmfkokjbjmahkaaDoor.Pure

/- A text's pieces at line feeds; its last byte. -/
namespace Go.Proofs.YtmfkokjbjmahkaaDoor.Pure
open Go Go.RowKit Go.Proofs.YtmfkokjbjmahkaaDoorW.PrintWords Go.Proofs.YtmfkokjbjmahkaaDoorW.PrintLast Go.Proofs.YtmfkokjbjmahkaaDoorW.PrintMore Go.Proofs.YtmfkokjbjmahkaaDoor.X Go.Proofs.YtmfkokjbjmahkaaDoor.Hand
set_option linter.unusedSimpArgs false
set_option linter.unusedVariables false
theorem suffix_eq {b : List Int} (hb : Bytes b) (h : b.length ≤ 1000000) (c : Nat) (hc : c ≤ 255) : stringslite_HasSuffix.f (strOfNums b) (⟨#[UInt8.ofNat c]⟩ : ByteArray) = some (decide (b.getLast? = some (c : Int))) := by
  unfold stringslite_HasSuffix.f
  have h1 : (⟨#[UInt8.ofNat c]⟩ : ByteArray).size = 1 := rfl
  rcases List.eq_nil_or_concat b with rfl | ⟨a, x, rfl⟩
  · rw [h1, numsStr_size, if_neg (by simp)]
    rfl
  · rw [List.concat_eq_append] at hb h ⊢
    have hx := hb x (by simp)
    have hl : (a ++ [x]).length = a.length + 1 := by simp
    have hw : wrap64 (((a ++ [x]).length : Int) - ((1 : Nat) : Int)) = (a.length : Int) := by rw [wrap_of (by omega) (by omega)]; omega
    rw [h1, numsStr_size, hw, if_pos (by omega), if_pos (by omega), if_pos (by omega), Int.toNat_natCast, ← numsStr_size (a ++ [x]), str_drop, List.drop_left, str_toList]
    congr 1
    have e : ([x].map fun n => UInt8.ofNat n.toNat) = [UInt8.ofNat x.toNat] := rfl
    have e2 : (⟨#[UInt8.ofNat c]⟩ : ByteArray).toList = [UInt8.ofNat c] := by rw [ByteArray.toList_eq]
    have hu := u8_eq hx c hc
    rw [e, e2, List.getLast?_append, List.getLast?_singleton]
    simp only [List.cons_beq_cons, BEq.rfl, Bool.and_true, Option.some_or, Option.some.injEq]
    rw [hu]
    rfl
end Go.Proofs.YtmfkokjbjmahkaaDoor.Pure

/- Lines taken one by one; a text read: the package's. -/
namespace Go.Proofs.YtmfkokjbjmahkaaDoor.Pure
open Go Go.RowKit Go.Proofs.YtmfkokjbjmahkaaDoorW.PrintWords Go.Proofs.YtmfkokjbjmahkaaDoorW.PrintLast Go.Proofs.YtmfkokjbjmahkaaDoorW.PrintMore Go.Proofs.YtmfkokjbjmahkaaDoor.X Go.Proofs.YtmfkokjbjmahkaaDoor.Hand
set_option linter.unusedSimpArgs false
set_option linter.unusedVariables false
/-- What has been read. -/
structure Pst where
  line : Int
  whole : List Int
  frm : Int
  out : List Rw
  bad : List Dg
def Pst.rd (x : Pst) : RdSt := ⟨x.line, strOfNums x.whole, x.frm, x.out, x.bad⟩
def Pst.frm' (x : Pst) : Int := if x.frm = 0 then x.line + 1 else x.frm
def Pst.done (x : Pst) (p : List Int) : Pst := ⟨x.line + 1, [], 0, x.out ++ (rowV x.frm' (x.whole ++ p)).1, x.bad ++ (rowV x.frm' (x.whole ++ p)).2⟩
/-- A line is its sign, and blanks, alone; or nothing. -/
def bareP (p : List Int) : Prop := p = [] ∨ (ctlV p).2 = true ∧ (ctlV p).1 = []
instance (p : List Int) : Decidable (bareP p) := inferInstanceAs (Decidable (_ ∨ _))
def takeV (x : Pst) (s : List Int) : Pst :=
  if 0 ≤ cmtV s then (if x.frm = 0 ∧ bareP (s.take (cmtV s).toNat) then ⟨x.line + 1, x.whole, 0, x.out, x.bad⟩ else x.done (s.take (cmtV s).toNat))
  else if oddP s = true then ⟨x.line + 1, x.whole ++ s.take (s.length - 1), x.frm', x.out, x.bad⟩ else x.done s
end Go.Proofs.YtmfkokjbjmahkaaDoor.Pure

/- Lines without a backslash. -/
namespace Go.Proofs.YtmfkokjbjmahkaaDoor.Pure
open Go Go.RowKit Go.Proofs.YtmfkokjbjmahkaaDoorW.PrintWords Go.Proofs.YtmfkokjbjmahkaaDoorW.PrintLast Go.Proofs.YtmfkokjbjmahkaaDoorW.PrintMore Go.Proofs.YtmfkokjbjmahkaaDoor.X Go.Proofs.YtmfkokjbjmahkaaDoor.Hand
set_option linter.unusedSimpArgs false
set_option linter.unusedVariables false
end Go.Proofs.YtmfkokjbjmahkaaDoor.Pure

/- Texts without a backslash: a row a line; two texts, one behind the other. -/
namespace Go.Proofs.YtmfkokjbjmahkaaDoor.Pure
open Go Go.RowKit Go.Proofs.YtmfkokjbjmahkaaDoorW.PrintWords Go.Proofs.YtmfkokjbjmahkaaDoorW.PrintLast Go.Proofs.YtmfkokjbjmahkaaDoorW.PrintMore Go.Proofs.YtmfkokjbjmahkaaDoor.X Go.Proofs.YtmfkokjbjmahkaaDoor.Hand
set_option linter.unusedSimpArgs false
set_option linter.unusedVariables false
/-- Whether a text ends where a line might begin. -/
def openP (a : List Int) : Prop := a = [] ∨ a.getLast? = some 10
instance (a : List Int) : Decidable (openP a) := inferInstanceAs (Decidable (_ ∨ _))
/-- A row, so many lines below. -/
def upR (D : Int) (r : Rw) : Rw := ⟨r.f0 + D, r.f1, r.f2, r.f3⟩
theorem rowV_up (D f : Int) (s : List Int) : (rowV (f + D) s).1 = (rowV f s).1.map (upR D) := by
  unfold rowV
  split
  · split
    · rfl
    · rfl
  · rfl
/-- A text behind another one is read as it is read alone, so many lines below. -/
structure UpS (D : Int) (o : List Rw) (x y : Pst) : Prop where
  line : y.line = x.line + D
  whole : y.whole = x.whole
  frm : x.frm = 0 ∧ y.frm = 0 ∨ 0 < x.frm ∧ y.frm = x.frm + D
  out : y.out = o ++ x.out.map (upR D)
  pos : 0 ≤ x.line ∧ 0 ≤ D
theorem UpS.frm' {D : Int} {o : List Rw} {x y : Pst} (h : UpS D o x y) : 0 < x.frm' ∧ y.frm' = x.frm' + D := by
  have hp := h.pos
  unfold Pst.frm'
  rcases h.frm with ⟨h1, h2⟩ | ⟨h1, h2⟩
  · rw [if_pos h1, if_pos h2, h.line]
    omega
  · rw [if_neg (by omega), if_neg (by omega)]
    exact ⟨h1, h2⟩
theorem UpS.done {D : Int} {o : List Rw} {x y : Pst} (h : UpS D o x y) (p : List Int) : UpS D o (x.done p) (y.done p) := by
  obtain ⟨h1, h2⟩ := h.frm'
  refine ⟨by simp only [Pst.done, h.line]; omega, rfl, .inl ⟨rfl, rfl⟩, ?_, by have := h.pos; simp only [Pst.done]; omega⟩
  simp only [Pst.done]
  rw [h.out, h.whole, h2, rowV_up, List.map_append, List.append_assoc]
theorem UpS.take {D : Int} {o : List Rw} {x y : Pst} (h : UpS D o x y) (s : List Int) : UpS D o (takeV x s) (takeV y s) := by
  have hp := h.pos
  obtain ⟨h1, h2⟩ := h.frm'
  have h0 : x.frm = 0 ↔ y.frm = 0 := by have := h.frm; omega
  unfold takeV
  split
  · by_cases hb : x.frm = 0 ∧ bareP (s.take (cmtV s).toNat)
    · rw [if_pos hb, if_pos ⟨h0.1 hb.1, hb.2⟩]
      exact ⟨by simp only [h.line]; omega, h.whole, .inl ⟨rfl, rfl⟩, h.out, by simp only; omega⟩
    · rw [if_neg hb, if_neg (fun e => hb ⟨h0.2 e.1, e.2⟩)]
      exact h.done _
  · split
    · exact ⟨by simp only [h.line]; omega, by simp only [h.whole], .inr ⟨h1, h2⟩, h.out, by simp only; omega⟩
    · exact h.done _
theorem rowV_line (f : Int) (s : List Int) : ((rowV f s).1 = [] ∧ (rowV f s).2 = []) ∨ ∃ r, (rowV f s).1 = [r] ∧ r.f0 = f ∧ r.f2.length ≤ 200 ∧ ∀ d ∈ (rowV f s).2, d.f1 = f := by
  unfold rowV
  split
  · split
    · exact .inl ⟨rfl, rfl⟩
    · refine .inr ⟨_, rfl, rfl, ?_, ?_⟩
      · simp only
        split
        · rw [List.length_take]
          omega
        · rename_i h
          rw [List.length_map]
          omega
      · intro d hd
        simp only [List.mem_append] at hd
        rcases hd with hd | hd
        · split at hd
          · simp at hd
          · simp only [List.mem_singleton] at hd
            subst hd
            rfl
        · split at hd
          · simp only [List.mem_singleton] at hd
            subst hd
            rfl
          · simp at hd
  · exact .inr ⟨_, rfl, rfl, by simp, by simp⟩
/-- How many rows there may be, and how far below. -/
structure OkS (x : Pst) : Prop where
  frm : 0 ≤ x.frm ∧ x.frm ≤ x.line
  out : (x.out.length : Int) ≤ x.line
  row : ∀ r ∈ x.out, 0 < r.f0 ∧ r.f0 ≤ x.line ∧ r.f2.length ≤ 200
theorem rowV_rows (f : Int) (s : List Int) : (rowV f s).1.length ≤ 1 ∧ ∀ r ∈ (rowV f s).1, r.f0 = f ∧ r.f2.length ≤ 200 := by
  rcases rowV_line f s with ⟨h, _⟩ | ⟨r, h, h1, h2, _⟩
  · rw [h]
    simp
  · rw [h]
    simp [h1, h2]
theorem OkS.done {x : Pst} (h : OkS x) (p : List Int) : OkS (x.done p) := by
  obtain ⟨h1, h2⟩ := rowV_rows x.frm' (x.whole ++ p)
  have hf := h.frm
  have ho := h.out
  have hf' : 0 < x.frm' ∧ x.frm' ≤ x.line + 1 := by unfold Pst.frm'; split <;> omega
  refine ⟨by simp only [Pst.done]; omega, by simp only [Pst.done, List.length_append]; omega, fun r hr => ?_⟩
  simp only [Pst.done] at hr ⊢
  rcases List.mem_append.1 hr with hr | hr
  · have := h.row r hr
    omega
  · have := h2 r hr
    omega
theorem OkS.take {x : Pst} (h : OkS x) (s : List Int) : OkS (takeV x s) := by
  have hf := h.frm
  have ho := h.out
  have hf' : 0 < x.frm' ∧ x.frm' ≤ x.line + 1 := by unfold Pst.frm'; split <;> omega
  unfold takeV
  split
  · split
    · exact ⟨by simp only; omega, by simp only; omega, fun r hr => by have := h.row r hr; simp only; omega⟩
    · exact h.done _
  · split
    · exact ⟨by simp only; omega, by simp only; omega, fun r hr => by have := h.row r hr; simp only; omega⟩
    · exact h.done _
end Go.Proofs.YtmfkokjbjmahkaaDoor.Pure

/- A macro's line: its name, its arguments in quotation marks, read again. -/
namespace Go.Proofs.YtmfkokjbjmahkaaDoor.Pure
open Go Go.RowKit Go.Proofs.YtmfkokjbjmahkaaDoorW.PrintWords Go.Proofs.YtmfkokjbjmahkaaDoorW.PrintLast Go.Proofs.YtmfkokjbjmahkaaDoorW.PrintMore Go.Proofs.YtmfkokjbjmahkaaDoor.X Go.Proofs.YtmfkokjbjmahkaaDoor.Hand
set_option linter.unusedSimpArgs false
set_option linter.unusedVariables false
/-- Texts, quoted, each with a blank ahead. -/
def joinA (xs : List (List Int)) : List Int := xs.flatMap fun x => 32 :: quoB x
theorem joinA_nil : joinA [] = [] := rfl
theorem joinA_cons (x : List Int) (xs : List (List Int)) : joinA (x :: xs) = 32 :: 34 :: (twoB x ++ 34 :: joinA xs) := by
  unfold joinA
  rw [List.flatMap_cons, quoB_eq]
  simp
theorem joinA_snoc (xs : List (List Int)) (x : List Int) : joinA (xs ++ [x]) = joinA xs ++ 32 :: quoB x := by
  unfold joinA
  rw [List.flatMap_append]
  simp
/-- A name: no blank, no sign first. -/
structure NameP (nm : List Int) : Prop where
  ne : nm ≠ []
  bl : ∀ x ∈ nm, isBl x = false
  no : ∀ x ∈ nm, x ≠ 10 ∧ x ≠ 13 ∧ x ≠ 92 ∧ x ≠ 34
  sg : ∀ x t, nm = x :: t → x ≠ 46 ∧ x ≠ 39
end Go.Proofs.YtmfkokjbjmahkaaDoor.Pure

/- Check: whether a row may be written: the package's. -/
namespace Go.Proofs.YtmfkokjbjmahkaaDoor.Pure
open Go Go.RowKit Go.Proofs.YtmfkokjbjmahkaaDoorW.PrintWords Go.Proofs.YtmfkokjbjmahkaaDoorW.PrintLast Go.Proofs.YtmfkokjbjmahkaaDoorW.PrintMore Go.Proofs.YtmfkokjbjmahkaaDoor.X Go.Proofs.YtmfkokjbjmahkaaDoor.Hand
set_option linter.unusedSimpArgs false
set_option linter.unusedVariables false
theorem has_cons (x : UInt8) (l cs : List UInt8) : Lib.containsAny (x :: l) cs = (cs.contains x || Lib.containsAny l cs) := by
  have h := Lib.indexAny_ge cs l
  unfold Lib.containsAny
  rw [Lib.indexAny]
  cases cs.contains x with
  | true => rfl
  | false =>
    simp only [Bool.false_eq_true, if_false, Bool.false_or]
    by_cases e : Lib.indexAny l cs = -1
    · rw [e]
      rfl
    · rw [if_neg (by simpa using e), decide_eq_true (by omega), decide_eq_true (by omega)]
theorem has_one {x : Int} (hx : 0 ≤ x ∧ x ≤ 255) : ∀ cs : List Nat, (∀ c ∈ cs, c ≤ 255) → (cs.map UInt8.ofNat).contains (UInt8.ofNat x.toNat) = cs.any fun c => x == (c : Int)
  | [], _ => rfl
  | c :: cs, h => by
    rw [List.map_cons, List.contains_cons, u8_eq hx c (h c (by simp)), has_one hx cs (fun y hy => h y (by simp [hy])), List.any_cons]
theorem has_map (cs : List Nat) (hc : ∀ c ∈ cs, c ≤ 255) : ∀ {b : List Int}, Bytes b → Lib.containsAny (b.map fun n => UInt8.ofNat n.toNat) (cs.map UInt8.ofNat) = b.any fun x => cs.any fun c => x == (c : Int)
  | [], _ => rfl
  | x :: t, hb => by
    obtain ⟨hx, ht⟩ := bytes_cons hb
    rw [List.map_cons, has_cons, has_one hx cs hc, has_map cs hc ht, List.any_cons]
theorem has_str {b : List Int} (hb : Bytes b) (cs : List Nat) (hc : ∀ c ∈ cs, c ≤ 255) : Lib.containsAny (strOfNums b).data.toList (cs.map UInt8.ofNat) = b.any fun x => cs.any fun c => x == (c : Int) := by
  rw [data_str]
  exact has_map cs hc hb
theorem badT_str {b : List Int} (hb : Bytes b) : badT (strOfNums b) = b.any fun x => [10, 13, 92].any fun c : Nat => x == (c : Int) := has_str hb [10, 13, 92] (by decide)
theorem prefix_eq {b : List Int} (hb : Bytes b) (c : Nat) (hc : c ≤ 255) : stringslite_HasPrefix.f (strOfNums b) (⟨#[UInt8.ofNat c]⟩ : ByteArray) = some (decide (b.head? = some (c : Int))) := by
  have h1 : (⟨#[UInt8.ofNat c]⟩ : ByteArray).size = 1 := rfl
  unfold stringslite_HasPrefix.f
  cases b with
  | nil =>
    rw [h1, numsStr_size, if_neg (by simp)]
    rfl
  | cons x t =>
    obtain ⟨hx, ht⟩ := bytes_cons hb
    have hu := u8_eq hx c hc
    rw [h1, numsStr_size, List.length_cons, if_pos (by omega), if_pos (by omega), if_pos (by omega), str_take, str_toList]
    have e2 : (⟨#[UInt8.ofNat c]⟩ : ByteArray).toList = [UInt8.ofNat c] := by rw [ByteArray.toList_eq]
    rw [e2, List.head?_cons]
    congr 1
    show ([UInt8.ofNat x.toNat] == [UInt8.ofNat c]) = _
    simp only [List.cons_beq_cons, BEq.rfl, Bool.and_true, Option.some.injEq]
    rw [hu]
    rfl
/-- A text that may stand in a row. -/
structure TextP (t : List Int) : Prop where
  no : ∀ x ∈ t, x ≠ 10 ∧ x ≠ 92
  cr : t.getLast? ≠ some 13
  sg : t.head? ≠ some 46 ∧ t.head? ≠ some 39
/-- A row that may be written. -/
def CheckP (nm : List Int) (l : List ByteArray) (t : List Int) : Prop := nm = [] ∧ l = [] ∧ TextP t ∨ NameP nm ∧ t = [] ∧ l.length ≤ 200 ∧ ∀ s ∈ l, badT s = false
theorem ev_three {c1 c3 : Prop} [Decidable c1] [Decidable c3] {u : Bool} {f g h e : Nat → Option Int} {r : Int} (h1 : ¬ c1) (h2 : ¬ u = true) (h3 : c3) (hh : Ev h r) : Ev (fun k => if c1 then f k else (some u).bind fun t => if t = true then g k else if c3 then h k else e k) r := ev_neg h1 (Ev.bind (Ev.now _) (ev_neg h2 (ev_pos h3 hh)))
theorem check_ev {nm t : List Int} {l : List ByteArray} (n : Int) (hn : Bytes nm) (ht : Bytes t) (hnl : nm.length ≤ 140737488355328) (htl : t.length ≤ 1000000) (hl : ∀ s ∈ l, s.size ≤ 140737488355328) :
    ∃ r, Ev (fun k => lines_Check.f k n (strOfNums nm) l (strOfNums t)) r ∧ (r = 0 ∧ CheckP nm l t ∨ r = 2 ∧ ¬ CheckP nm l t) := by
  unfold lines_Check.f
  by_cases h0 : nm = []
  · subst h0
    have hnn : ¬ NameP [] := fun h => h.ne rfl
    have jt : ∀ k0 : Bool, k0 = true → Ev (fun k => lines_Check.j0 k k0 n (strOfNums []) l (strOfNums t)) 2 := fun k0 hk => Ev.step (f := fun _ => some 2) (fun k => by simp only [lines_Check.j0]; rw [if_pos hk]) (Ev.now _)
    have e1 : Lib.containsAny (strOfNums t).data.toList [10, 92] = t.any fun x => [10, 92].any fun c : Nat => x == (c : Int) := has_str ht [10, 92] (by decide)
    have hc : strings_ContainsAny.f (strOfNums t) (⟨#[10, 92]⟩ : ByteArray) = some (t.any fun x => [10, 92].any fun c : Nat => x == (c : Int)) := by
      unfold strings_ContainsAny.f
      rw [if_pos ⟨by decide, by decide, by rw [numsStr_size]; omega, by decide⟩, show (⟨#[10, 92]⟩ : ByteArray).data.toList = [10, 92] from rfl, e1]
    have hs : strings_HasSuffix.f (strOfNums t) (⟨#[13]⟩ : ByteArray) = some (decide (t.getLast? = some 13)) := by
      unfold strings_HasSuffix.f
      rw [show (⟨#[13]⟩ : ByteArray) = ⟨#[UInt8.ofNat 13]⟩ from rfl, suffix_eq ht htl 13 (by omega)]
      rfl
    have hp : strings_HasPrefix.f (strOfNums t) (⟨#[46]⟩ : ByteArray) = some (decide (t.head? = some 46)) := by
      unfold strings_HasPrefix.f
      rw [show (⟨#[46]⟩ : ByteArray) = ⟨#[UInt8.ofNat 46]⟩ from rfl, prefix_eq ht 46 (by omega)]
      rfl
    have hq : strings_HasPrefix.f (strOfNums t) (⟨#[39]⟩ : ByteArray) = some (decide (t.head? = some 39)) := by
      unfold strings_HasPrefix.f
      rw [show (⟨#[39]⟩ : ByteArray) = ⟨#[UInt8.ofNat 39]⟩ from rfl, prefix_eq ht 39 (by omega)]
      rfl
    simp only [hc, hs, hp, Option.bind_some]
    by_cases h1 : l = []
    · subst h1
      by_cases h2 : (t.any fun x => [10, 92].any fun c : Nat => x == (c : Int)) = true
      · refine ⟨2, ev_pos (str_nil.2 rfl) (ev_neg (by simp) (ev_pos h2 (jt _ rfl))), .inr ⟨rfl, ?_⟩⟩
        rintro (⟨_, _, h⟩ | ⟨h, _⟩)
        · obtain ⟨x, hx, hc⟩ := List.any_eq_true.1 h2
          have := h.no x hx
          simp at hc
          omega
        · exact hnn h
      have hno : ∀ x ∈ t, x ≠ 10 ∧ x ≠ 92 := fun x hx => by
        have := List.any_eq_false.1 (Bool.eq_false_iff.2 h2) x hx
        simp at this
        omega
      by_cases h3 : t.getLast? = some 13
      · refine ⟨2, ev_pos (str_nil.2 rfl) (ev_neg (by simp) (ev_neg h2 (ev_pos (decide_eq_true h3) (jt _ rfl)))), .inr ⟨rfl, ?_⟩⟩
        rintro (⟨_, _, h⟩ | ⟨h, _⟩)
        · exact h.cr h3
        · exact hnn h
      have h3' : ¬ (decide (t.getLast? = some 13) = true) := fun e => h3 (of_decide_eq_true e)
      by_cases h4 : t.head? = some 46
      · refine ⟨2, ev_pos (str_nil.2 rfl) (ev_neg (by simp) (ev_neg h2 (ev_neg h3' (jt _ (decide_eq_true h4))))), .inr ⟨rfl, ?_⟩⟩
        rintro (⟨_, _, h⟩ | ⟨h, _⟩)
        · exact h.sg.1 h4
        · exact hnn h
      have jf : ∀ {r : Int}, (if decide (t.head? = some 39) = true then some (2 : Int) else some 0) = some r → Ev (fun k => lines_Check.j0 k (decide (t.head? = some 46)) n (strOfNums []) [] (strOfNums t)) r := fun hr => Ev.step (f := fun _ => if decide (t.head? = some 39) = true then some (2 : Int) else some 0) (fun k => by
        simp only [lines_Check.j0, hq, Option.bind_some]
        rw [if_neg (fun e => h4 (of_decide_eq_true e))]) (ev_one hr)
      by_cases h5 : t.head? = some 39
      · refine ⟨2, ev_pos (str_nil.2 rfl) (ev_neg (by simp) (ev_neg h2 (ev_neg h3' (jf (if_pos (decide_eq_true h5)))))), .inr ⟨rfl, ?_⟩⟩
        rintro (⟨_, _, h⟩ | ⟨h, _⟩)
        · exact h.sg.2 h5
        · exact hnn h
      · exact ⟨0, ev_pos (str_nil.2 rfl) (ev_neg (by simp) (ev_neg h2 (ev_neg h3' (jf (if_neg (fun e => h5 (of_decide_eq_true e))))))), .inl ⟨rfl, .inl ⟨rfl, rfl, hno, h3, h4, h5⟩⟩⟩
    · refine ⟨2, ev_pos (str_nil.2 rfl) (ev_pos ?_ (jt _ rfl)), .inr ⟨rfl, ?_⟩⟩
      · have : 0 < l.length := List.length_pos_iff.2 h1
        omega
      · rintro (⟨_, h, _⟩ | ⟨h, _⟩)
        · exact h1 h
        · exact hnn h
  · have e1 : Lib.containsAny (strOfNums nm).data.toList [32, 9, 10, 13, 92, 34] = nm.any fun x => [32, 9, 10, 13, 92, 34].any fun c : Nat => x == (c : Int) := has_str hn [32, 9, 10, 13, 92, 34] (by decide)
    have hnt : ¬ (strOfNums nm).toList = [] := fun e => h0 (str_nil.1 e)
    have hc : strings_ContainsAny.f (strOfNums nm) (⟨#[32, 9, 10, 13, 92, 34]⟩ : ByteArray) = some (nm.any fun x => [32, 9, 10, 13, 92, 34].any fun c : Nat => x == (c : Int)) := by
      unfold strings_ContainsAny.f
      rw [if_pos ⟨by decide, by decide, by rw [numsStr_size]; omega, by decide⟩, show (⟨#[32, 9, 10, 13, 92, 34]⟩ : ByteArray).data.toList = [32, 9, 10, 13, 92, 34] from rfl, e1]
    rw [hc]
    by_cases h2 : (nm.any fun x => [32, 9, 10, 13, 92, 34].any fun c : Nat => x == (c : Int)) = true
    · refine ⟨2, ev_neg hnt (Ev.bind (Ev.now _) (ev_pos h2 (Ev.now _))), .inr ⟨rfl, ?_⟩⟩
      rintro (⟨h, _⟩ | ⟨h, _⟩)
      · exact h0 h
      · obtain ⟨x, hx, hc⟩ := List.any_eq_true.1 h2
        have h3 := h.no x hx
        have h4 := h.bl x hx
        unfold isBl at h4
        simp at hc h4
        omega
    · have h2' : (nm.any fun x => [32, 9, 10, 13, 92, 34].any fun c : Nat => x == (c : Int)) = false := by simpa using h2
      have hno : ∀ x ∈ nm, x ≠ 32 ∧ x ≠ 9 ∧ x ≠ 10 ∧ x ≠ 13 ∧ x ≠ 92 ∧ x ≠ 34 := fun x hx => by
        have := List.any_eq_false.1 h2' x hx
        simp at this
        omega
      obtain ⟨c, p, rfl⟩ : ∃ c p, nm = c :: p := by
        cases nm with
        | nil => exact absurd rfl h0
        | cons c p => exact ⟨c, p, rfl⟩
      have hh := bt_head hn
      have hsz : 0 < ((strOfNums (c :: p)).size : Int) := by rw [numsStr_size, List.length_cons]; omega
      rw [hh]
      by_cases h3 : c = 46
      · refine ⟨2, ev_three hnt h2 hsz (ev_pos h3 (Ev.now _)), .inr ⟨rfl, ?_⟩⟩
        rintro (⟨h, _⟩ | ⟨h, _⟩)
        · exact h0 h
        · exact (h.sg _ _ rfl).1 h3
      by_cases h4 : c = 39
      · refine ⟨2, ev_three hnt h2 hsz (ev_neg h3 (ev_pos h4 (Ev.now _))), .inr ⟨rfl, ?_⟩⟩
        rintro (⟨h, _⟩ | ⟨h, _⟩)
        · exact h0 h
        · exact (h.sg _ _ rfl).2 h4
      have hnm : NameP (c :: p) := ⟨h0, fun x hx => by have := hno x hx; unfold isBl; simp; omega, fun x hx => by have := hno x hx; omega, fun x q e => by
        obtain ⟨rfl, rfl⟩ := List.cons.inj e
        exact ⟨h3, h4⟩⟩
      by_cases h5 : t = []
      · by_cases h6 : (l.length : Int) > 200
        · refine ⟨2, ev_three hnt h2 hsz (ev_neg h3 (ev_neg h4 (ev_pos (str_nil.2 h5) (ev_pos h6 (Ev.now _))))), .inr ⟨rfl, ?_⟩⟩
          rintro (⟨h, _⟩ | ⟨_, _, h, _⟩)
          · exact h0 h
          · omega
        · have hb : has_bad.f l = some (l.any badT) := by
            unfold has_bad.f
            rw [if_pos (List.all_eq_true.2 fun s hs => decide_eq_true (hl s hs))]
          rw [hb]
          by_cases h7 : l.any badT = true
          · refine ⟨2, ev_three hnt h2 hsz (ev_neg h3 (ev_neg h4 (ev_pos (str_nil.2 h5) (ev_neg h6 (Ev.bind (Ev.now _) (ev_pos h7 (Ev.now _))))))), .inr ⟨rfl, ?_⟩⟩
            rintro (⟨h, _⟩ | ⟨_, _, _, h⟩)
            · exact h0 h
            · obtain ⟨s, hs, e⟩ := List.any_eq_true.1 h7
              rw [h s hs] at e
              cases e
          · refine ⟨0, ev_three hnt h2 hsz (ev_neg h3 (ev_neg h4 (ev_pos (str_nil.2 h5) (ev_neg h6 (Ev.bind (Ev.now _) (ev_neg h7 (Ev.now _))))))), .inl ⟨rfl, .inr ⟨hnm, h5, by omega, fun s hs => ?_⟩⟩⟩
            cases e : badT s with
            | false => rfl
            | true => exact absurd (List.any_eq_true.2 ⟨s, hs, e⟩) h7
      · refine ⟨2, ev_three hnt h2 hsz (ev_neg h3 (ev_neg h4 (ev_neg (fun e => h5 (str_nil.1 e)) (Ev.now _)))), .inr ⟨rfl, ?_⟩⟩
        rintro (⟨h, _⟩ | ⟨_, h, _⟩)
        · exact h0 h
        · exact h5 h
end Go.Proofs.YtmfkokjbjmahkaaDoor.Pure

/- How much there is of some rows; whether each may be written. -/
namespace Go.Proofs.YtmfkokjbjmahkaaDoor.Pure
open Go Go.RowKit Go.Proofs.YtmfkokjbjmahkaaDoorW.PrintWords Go.Proofs.YtmfkokjbjmahkaaDoorW.PrintLast Go.Proofs.YtmfkokjbjmahkaaDoorW.PrintMore Go.Proofs.YtmfkokjbjmahkaaDoor.X Go.Proofs.YtmfkokjbjmahkaaDoor.Hand
set_option linter.unusedSimpArgs false
set_option linter.unusedVariables false
theorem rdRow (l : List Rw) (i : Nat) (h : i < l.length) : rd_T35 l (i : Int) = l[i] := by
  simp [rd_T35, List.getD_eq_getElem?_getD, List.getElem?_eq_getElem h]
def argsLong (l : List ByteArray) : Nat := (l.map fun s => 3 + s.size).sum
def rowLong (x : Rw) : Nat := 2 + x.f1.size + x.f3.size + argsLong x.f2
def longL (l : List Rw) : Nat := (l.map rowLong).sum
theorem argsLong_take (l : List ByteArray) (i : Nat) : argsLong (l.take i) ≤ argsLong l := by
  have h : argsLong l = argsLong (l.take i) + argsLong (l.drop i) := by
    unfold argsLong
    rw [← List.sum_append, ← List.map_append, List.take_append_drop]
  omega
theorem argsLong_snoc (l : List ByteArray) (s : ByteArray) : argsLong (l ++ [s]) = argsLong l + (3 + s.size) := by simp [argsLong]
theorem longL_take (l : List Rw) (i : Nat) : longL (l.take i) ≤ longL l := by
  have h : longL l = longL (l.take i) + longL (l.drop i) := by
    unfold longL
    rw [← List.sum_append, ← List.map_append, List.take_append_drop]
  omega
theorem longL_snoc (l : List Rw) (x : Rw) : longL (l ++ [x]) = longL l + rowLong x := by simp [longL]
theorem longL_cons (x : Rw) (l : List Rw) : longL (x :: l) = rowLong x + longL l := by simp [longL]
theorem longL_mem : ∀ {l : List Rw} {x : Rw}, x ∈ l → rowLong x ≤ longL l
  | y :: l, x, h => by
    rw [longL_cons]
    rcases List.mem_cons.1 h with rfl | h
    · omega
    · have := longL_mem h
      omega
theorem argsLong_mem : ∀ {l : List ByteArray} {s : ByteArray}, s ∈ l → 3 + s.size ≤ argsLong l
  | y :: l, s, h => by
    simp only [argsLong, List.map_cons, List.sum_cons]
    rcases List.mem_cons.1 h with rfl | h
    · omega
    · have := argsLong_mem h
      unfold argsLong at this
      omega
theorem argsLong_len : ∀ l : List ByteArray, 3 * l.length ≤ argsLong l
  | [] => by simp [argsLong]
  | s :: l => by
    have := argsLong_len l
    simp only [argsLong, List.map_cons, List.sum_cons, List.length_cons] at this ⊢
    omega
theorem longL_len : ∀ l : List Rw, 2 * l.length ≤ longL l
  | [] => by simp [longL]
  | x :: l => by
    have := longL_len l
    rw [longL_cons, List.length_cons]
    unfold rowLong
    omega
theorem long_ev {l : List Rw} (hl : longL l ≤ 1000000000) : Ev (fun k => flongref05_Long.f k l) (longL l : Int) := by
  have hlen := longL_len l
  unfold flongref05_Long.f
  refine loop_up (σ := Nat) (fun k s i => flongref05_Long.l0 k l (s : Int) i) l.length (fun _ _ => (longL l : Int)) (fun s i => s = longL (l.take i)) ?_ ?_ 0 0 (by omega) (by simp [longL])
  · intro s hs
    rw [List.take_length] at hs
    subst hs
    refine Ev.step (f := fun _ => some ((longL l : Nat) : Int)) (fun k => ?_) (Ev.now _)
    simp only [flongref05_Long.l0]
    rw [if_neg (by omega)]
  · intro s i hi hs ih
    have hti := longL_take l (i + 1)
    rw [List.take_succ_eq_append_getElem hi, longL_snoc, ← hs] at hti
    have hx : rowLong l[i] = 2 + l[i].f1.size + l[i].f3.size + argsLong l[i].f2 := rfl
    have hal := argsLong_len l[i].f2
    refine Ev.step (f := fun k => flongref05_Long.l1 k l ((s + 2 + l[i].f1.size + l[i].f3.size : Nat) : Int) (i : Int) 0) (fun k => ?_) ?_
    · simp only [flongref05_Long.l0, rdRow l i hi]
      rw [if_pos (by omega), if_pos (by omega), wrap_of (x := (s : Int) + 2) (by omega) (by omega), wrap_of (x := (s : Int) + 2 + (l[i].f1.size : Int)) (by omega) (by omega), wrap_of (x := (s : Int) + 2 + (l[i].f1.size : Int) + (l[i].f3.size : Int)) (by omega) (by omega)]
      congr 1
    · refine loop_up (σ := Nat) (fun k u j => flongref05_Long.l1 k l (u : Int) (i : Int) j) l[i].f2.length (fun _ _ => (longL l : Int)) (fun u j => u = s + 2 + l[i].f1.size + l[i].f3.size + argsLong (l[i].f2.take j)) ?_ ?_ (s + 2 + l[i].f1.size + l[i].f3.size) 0 (by omega) (by simp [argsLong])
      · intro u hu
        rw [List.take_length] at hu
        refine Ev.step (f := fun k => flongref05_Long.l0 k l (u : Int) ((i + 1 : Nat) : Int)) (fun k => ?_) (ih u ?_)
        · simp only [flongref05_Long.l1, rdRow l i hi]
          rw [if_pos (by omega), if_pos (by omega), if_neg (by omega), wrap_up hi (by omega)]
        · rw [List.take_succ_eq_append_getElem hi, longL_snoc, ← hs, hx]
          omega
      · intro u j hj hu ih2
        have htj := argsLong_take l[i].f2 (j + 1)
        have hsn := argsLong_snoc (l[i].f2.take j) l[i].f2[j]
        rw [← List.take_succ_eq_append_getElem hj] at hsn
        have hrd : rdOf ByteArray.empty l[i].f2 (j : Int) = l[i].f2[j] := rdOf_at _ j hj
        refine Ev.step (f := fun k => flongref05_Long.l1 k l ((u + 3 + l[i].f2[j].size : Nat) : Int) (i : Int) ((j + 1 : Nat) : Int)) (fun k => ?_) (ih2 _ ?_)
        · simp only [flongref05_Long.l1, rdRow l i hi, hrd]
          rw [if_pos (by omega), if_pos (by omega), if_pos (by omega), if_pos (by omega), wrap_up hj (by omega), wrap_of (x := (u : Int) + 3) (by omega) (by omega), wrap_of (x := (u : Int) + 3 + (l[i].f2[j].size : Int)) (by omega) (by omega)]
          congr 1
        · omega
instance (nm : List Int) : Decidable (NameP nm) := decidable_of_iff (nm ≠ [] ∧ (∀ x ∈ nm, isBl x = false) ∧ (∀ x ∈ nm, x ≠ 10 ∧ x ≠ 13 ∧ x ≠ 92 ∧ x ≠ 34) ∧ nm.head? ≠ some 46 ∧ nm.head? ≠ some 39)
  ⟨fun ⟨h1, h2, h3, h4, h5⟩ => ⟨h1, h2, h3, fun x t e => by
    subst e
    exact ⟨fun e => h4 (by rw [e]; rfl), fun e => h5 (by rw [e]; rfl)⟩⟩,
   fun h => ⟨h.ne, h.bl, h.no, fun e => by
    cases nm with
    | nil => cases e
    | cons x t => exact (h.sg x t rfl).1 (Option.some.inj e), fun e => by
    cases nm with
    | nil => cases e
    | cons x t => exact (h.sg x t rfl).2 (Option.some.inj e)⟩⟩
instance (t : List Int) : Decidable (TextP t) := decidable_of_iff ((∀ x ∈ t, x ≠ 10 ∧ x ≠ 92) ∧ t.getLast? ≠ some 13 ∧ t.head? ≠ some 46 ∧ t.head? ≠ some 39)
  ⟨fun ⟨h1, h2, h3, h4⟩ => ⟨h1, h2, h3, h4⟩, fun h => ⟨h.no, h.cr, h.sg.1, h.sg.2⟩⟩
instance (nm : List Int) (l : List ByteArray) (t : List Int) : Decidable (CheckP nm l t) := inferInstanceAs (Decidable (_ ∨ _))
/-- A row that may be written. -/
def okR (x : Rw) : Bool := decide (CheckP (bytesOf x.f1) x.f2 (bytesOf x.f3))
theorem check_row {x : Rw} (h : rowLong x ≤ 1000000) : Ev (fun k => lines_Check.f k x.f0 x.f1 x.f2 x.f3) (if okR x = true then 0 else 2) := by
  have hx : rowLong x = 2 + x.f1.size + x.f3.size + argsLong x.f2 := rfl
  have h1 : (bytesOf x.f1).length = x.f1.size := by rw [← numsStr_size, str_of]
  have h3 : (bytesOf x.f3).length = x.f3.size := by rw [← numsStr_size, str_of]
  obtain ⟨r, hr, hc⟩ := check_ev (nm := bytesOf x.f1) (t := bytesOf x.f3) (l := x.f2) x.f0 (bytesOf_Bytes _) (bytesOf_Bytes _) (by omega) (by omega) (fun s hs => by have := argsLong_mem hs; omega)
  rw [str_of, str_of] at hr
  refine ev_eq hr ?_
  unfold okR
  rcases hc with ⟨rfl, hc⟩ | ⟨rfl, hc⟩
  · rw [if_pos (decide_eq_true hc)]
  · rw [if_neg (fun e => hc (of_decide_eq_true e))]
end Go.Proofs.YtmfkokjbjmahkaaDoor.Pure

/- Rows' lines, written: the package's; and read again. -/
namespace Go.Proofs.YtmfkokjbjmahkaaDoor.Pure
open Go Go.RowKit Go.Proofs.YtmfkokjbjmahkaaDoorW.PrintWords Go.Proofs.YtmfkokjbjmahkaaDoorW.PrintLast Go.Proofs.YtmfkokjbjmahkaaDoorW.PrintMore Go.Proofs.YtmfkokjbjmahkaaDoor.X Go.Proofs.YtmfkokjbjmahkaaDoor.Hand
set_option linter.unusedSimpArgs false
set_option linter.unusedVariables false
theorem bytesOf_len (s : ByteArray) : (bytesOf s).length = s.size := by rw [← numsStr_size, str_of]
/-- A row's line. -/
def dotB (m : List Int) : List Int := if m = [] then [] else 46 :: m
def lineB (x : Rw) : List Int := dotB (bytesOf x.f1) ++ joinA (x.f2.map bytesOf) ++ bytesOf x.f3
def textV (l : List Rw) : List Int := (l.filter okR).flatMap fun x => lineB x ++ [10]
theorem joinA_len (l : List ByteArray) : (joinA (l.map bytesOf)).length ≤ 2 * argsLong l := by
  induction l with
  | nil => simp [joinA_nil]
  | cons s l ih =>
    have h2 := twoB_length (bytesOf s)
    have h3 := bytesOf_len s
    rw [List.map_cons, joinA_cons]
    simp only [List.length_cons, List.length_append, argsLong, List.map_cons, List.sum_cons] at ih ⊢
    omega
theorem lineB_len (x : Rw) : (lineB x).length + 1 ≤ 2 * rowLong x := by
  have h1 := bytesOf_len x.f1
  have h3 := bytesOf_len x.f3
  have hj := joinA_len x.f2
  have hd : (dotB (bytesOf x.f1)).length ≤ x.f1.size + 1 := by
    unfold dotB
    split
    · simp
    · rw [List.length_cons]
      omega
  unfold lineB rowLong
  simp only [List.length_append]
  omega
theorem textV_cons (x : Rw) (l : List Rw) : textV (x :: l) = (if okR x = true then lineB x ++ [10] else []) ++ textV l := by
  unfold textV
  rw [List.filter_cons]
  split
  · rw [List.flatMap_cons]
  · rfl
theorem textV_len : ∀ l : List Rw, (textV l).length ≤ 2 * longL l
  | [] => by simp [textV]
  | x :: l => by
    have h1 := textV_len l
    have h2 := lineB_len x
    rw [textV_cons, List.length_append, longL_cons]
    split
    · rw [List.length_append, List.length_singleton]
      omega
    · simp
      omega
theorem argsW_eq : ∀ (l : List ByteArray) (s : List Int), s.length + 2 * argsLong l ≤ 1000000 → argsW (strOfNums s) l = some (strOfNums (s ++ joinA (l.map bytesOf)))
  | [], s, _ => by rw [argsW, List.map_nil, joinA_nil, List.append_nil]
  | y :: l, s, h => by
    have hy := bytesOf_len y
    have ha : argsLong (y :: l) = (3 + y.size) + argsLong l := by simp [argsLong]
    have hq := quoted_eq (bytesOf_Bytes y) (by omega)
    rw [str_of] at hq
    have h2 := twoB_length (bytesOf y)
    have hql : (quoB (bytesOf y)).length ≤ 2 * y.size + 2 := by
      rw [quoB_eq]
      simp
      omega
    rw [argsW, hq, Option.bind_some, if_pos (by rw [numsStr_size, numsStr_size]; omega), show (⟨#[32]⟩ : ByteArray) = strOfNums [32] from rfl, ← numsStr_append, ← numsStr_append, argsW_eq l _ (by simp only [List.length_append, List.length_cons, List.length_nil]; omega)]
    congr 2
    rw [List.map_cons, show joinA (bytesOf y :: l.map bytesOf) = (32 :: quoB (bytesOf y)) ++ joinA (l.map bytesOf) from rfl]
    simp
theorem rowW_eq {x : Rw} {s : List Int} (h : s.length + 2 * rowLong x ≤ 1000000) : rowW (strOfNums s) x = some (strOfNums (s ++ (lineB x ++ [10]))) := by
  have h1 := bytesOf_len x.f1
  have h3 := bytesOf_len x.f3
  have hj := joinA_len x.f2
  have hr : rowLong x = 2 + x.f1.size + x.f3.size + argsLong x.f2 := rfl
  have hd : dotW (strOfNums s) x.f1 = strOfNums (s ++ dotB (bytesOf x.f1)) := by
    unfold dotW dotB
    by_cases hm : bytesOf x.f1 = []
    · rw [if_pos hm, if_pos (by rw [← str_of x.f1]; exact str_nil.2 hm), List.append_nil]
    · rw [if_neg hm, if_neg (fun e => hm (by rw [← str_of x.f1] at e; exact str_nil.1 e))]
      conv => lhs; rw [← str_of x.f1]
      rw [show (⟨#[46]⟩ : ByteArray) = strOfNums [46] from rfl, ← numsStr_append, ← numsStr_append]
      rfl
  have hdl : (dotB (bytesOf x.f1)).length ≤ x.f1.size + 1 := by
    unfold dotB
    split
    · simp
    · rw [List.length_cons]
      omega
  unfold rowW
  rw [if_pos (by rw [numsStr_size]; omega), hd, argsW_eq _ _ (by rw [List.length_append]; omega), Option.bind_some, if_pos (by rw [numsStr_size, List.length_append, List.length_append]; omega)]
  congr 1
  conv => lhs; rw [← str_of x.f3]
  rw [show (⟨#[10]⟩ : ByteArray) = strOfNums [10] from rfl, ← numsStr_append, ← numsStr_append]
  unfold lineB
  simp
theorem writes_ev : ∀ (l : List Rw) (s : List Int), s.length + 2 * longL l ≤ 1000000 → Ev (fun k => lines_Write.l k (strOfNums s) l) (strOfNums (s ++ textV l))
  | [], s, _ => by
    rw [show textV [] = [] from rfl, List.append_nil]
    exact Ev.now _
  | x :: l, s, h => by
    rw [longL_cons] at h
    have hl := lineB_len x
    show Ev (fun k => (lines_Check.f k x.f0 x.f1 x.f2 x.f3).bind fun c => if c = 0 then (rowW (strOfNums s) x).bind fun u => lines_Write.l k u l else lines_Write.l k (strOfNums s) l) _
    refine Ev.bind (check_row (x := x) (by omega)) ?_
    rw [textV_cons]
    by_cases ho : okR x = true
    · rw [if_pos ho, if_pos ho]
      refine ev_pos rfl ?_
      rw [rowW_eq (by omega)]
      refine Ev.bind (Ev.now _) ?_
      have hw := writes_ev l (s ++ (lineB x ++ [10])) (by simp only [List.length_append, List.length_singleton]; omega)
      rw [List.append_assoc] at hw
      exact hw
    · rw [if_neg ho, if_neg ho, List.nil_append]
      exact ev_neg (by decide) (writes_ev l s (by omega))
theorem write_ev {l : List Rw} (h : longL l ≤ 100000) : Ev (fun k => lines_Write.f k l) (strOfNums (textV l)) := by
  show Ev (fun k => lines_Write.l k (strOfNums []) l) (strOfNums ([] ++ textV l))
  exact writes_ev l [] (by rw [List.length_nil]; omega)
theorem ok_of {x : Rw} (h : okR x = true) : CheckP (bytesOf x.f1) x.f2 (bytesOf x.f3) := of_decide_eq_true h
end Go.Proofs.YtmfkokjbjmahkaaDoor.Pure

/- Texts in quotation marks: the reference's. -/
namespace Go.Proofs.YtmfkokjbjmahkaaDoor.Pure
open Go Go.RowKit Go.Proofs.YtmfkokjbjmahkaaDoorW.PrintWords Go.Proofs.YtmfkokjbjmahkaaDoorW.PrintLast Go.Proofs.YtmfkokjbjmahkaaDoorW.PrintMore Go.Proofs.YtmfkokjbjmahkaaDoor.X Go.Proofs.YtmfkokjbjmahkaaDoor.Hand
set_option linter.unusedSimpArgs false
set_option linter.unusedVariables false
theorem rquoted_ev {b : List Int} (hb : Bytes b) (h : b.length ≤ 1000000) : Ev (fun k => flongref05_Quoted.f k (strOfNums b)) (strOfNums (quoB b)) := by
  unfold flongref05_Quoted.f
  refine ev_eq (loop_up (σ := List Int) (fun k a i => flongref05_Quoted.l0 k (strOfNums b) (strOfNums a) i) b.length (fun a i => strOfNums (a ++ twoB (b.drop i) ++ [34])) (fun a i => a.length ≤ 1 + 2 * i) ?_ ?_ [34] 0 (by omega) (by simp)) (by simp [quoB_eq])
  · intro a ha
    rw [List.drop_length, twoB_nil, List.append_nil]
    refine Ev.step (f := fun _ => some (strOfNums (a ++ [34]))) (fun k => ?_) (Ev.now _)
    simp only [flongref05_Quoted.l0]
    rw [numsStr_size, if_neg (by omega), if_pos (by rw [numsStr_size]; omega), numsStr_append]
    rfl
  · intro a i hi ha ih
    have hw1 := wrap_up hi (by omega)
    have hx1 : (strOfNums b).extract i (i + 1) = strOfNums [b[i]] := by
      rw [str_extract, List.take_succ_eq_append_getElem hi, List.drop_append_of_le_length (by rw [List.length_take]; omega), List.drop_eq_nil_of_le (by rw [List.length_take]; omega), List.nil_append]
    by_cases hq : b[i] = 34
    · refine Ev.step (f := fun k => flongref05_Quoted.l0 k (strOfNums b) (strOfNums (a ++ [34, 34])) ((i + 1 : Nat) : Int)) (fun k => ?_) (ev_eq (ih (a ++ [34, 34]) (by simp; omega)) ?_)
      · simp only [flongref05_Quoted.l0]
        rw [numsStr_size, if_pos (by omega), if_pos (by omega), hw1, if_pos (by omega), if_pos (by omega), Int.toNat_natCast, Int.toNat_natCast, hx1, hq, if_pos (by rw [numsStr_size, numsStr_size]; simp only [List.length_singleton]; omega), bt_str hb i hi, if_pos hq, ← numsStr_append, if_pos (by rw [numsStr_size]; simp; omega), show (⟨#[34]⟩ : ByteArray) = strOfNums [34] from rfl, ← numsStr_append, List.append_assoc]
        rfl
      · rw [List.drop_eq_getElem_cons hi, twoB_cons, if_pos hq]
        simp
    · refine Ev.step (f := fun k => flongref05_Quoted.l0 k (strOfNums b) (strOfNums (a ++ [b[i]])) ((i + 1 : Nat) : Int)) (fun k => ?_) (ev_eq (ih (a ++ [b[i]]) (by simp; omega)) ?_)
      · simp only [flongref05_Quoted.l0]
        rw [numsStr_size, if_pos (by omega), if_pos (by omega), hw1, if_pos (by omega), if_pos (by omega), Int.toNat_natCast, Int.toNat_natCast, hx1, if_pos (by rw [numsStr_size, numsStr_size]; simp only [List.length_singleton]; omega), bt_str hb i hi, if_neg hq, ← numsStr_append]
      · rw [List.drop_eq_getElem_cons hi, twoB_cons, if_neg hq]
        simp
end Go.Proofs.YtmfkokjbjmahkaaDoor.Pure

/- Rows that may be written; their lines: the reference's. -/
namespace Go.Proofs.YtmfkokjbjmahkaaDoor.Pure
open Go Go.RowKit Go.Proofs.YtmfkokjbjmahkaaDoorW.PrintWords Go.Proofs.YtmfkokjbjmahkaaDoorW.PrintLast Go.Proofs.YtmfkokjbjmahkaaDoorW.PrintMore Go.Proofs.YtmfkokjbjmahkaaDoor.X Go.Proofs.YtmfkokjbjmahkaaDoor.Hand
set_option linter.unusedSimpArgs false
set_option linter.unusedVariables false
def hasV (b cs : List Int) : Bool := b.any fun x => cs.any fun c => x == c
/-- One byte, among some. -/
theorem has1_ev {b cs : List Int} (hb : Bytes b) (hc : Bytes cs) (hbl : b.length ≤ 1000000) (hcl : cs.length ≤ 1000) (i : Nat) (hi : i < b.length) {res : Bool}
    (hit : (cs.any fun c => b[i] == c) = true → res = true) (next : (cs.any fun c => b[i] == c) = false → Ev (fun k => flongref05_has.l0 k (strOfNums b) (strOfNums cs) ((i + 1 : Nat) : Int)) res) :
    Ev (fun k => flongref05_has.l1 k (strOfNums b) (strOfNums cs) (i : Int) 0) res := by
  have hbt := bt_str hb i hi
  refine loop_up (σ := Unit) (fun k _ j => flongref05_has.l1 k (strOfNums b) (strOfNums cs) (i : Int) j) cs.length (fun _ _ => res) (fun _ j => (cs.take j).any (fun c => b[i] == c) = false) ?_ ?_ () 0 (by omega) (by simp)
  · intro _ hn
    rw [List.take_length] at hn
    refine Ev.step (f := fun k => flongref05_has.l0 k (strOfNums b) (strOfNums cs) ((i + 1 : Nat) : Int)) (fun k => ?_) (next hn)
    simp only [flongref05_has.l1]
    rw [numsStr_size cs, if_neg (by omega), wrap_up hi (by omega)]
  · intro _ j hj hn ih
    have hct := bt_str hc j hj
    have ht : (cs.take (j + 1)).any (fun c => b[i] == c) = (b[i] == cs[j]) := by
      rw [List.take_succ_eq_append_getElem hj, List.any_append, hn]
      simp
    by_cases e : b[i] = cs[j]
    · refine Ev.step (f := fun _ => some true) (fun k => ?_) (ev_eq (Ev.now _) (hit ?_).symm)
      · simp only [flongref05_has.l1]
        rw [numsStr_size, numsStr_size, if_pos (by omega), if_pos (by omega), if_pos (by omega), if_pos (by omega), hbt, hct, if_pos e]
      · exact List.any_eq_true.2 ⟨cs[j], List.getElem_mem hj, by rw [e]; exact beq_self_eq_true _⟩
    · refine Ev.step (f := fun k => flongref05_has.l1 k (strOfNums b) (strOfNums cs) (i : Int) ((j + 1 : Nat) : Int)) (fun k => ?_) (ih () ?_)
      · simp only [flongref05_has.l1]
        rw [numsStr_size, numsStr_size, if_pos (by omega), if_pos (by omega), if_pos (by omega), if_pos (by omega), hbt, hct, if_neg e, wrap_up hj (by omega)]
      · rw [ht]
        exact beq_eq_false_iff_ne.2 e
theorem has_ev {b cs : List Int} (hb : Bytes b) (hc : Bytes cs) (hbl : b.length ≤ 1000000) (hcl : cs.length ≤ 1000) : Ev (fun k => flongref05_has.f k (strOfNums b) (strOfNums cs)) (hasV b cs) := by
  unfold flongref05_has.f
  refine loop_up (σ := Unit) (fun k _ i => flongref05_has.l0 k (strOfNums b) (strOfNums cs) i) b.length (fun _ _ => hasV b cs) (fun _ i => hasV (b.take i) cs = false) ?_ ?_ () 0 (by omega) (by simp [hasV])
  · intro _ hn
    rw [List.take_length] at hn
    refine Ev.step (f := fun _ => some false) (fun k => ?_) (ev_eq (Ev.now _) hn.symm)
    simp only [flongref05_has.l0]
    rw [numsStr_size, if_neg (by omega)]
  · intro _ i hi hn ih
    refine Ev.step (f := fun k => flongref05_has.l1 k (strOfNums b) (strOfNums cs) (i : Int) 0) (fun k => ?_) (has1_ev hb hc hbl hcl i hi (fun h => ?_) (fun h => ih () ?_))
    · simp only [flongref05_has.l0]
      rw [numsStr_size, if_pos (by omega)]
    · exact List.any_eq_true.2 ⟨b[i], List.getElem_mem hi, h⟩
    · unfold hasV at hn ⊢
      rw [List.take_succ_eq_append_getElem hi, List.any_append, hn]
      simpa using h
def signV (b : List Int) : Bool := decide (b.head? = some 46 ∨ b.head? = some 39)
theorem sign_eq {b : List Int} (hb : Bytes b) : flongref05_sign.f (strOfNums b) = some (signV b) := by
  unfold flongref05_sign.f signV
  cases b with
  | nil =>
    rw [numsStr_size, if_neg (by simp)]
    rfl
  | cons x t =>
    have hh := bt_head hb
    rw [numsStr_size, List.length_cons, if_pos (by omega), if_pos (by omega), hh, List.head?_cons]
    by_cases h1 : x = 46
    · rw [if_pos h1, h1]
      rfl
    · rw [if_neg h1]
      congr 1
      by_cases h2 : x = 39
      · rw [h2]
        rfl
      · rw [decide_eq_false (by
          rintro (e | e)
          · exact h1 (Option.some.inj e)
          · exact h2 (Option.some.inj e))]
        exact beq_eq_false_iff_ne.2 h2
theorem rargs_bad {l : List ByteArray} {n : Int} {nm t : ByteArray} (hl : l.length ≤ 1000) (hs : ∀ s ∈ l, s.size ≤ 1000000) : Ev (fun k => flongref05_Check.l0 k 0 n nm l t) (if l.any badT = true then 2 else 0) := by
  refine loop_up (σ := Unit) (fun k _ i => flongref05_Check.l0 k i n nm l t) l.length (fun _ _ => if l.any badT = true then 2 else 0) (fun _ i => (l.take i).any badT = false) ?_ ?_ () 0 (by omega) (by simp)
  · intro _ hn
    rw [List.take_length] at hn
    refine Ev.step (f := fun _ => some 0) (fun k => ?_) (ev_eq (Ev.now _) ?_)
    · simp only [flongref05_Check.l0]
      rw [if_neg (by omega)]
    · rw [hn]
      rfl
  · intro _ i hi hn ih
    have hsz := hs _ (List.getElem_mem hi)
    have hh := has_ev (b := bytesOf l[i]) (cs := [10, 13, 92]) (bytesOf_Bytes _) (by intro x hx; simp at hx; omega) (by rw [bytesOf_len]; exact hsz) (by simp)
    rw [str_of] at hh
    have hv : hasV (bytesOf l[i]) [10, 13, 92] = badT l[i] := by
      conv => rhs; rw [← str_of l[i]]
      rw [badT_str (bytesOf_Bytes _)]
      rfl
    rw [hv] at hh
    refine Ev.step (f := fun k => (flongref05_has.f k l[i] (strOfNums [10, 13, 92])).bind fun t189 => if t189 = true then some 2 else flongref05_Check.l0 k ((i + 1 : Nat) : Int) n nm l t) (fun k => ?_) (Ev.bind hh ?_)
    · simp only [flongref05_Check.l0, rdOf_at l i hi]
      rw [if_pos (by omega), if_pos (by omega), wrap_up hi (by omega)]
      rfl
    · by_cases hb : badT l[i] = true
      · refine ev_pos hb (ev_eq (Ev.now _) ?_)
        rw [if_pos (List.any_eq_true.2 ⟨_, List.getElem_mem hi, hb⟩)]
      · refine ev_neg hb (ih () ?_)
        rw [List.take_succ_eq_append_getElem hi, List.any_append, hn]
        simpa using hb
theorem hasV_text (t : List Int) : hasV t [10, 92] = false ↔ ∀ x ∈ t, x ≠ 10 ∧ x ≠ 92 := by
  unfold hasV
  rw [List.any_eq_false]
  constructor
  · intro h x hx
    have := h x hx
    simp at this
    omega
  · intro h x hx
    have := h x hx
    simp
    omega
theorem hasV_name (t : List Int) : hasV t [32, 9, 10, 13, 92, 34] = false ↔ (∀ x ∈ t, isBl x = false) ∧ ∀ x ∈ t, x ≠ 10 ∧ x ≠ 13 ∧ x ≠ 92 ∧ x ≠ 34 := by
  unfold hasV
  rw [List.any_eq_false]
  constructor
  · intro h
    refine ⟨fun x hx => ?_, fun x hx => ?_⟩
    · have := h x hx
      unfold isBl
      simp at this ⊢
      omega
    · have := h x hx
      simp at this
      omega
  · rintro ⟨h1, h2⟩ x hx
    have a1 := h1 x hx
    have a2 := h2 x hx
    unfold isBl at a1
    simp at a1 ⊢
    omega
theorem rcheck_row {x : Rw} (h : rowLong x ≤ 1000000) : Ev (fun k => flongref05_Check.f k x.f0 x.f1 x.f2 x.f3) (if okR x = true then 0 else 2) := by
  have hx : rowLong x = 2 + x.f1.size + x.f3.size + argsLong x.f2 := rfl
  have h1 := bytesOf_len x.f1
  have h3 := bytesOf_len x.f3
  have hal := argsLong_len x.f2
  have key : ∀ nm t : List Int, Bytes nm → Bytes t → nm.length ≤ 1000000 → t.length ≤ 1000000 → Ev (fun k => flongref05_Check.f k x.f0 (strOfNums nm) x.f2 (strOfNums t)) (if decide (CheckP nm x.f2 t) = true then 0 else 2) := by
    intro nm t hn ht hnl htl
    have no : ∀ {c : Prop} [Decidable c], ¬ c → (if decide c = true then (0 : Int) else 2) = 2 := fun hc => if_neg (fun e => hc (of_decide_eq_true e))
    have yes : ∀ {c : Prop} [Decidable c], c → (if decide c = true then (0 : Int) else 2) = 0 := fun hc => if_pos (decide_eq_true hc)
    unfold flongref05_Check.f
    by_cases h0 : nm = []
    · have hnn : ¬ NameP nm := fun h => h.ne h0
      refine ev_pos (str_nil.2 h0) ?_
      by_cases hl : x.f2 = []
      · refine ev_neg (by rw [hl]; simp) ?_
        have hh := has_ev (b := t) (cs := [10, 92]) ht (by intro x hx; simp at hx; omega) htl (by simp)
        rw [show (⟨#[10, 92]⟩ : ByteArray) = strOfNums [10, 92] from rfl]
        refine Ev.bind hh ?_
        by_cases hv : hasV t [10, 92] = true
        · refine ev_pos hv (ev_eq (Ev.now _) (no ?_).symm)
          rintro (⟨_, _, h⟩ | ⟨h, _⟩)
          · rw [(hasV_text t).2 h.no] at hv
            cases hv
          · exact hnn h
        have hno := (hasV_text t).1 (by simpa using hv)
        refine ev_neg hv ?_
        rw [sign_eq ht]
        refine Ev.bind (Ev.now _) ?_
        by_cases hs : signV t = true
        · refine ev_pos hs (ev_eq (Ev.now _) (no ?_).symm)
          rintro (⟨_, _, h⟩ | ⟨h, _⟩)
          · rcases of_decide_eq_true hs with e | e
            · exact h.sg.1 e
            · exact h.sg.2 e
          · exact hnn h
        have hsg : t.head? ≠ some 46 ∧ t.head? ≠ some 39 := ⟨fun e => hs (decide_eq_true (.inl e)), fun e => hs (decide_eq_true (.inr e))⟩
        refine ev_neg hs ?_
        rcases List.eq_nil_or_concat t with e | ⟨p, y, e⟩
        · subst e
          refine ev_neg (by rw [numsStr_size]; simp) (ev_eq (Ev.now _) (yes ?_).symm)
          exact .inl ⟨h0, hl, hno, by simp, hsg⟩
        · rw [List.concat_eq_append] at e
          have htl2 : t.length = p.length + 1 := by rw [e]; simp
          have hw : wrap64 ((t.length : Int) - 1) = (p.length : Int) := by rw [wrap_of (by omega) (by omega)]; omega
          have hbt : bt (strOfNums t) (p.length : Int) = y := by
            rw [bt_str ht p.length (by omega)]
            subst e
            simp
          rw [numsStr_size, hw, hbt]
          refine ev_pos (by omega) (ev_pos (by omega) (ev_pos (by omega) ?_))
          have hlast : t.getLast? = some y := by rw [e, List.getLast?_concat]
          by_cases hy : y = 13
          · refine ev_pos hy (ev_eq (Ev.now _) (no ?_).symm)
            rintro (⟨_, _, h⟩ | ⟨h, _⟩)
            · exact h.cr (by rw [hlast, hy])
            · exact hnn h
          · refine ev_neg hy (ev_eq (Ev.now _) (yes ?_).symm)
            exact .inl ⟨h0, hl, hno, by rw [hlast]; intro e; exact hy (Option.some.inj e), hsg⟩
      · refine ev_pos (by have := List.length_pos_iff.2 hl; omega) (ev_eq (Ev.now _) (no ?_).symm)
        rintro (⟨_, h, _⟩ | ⟨h, _⟩)
        · exact hl h
        · exact hnn h
    · have hne : ¬ (nm = [] ∧ x.f2 = [] ∧ TextP t) := fun e => h0 e.1
      have jt : ∀ o : Bool, o = true → ¬ (NameP nm ∧ t = [] ∧ x.f2.length ≤ 200 ∧ ∀ s ∈ x.f2, badT s = false) → Ev (fun k => flongref05_Check.j0 k o x.f0 (strOfNums nm) x.f2 (strOfNums t)) (if decide (CheckP nm x.f2 t) = true then 0 else 2) := fun o ho hc => by
        rw [no (fun e => e.elim hne hc)]
        exact Ev.step (f := fun _ => some 2) (fun k => by simp only [flongref05_Check.j0]; rw [if_pos ho]) (Ev.now _)
      refine ev_neg (fun e => h0 (str_nil.1 e)) ?_
      have hh := has_ev (b := nm) (cs := [32, 9, 10, 13, 92, 34]) hn (by intro x hx; simp at hx; omega) hnl (by simp)
      rw [show (⟨#[32, 9, 10, 13, 92, 34]⟩ : ByteArray) = strOfNums [32, 9, 10, 13, 92, 34] from rfl]
      refine Ev.bind hh ?_
      by_cases hv : hasV nm [32, 9, 10, 13, 92, 34] = true
      · refine ev_pos hv (jt true rfl ?_)
        rintro ⟨h, _⟩
        rw [(hasV_name nm).2 ⟨h.bl, h.no⟩] at hv
        cases hv
      obtain ⟨hbl, hno⟩ := (hasV_name nm).1 (by simpa using hv)
      refine ev_neg hv ?_
      rw [sign_eq hn]
      refine Ev.bind (Ev.now _) ?_
      by_cases hs : signV nm = true
      · refine ev_pos hs (jt true rfl ?_)
        rintro ⟨h, _⟩
        rcases of_decide_eq_true hs with e | e
        · cases nm with
          | nil => cases e
          | cons c q => exact (h.sg c q rfl).1 (Option.some.inj e)
        · cases nm with
          | nil => cases e
          | cons c q => exact (h.sg c q rfl).2 (Option.some.inj e)
      refine ev_neg hs ?_
      have hN : NameP nm := ⟨h0, hbl, hno, fun c q e => by
        subst e
        exact ⟨fun e => hs (decide_eq_true (.inl (by rw [e]; rfl))), fun e => hs (decide_eq_true (.inr (by rw [e]; rfl)))⟩⟩
      by_cases h5 : t = []
      · refine ev_pos (str_nil.2 h5) ?_
        by_cases h6 : (x.f2.length : Int) > 200
        · exact jt _ (decide_eq_true h6) (fun e => by have := e.2.2.1; omega)
        · refine Ev.step (f := fun k => flongref05_Check.l0 k 0 x.f0 (strOfNums nm) x.f2 (strOfNums t)) (fun k => by simp only [flongref05_Check.j0]; rw [if_neg (by simpa using h6)]) ?_
          refine ev_eq (rargs_bad (by omega) (fun s hs => by have := argsLong_mem hs; omega)) ?_
          by_cases h7 : x.f2.any badT = true
          · rw [if_pos h7, no]
            rintro (e | ⟨_, _, _, e⟩)
            · exact hne e
            · obtain ⟨s, hs, hb⟩ := List.any_eq_true.1 h7
              rw [e s hs] at hb
              cases hb
          · rw [if_neg h7, yes]
            refine .inr ⟨hN, h5, by omega, fun s hs => ?_⟩
            cases e : badT s with
            | false => rfl
            | true => exact absurd (List.any_eq_true.2 ⟨s, hs, e⟩) h7
      · exact ev_neg (fun e => h5 (str_nil.1 e)) (jt true rfl (fun e => h5 e.2.1))
  have := key (bytesOf x.f1) (bytesOf x.f3) (bytesOf_Bytes _) (bytesOf_Bytes _) (by omega) (by omega)
  rw [str_of, str_of] at this
  exact this
end Go.Proofs.YtmfkokjbjmahkaaDoor.Pure

/- Rows' lines, written: the reference's. -/
namespace Go.Proofs.YtmfkokjbjmahkaaDoor.Pure
open Go Go.RowKit Go.Proofs.YtmfkokjbjmahkaaDoorW.PrintWords Go.Proofs.YtmfkokjbjmahkaaDoorW.PrintLast Go.Proofs.YtmfkokjbjmahkaaDoorW.PrintMore Go.Proofs.YtmfkokjbjmahkaaDoor.X Go.Proofs.YtmfkokjbjmahkaaDoor.Hand
set_option linter.unusedSimpArgs false
set_option linter.unusedVariables false
/-- A macro's arguments, and the line's end. -/
theorem rargsW {l : List Rw} {i : Nat} (hi : i < l.length) (hl : l.length ≤ 100000) {s0 : List Int} {res : ByteArray} (h : s0.length + 2 * argsLong l[i].f2 ≤ 900000) (hf3 : bytesOf l[i].f3 = [])
    (next : Ev (fun k => flongref05_Write.l0 k l (strOfNums (s0 ++ joinA (l[i].f2.map bytesOf) ++ [10])) ((i + 1 : Nat) : Int)) res) :
    Ev (fun k => flongref05_Write.l1 k l (strOfNums s0) (i : Int) 0) res := by
  have hal := argsLong_len l[i].f2
  refine loop_up (σ := List Int) (fun k s j => flongref05_Write.l1 k l (strOfNums s) (i : Int) j) l[i].f2.length (fun _ _ => res) (fun s j => s = s0 ++ joinA ((l[i].f2.take j).map bytesOf)) ?_ ?_ s0 0 (by omega) (by simp [joinA_nil])
  · intro s hs
    rw [List.take_length] at hs
    have hj := joinA_len l[i].f2
    have hsl : s.length ≤ 900000 := by rw [hs, List.length_append]; omega
    rw [← hs] at next
    refine Ev.step (f := fun k => flongref05_Write.l0 k l (strOfNums (s ++ [10])) ((i + 1 : Nat) : Int)) (fun k => ?_) next
    simp only [flongref05_Write.l1, rdRow l i hi]
    rw [if_pos (by omega), if_pos (by omega), if_neg (by omega), if_pos (by rw [numsStr_size]; omega), wrap_up hi (by omega), show (⟨#[10]⟩ : ByteArray) = strOfNums [10] from rfl, ← numsStr_append]
  · intro s j hj hs ih
    have hjl := joinA_len (l[i].f2.take j)
    have hat := argsLong_take l[i].f2 j
    have hsl : s.length ≤ 900000 := by rw [hs, List.length_append]; omega
    have hrd := rdOf_at l[i].f2 j hj
    have hsz := argsLong_mem (List.getElem_mem hj)
    have hb := bytesOf_len l[i].f2[j]
    have hq := rquoted_ev (bytesOf_Bytes l[i].f2[j]) (by omega)
    rw [str_of] at hq
    have h2 := twoB_length (bytesOf l[i].f2[j])
    have hql : (quoB (bytesOf l[i].f2[j])).length ≤ 2 * l[i].f2[j].size + 2 := by
      rw [quoB_eq]
      simp
      omega
    refine Ev.step (f := fun k => (flongref05_Quoted.f k l[i].f2[j]).bind fun t198 => (if (strOfNums (s ++ [32])).size + t198.size ≤ 9223372036854775807 then (flongref05_Write.l1 k l (strOfNums (s ++ [32]) ++ t198) (i : Int) ((j + 1 : Nat) : Int)) else none)) (fun k => ?_) (Ev.bind hq (ev_pos ?_ ?_))
    · simp only [flongref05_Write.l1, rdRow l i hi, hrd]
      rw [if_pos (by omega), if_pos (by omega), if_pos (by omega), if_pos (by rw [numsStr_size]; omega), if_pos (by omega), wrap_up hj (by omega), show (⟨#[32]⟩ : ByteArray) = strOfNums [32] from rfl, ← numsStr_append]
    · rw [numsStr_size, numsStr_size, List.length_append, List.length_singleton]
      omega
    · rw [← numsStr_append]
      refine ih _ ?_
      rw [hs, List.take_succ_eq_append_getElem hj, List.map_append, List.map_singleton, joinA_snoc]
      simp
theorem rwrite_ev {l : List Rw} (h : longL l ≤ 100000) : Ev (fun k => flongref05_Write.f k l) (strOfNums (textV l)) := by
  have hlen := longL_len l
  unfold flongref05_Write.f
  refine loop_up (σ := List Int) (fun k s i => flongref05_Write.l0 k l (strOfNums s) i) l.length (fun _ _ => strOfNums (textV l)) (fun s i => s = textV (l.take i)) ?_ ?_ [] 0 (by omega) rfl
  · intro s hs
    rw [List.take_length] at hs
    refine Ev.step (f := fun _ => some (strOfNums s)) (fun k => ?_) (ev_eq (Ev.now _) (by rw [hs]))
    simp only [flongref05_Write.l0]
    rw [if_neg (by omega)]
  · intro s i hi hs ih
    have hx := longL_mem (List.getElem_mem hi)
    have hr : rowLong l[i] = 2 + l[i].f1.size + l[i].f3.size + argsLong l[i].f2 := rfl
    have htl := textV_len (l.take i)
    have hlt := longL_take l i
    have hsl : s.length ≤ 200000 := by rw [hs]; omega
    have h1 := bytesOf_len l[i].f1
    have h3 := bytesOf_len l[i].f3
    have hnext : textV (l.take (i + 1)) = s ++ (if okR l[i] = true then lineB l[i] ++ [10] else []) := by
      rw [List.take_succ_eq_append_getElem hi, hs]
      unfold textV
      rw [List.filter_append, List.flatMap_append]
      congr 1
      rw [List.filter_cons]
      split <;> simp
    have hck := rcheck_row (x := l[i]) (by omega)
    by_cases ho : okR l[i] = true
    · rw [if_pos ho] at hck hnext
      have hP := ok_of ho
      by_cases hm : bytesOf l[i].f1 = []
      · have hmt : l[i].f1.toList = [] := by rw [← str_of l[i].f1]; exact str_nil.2 hm
        refine Ev.step (f := fun k => (flongref05_Check.f k l[i].f0 l[i].f1 l[i].f2 l[i].f3).bind fun t191 => (if t191 = 0 then (flongref05_Write.l0 k l (strOfNums (s ++ (lineB l[i] ++ [10]))) ((i + 1 : Nat) : Int)) else flongref05_Write.l0 k l (strOfNums s) ((i + 1 : Nat) : Int))) (fun k => ?_) (Ev.bind hck (ev_pos rfl (ih _ hnext.symm)))
        have hf2 : l[i].f2 = [] := by
          rcases hP with ⟨_, h, _⟩ | ⟨h, _⟩
          · exact h
          · exact absurd hm h.ne
        have hline : strOfNums (s ++ (lineB l[i] ++ [10])) = strOfNums s ++ l[i].f3 ++ (⟨#[10]⟩ : ByteArray) := by
          unfold lineB
          rw [hm, hf2, show dotB [] ++ joinA (([] : List ByteArray).map bytesOf) ++ bytesOf l[i].f3 = bytesOf l[i].f3 from rfl, numsStr_append, numsStr_append, str_of, ByteArray.append_assoc]
          rfl
        rw [hline]
        simp only [flongref05_Write.l0, rdRow l i hi]
        rw [if_pos (by omega), if_pos (by omega), if_pos hmt, if_pos (by rw [numsStr_size]; omega), if_pos (by rw [ByteArray.size_append, numsStr_size]; omega), wrap_up hi (by omega)]
      · have hmt : ¬ l[i].f1.toList = [] := fun e => hm (by rw [← str_of l[i].f1] at e; exact str_nil.1 e)
        have hf3 : bytesOf l[i].f3 = [] := by
          rcases hP with ⟨h, _⟩ | ⟨_, h, _⟩
          · exact absurd h hm
          · exact h
        refine Ev.step (f := fun k => (flongref05_Check.f k l[i].f0 l[i].f1 l[i].f2 l[i].f3).bind fun t191 => (if t191 = 0 then (flongref05_Write.l1 k l (strOfNums (s ++ 46 :: bytesOf l[i].f1)) (i : Int) 0) else flongref05_Write.l0 k l (strOfNums s) ((i + 1 : Nat) : Int))) (fun k => ?_) (Ev.bind hck (ev_pos rfl (rargsW (s0 := s ++ 46 :: bytesOf l[i].f1) hi (by omega) (by rw [List.length_append, List.length_cons]; omega) hf3 (ih _ ?_))))
        · have hs1 : strOfNums (s ++ 46 :: bytesOf l[i].f1) = strOfNums s ++ (⟨#[46]⟩ : ByteArray) ++ l[i].f1 := by
            rw [show s ++ 46 :: bytesOf l[i].f1 = s ++ [46] ++ bytesOf l[i].f1 from by simp, numsStr_append, numsStr_append, str_of]
            rfl
          rw [hs1]
          simp only [flongref05_Write.l0, rdRow l i hi]
          rw [if_pos (by omega), if_pos (by omega), if_neg hmt, if_pos (by rw [numsStr_size]; omega), if_pos (by rw [show (⟨#[46]⟩ : ByteArray) = strOfNums [46] from rfl, ← numsStr_append, numsStr_size, List.length_append, List.length_singleton]; omega), wrap_up hi (by omega)]
        · rw [hnext]
          unfold lineB dotB
          rw [if_neg hm, hf3]
          simp
    · rw [if_neg ho] at hck hnext
      rw [List.append_nil] at hnext
      refine Ev.step (f := fun k => (flongref05_Check.f k l[i].f0 l[i].f1 l[i].f2 l[i].f3).bind fun t191 => (if t191 = 0 then (if l[i].f1.toList = ([] : List UInt8) then (if (strOfNums s).size + l[i].f3.size ≤ 9223372036854775807 then (if (strOfNums s ++ l[i].f3).size + 1 ≤ 9223372036854775807 then (flongref05_Write.l0 k l ((strOfNums s ++ l[i].f3) ++ (⟨#[10]⟩ : ByteArray)) ((i + 1 : Nat) : Int)) else (none)) else (none)) else (if (strOfNums s).size + 1 ≤ 9223372036854775807 then (if (strOfNums s ++ (⟨#[46]⟩ : ByteArray)).size + l[i].f1.size ≤ 9223372036854775807 then (flongref05_Write.l1 k l ((strOfNums s ++ (⟨#[46]⟩ : ByteArray)) ++ l[i].f1) (i : Int) 0) else (none)) else (none))) else flongref05_Write.l0 k l (strOfNums s) ((i + 1 : Nat) : Int))) (fun k => ?_) (Ev.bind hck (ev_neg (by decide) (ih _ hnext.symm)))
      simp only [flongref05_Write.l0, rdRow l i hi]
      rw [if_pos (by omega), if_pos (by omega), wrap_up hi (by omega)]
end Go.Proofs.YtmfkokjbjmahkaaDoor.Pure

/- What the chapter's examples fix: computed. -/
namespace Go.Proofs.YtmfkokjbjmahkaaDoor.Pure
open Go.RowKit Go.Proofs.YtmfkokjbjmahkaaDoorW.PrintWords Go.Proofs.YtmfkokjbjmahkaaDoorW.PrintLast Go.Proofs.YtmfkokjbjmahkaaDoor.X
theorem known_ev : Ev (fun k => flonglaw05_known.f k) true := Ev.of (k := 30) flonglaw05_known.mono (by kernel_rfl)
end Go.Proofs.YtmfkokjbjmahkaaDoor.Pure
