/- Go's own reading of a text as runes, and of runes as a text, is the document's. -/
import Derived.Test.YtaoiogpgncjolaaDoorSpecU
import Derived.Test.YtaoiogpgncjolaaDoorHandConvR
import Derived.Lib.DecodeN
namespace Go.Proofs.YtaoiogpgncjolaaDoor.Pure
open Go Go.RowKit Go.Proofs.YtaoiogpgncjolaaDoorW.PrintWords Go.Proofs.YtaoiogpgncjolaaDoorW.PrintLast Go.Proofs.YtaoiogpgncjolaaDoorW.PrintMore Go.Proofs.YtaoiogpgncjolaaDoor.Hand
set_option linter.unusedSimpArgs false
set_option linter.unusedVariables false
set_option maxHeartbeats 4000000
def toI (r : Nat × Nat) : Int × Nat := ((r.1 : Int), r.2)
theorem validN (c : Nat) : validB (c : Int) = true ↔ c < 55296 ∨ (57344 ≤ c ∧ c ≤ 1114111) := by
  rw [validB_iff']
  omega
theorem contN (d : Nat) : cont (d : Int) = true ↔ d / 64 = 2 := by
  rw [cont_iff]
  omega
theorem first1 (b0 : Nat) (h0 : b0 < 256) (c1 c2 c3 : Nat) : firstRune [(b0 : Int)] = toI (Lib.decodeN 1 b0 c1 c2 c3) := by
  simp only [firstRune, Lib.decodeN, toI]
  repeat' split
  all_goals first | rfl | (exfalso; omega)
theorem first2 (b0 b1 : Nat) (h0 : b0 < 256) (h1 : b1 < 256) (c2 c3 : Nat) : firstRune [(b0 : Int), (b1 : Int)] = toI (Lib.decodeN 2 b0 b1 c2 c3) := by
  simp only [firstRune, Lib.decodeN, toI, contN]
  repeat' split
  all_goals first | rfl | (exfalso; omega) | (simp only [Prod.mk.injEq, and_true]; omega)
theorem first3 (b0 b1 b2 : Nat) (h0 : b0 < 256) (h1 : b1 < 256) (h2 : b2 < 256) (c3 : Nat) : firstRune [(b0 : Int), (b1 : Int), (b2 : Int)] = toI (Lib.decodeN 3 b0 b1 b2 c3) := by
  simp only [firstRune, Lib.decodeN, toI, contN, validB_iff']
  repeat' split
  all_goals first | rfl | (exfalso; omega) | (simp only [Prod.mk.injEq, and_true]; omega)
theorem first4 (b0 b1 b2 b3 : Nat) (h0 : b0 < 256) (h1 : b1 < 256) (h2 : b2 < 256) (h3 : b3 < 256) (t : List Int) : firstRune ((b0 : Int) :: (b1 : Int) :: (b2 : Int) :: (b3 : Int) :: t) = toI (Lib.decodeN (t.length + 4) b0 b1 b2 b3) := by
  simp only [firstRune, Lib.decodeN, toI, contN, validB_iff']
  repeat' split
  all_goals first | rfl | (exfalso; omega) | (simp only [Prod.mk.injEq, and_true]; omega)
theorem get_bytes (s : ByteArray) (i : Nat) : ((s.get! i).toNat : Int) = (bytesOf s).getD i 0 := by
  unfold bytesOf
  rw [List.getD_eq_getElem?_getD, List.getElem?_map, Array.getElem?_toList]
  show ((s.data.getD i default).toNat : Int) = _
  rw [Array.getD_eq_getD_getElem?]
  cases s.data[i]? <;> rfl
theorem first_go (s : ByteArray) (i : Nat) (h : i < s.size) : firstRune ((bytesOf s).drop i) = toI (Utf8.decode s i) := by
  rw [Lib.decode_at]
  have hlen := bytesOf_length s
  have hg := fun k => get_bytes s (i + k)
  have e : ∀ k, (bytesOf s).getD (i + k) 0 = ((bytesOf s).drop i).getD k 0 := fun k => by rw [List.getD_eq_getElem?_getD, List.getD_eq_getElem?_getD, List.getElem?_drop]
  have hsz : s.size - i = ((bytesOf s).drop i).length := by rw [List.length_drop, hlen]
  have g0 := (hg 0).trans (e 0)
  have g1 := (hg 1).trans (e 1)
  have g2 := (hg 2).trans (e 2)
  have g3 := (hg 3).trans (e 3)
  have l0 := (s.get! (i + 0)).toNat_lt
  have l1 := (s.get! (i + 1)).toNat_lt
  have l2 := (s.get! (i + 2)).toNat_lt
  have l3 := (s.get! (i + 3)).toNat_lt
  rw [hsz]
  have hpos : 0 < ((bytesOf s).drop i).length := by omega
  rw [Nat.add_zero] at g0 l0
  revert g0 g1 g2 g3 hpos
  generalize (bytesOf s).drop i = l
  intro g0 g1 g2 g3 hpos
  match l, hpos with
  | [a], _ =>
    obtain rfl : ((s.get! i).toNat : Int) = a := g0
    exact first1 _ l0 _ _ _
  | [a, b], _ =>
    obtain rfl : ((s.get! i).toNat : Int) = a := g0
    obtain rfl : ((s.get! (i + 1)).toNat : Int) = b := g1
    exact first2 _ _ l0 l1 _ _
  | [a, b, c], _ =>
    obtain rfl : ((s.get! i).toNat : Int) = a := g0
    obtain rfl : ((s.get! (i + 1)).toNat : Int) = b := g1
    obtain rfl : ((s.get! (i + 2)).toNat : Int) = c := g2
    exact first3 _ _ _ l0 l1 l2 _
  | a :: b :: c :: d :: t, _ =>
    obtain rfl : ((s.get! i).toNat : Int) = a := g0
    obtain rfl : ((s.get! (i + 1)).toNat : Int) = b := g1
    obtain rfl : ((s.get! (i + 2)).toNat : Int) = c := g2
    obtain rfl : ((s.get! (i + 3)).toNat : Int) = d := g3
    exact first4 _ _ _ _ l0 l1 l2 l3 t
theorem goBytes (s : ByteArray) : Bytes (bytesOf s) := fun x hx => by
  unfold bytesOf at hx
  obtain ⟨u, _, rfl⟩ := List.mem_map.1 hx
  have := u.toNat_lt
  omega
theorem goRunes_eq (s : ByteArray) : ∀ (b i : Nat), s.size ≤ i + b → goRunesN s b i = decode ((bytesOf s).drop i)
  | 0, i, h => by
    rw [List.drop_eq_nil_of_le (by rw [bytesOf_length]; omega)]
    rfl
  | b + 1, i, h => by
    unfold goRunesN
    split
    · rename_i hi
      have hne : (bytesOf s).drop i ≠ [] := by
        intro e
        have := congrArg List.length e
        rw [List.length_drop, bytesOf_length] at this
        simp at this
        omega
      have hf := first_go s i hi
      have hp := first_len ((bytesOf s).drop i)
      rw [decode_cons (bytes_drop (goBytes s) i) hne, hf, List.drop_drop]
      rw [hf] at hp
      rw [goRunes_eq s b (i + (Utf8.decode s i).2) (by have := hp.1; simp only [toI] at this; omega)]
      rfl
    · rw [List.drop_eq_nil_of_le (by rw [bytesOf_length]; omega)]
      rfl
theorem valid_go (r : Int) : Utf8.valid r = validB r := by
  rw [Bool.eq_iff_iff, validB_iff']
  simp only [Utf8.valid, Bool.or_eq_true, Bool.and_eq_true, decide_eq_true_eq]
  omega
theorem encode_go (r : Int) : Utf8.encode r = strOfNums (one r) := by
  unfold Utf8.encode one enc
  rw [valid_go]
  have key : ∀ c : Nat, (if c < 0x80 then (⟨#[UInt8.ofNat c]⟩ : ByteArray)
      else if c < 0x800 then ⟨#[UInt8.ofNat (0xC0 + c / 64), UInt8.ofNat (0x80 + c % 64)]⟩
      else if c < 0x10000 then ⟨#[UInt8.ofNat (0xE0 + c / 4096), UInt8.ofNat (0x80 + c / 64 % 64), UInt8.ofNat (0x80 + c % 64)]⟩
      else ⟨#[UInt8.ofNat (0xF0 + c / 262144), UInt8.ofNat (0x80 + c / 4096 % 64), UInt8.ofNat (0x80 + c / 64 % 64), UInt8.ofNat (0x80 + c % 64)]⟩)
      = strOfNums (enc (c : Int)) := by
    intro c
    unfold enc
    by_cases h1 : c < 128
    · rw [if_pos h1, if_pos (show (c : Int) < 128 by omega)]
      rfl
    · rw [if_neg h1, if_neg (show ¬ (c : Int) < 128 by omega)]
      by_cases h2 : c < 2048
      · rw [if_pos h2, if_pos (show (c : Int) < 2048 by omega)]
        apply ByteArray.ext
        apply Array.ext'
        rw [strOfNums_data]
        simp only [List.map_cons, List.map_nil]
        rw [show ((192 : Int) + (c : Int) / 64).toNat = 192 + c / 64 by omega, show ((128 : Int) + (c : Int) % 64).toNat = 128 + c % 64 by omega]
      · rw [if_neg h2, if_neg (show ¬ (c : Int) < 2048 by omega)]
        by_cases h3 : c < 65536
        · rw [if_pos h3, if_pos (show (c : Int) < 65536 by omega)]
          apply ByteArray.ext
          apply Array.ext'
          rw [strOfNums_data]
          simp only [List.map_cons, List.map_nil]
          rw [show ((224 : Int) + (c : Int) / 4096).toNat = 224 + c / 4096 by omega, show ((128 : Int) + (c : Int) / 64 % 64).toNat = 128 + c / 64 % 64 by omega, show ((128 : Int) + (c : Int) % 64).toNat = 128 + c % 64 by omega]
        · rw [if_neg h3, if_neg (show ¬ (c : Int) < 65536 by omega)]
          apply ByteArray.ext
          apply Array.ext'
          rw [strOfNums_data]
          simp only [List.map_cons, List.map_nil]
          rw [show ((240 : Int) + (c : Int) / 262144).toNat = 240 + c / 262144 by omega, show ((128 : Int) + (c : Int) / 4096 % 64).toNat = 128 + c / 4096 % 64 by omega, show ((128 : Int) + (c : Int) / 64 % 64).toNat = 128 + c / 64 % 64 by omega, show ((128 : Int) + (c : Int) % 64).toNat = 128 + c % 64 by omega]
  by_cases hv : validB r = true
  · have hr := ((validB_iff' r).1 hv).1
    obtain ⟨c, rfl⟩ := Int.eq_ofNat_of_zero_le hr
    rw [if_pos hv, if_pos hv]
    exact key c
  · rw [if_neg hv, if_neg hv]
    exact key 65533
theorem runesBytes_eq (xs : List Int) : runesBytes xs = strOfNums (encode xs) := by
  have h : ∀ (xs : List Int) (r : List Int), xs.foldl (fun r n => r ++ Utf8.encode n) (strOfNums r) = strOfNums (r ++ encode xs) := by
    intro xs
    induction xs with
    | nil => intro r; rw [List.foldl_nil, encode_nil, List.append_nil]
    | cons x t ih =>
      intro r
      have e : strOfNums r ++ Utf8.encode x = strOfNums (r ++ one x) := by
        rw [encode_go]
        apply ByteArray.ext
        apply Array.ext'
        rw [ByteArray.data_append, Array.toList_append, strOfNums_data, strOfNums_data, strOfNums_data, List.map_append]
      rw [List.foldl_cons, e, ih, encode_cons, List.append_assoc]
  exact h xs []
end Go.Proofs.YtaoiogpgncjolaaDoor.Pure
