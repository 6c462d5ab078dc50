/- HandI: several of this session's texts in one. -/
import Derived.Shelf.RegionOpen
import Derived.WalkKit
import Derived.Lib.Strings
import Derived.Lib.Slices
import Derived.Lib.Walk
import Derived.Lib.Bytealg
import Derived.Lib.Split
import Derived.Deep.OwnRows
import Derived.Deep.LoopGhost
import Derived.Shelf.Abstract
import Derived.Test.YtmeinakeiefcdaaDoorX0
/- strings.Split at one line feed, walked by hand: the library's own text. -/
namespace Go.Proofs.YtmeinakeiefcdaaDoor.Hand
open Go Go.RowKit Go.Shelf Go.Proofs.YtmeinakeiefcdaaDoorW.PrintWords Go.Proofs.YtmeinakeiefcdaaDoorW.PrintLast Go.Proofs.YtmeinakeiefcdaaDoorW.PrintMore Go.Proofs.YtmeinakeiefcdaaDoor.X
set_option linter.unusedVariables false
set_option linter.unusedSimpArgs false
set_option maxHeartbeats 4000000 in
set_option maxRecDepth 100000 in
theorem lite_IndexByte (s : ByteArray) (c : Int) (w : World) :
    Calls Tryd.prog 94 #[.string s, .int .u8 c] w fun e w' => e = .returned (.int .i64 (Lib.indexByte s.data.toList c.toNat.toUInt8)) ∧ w' = w := by
  go_enter Tryd.func94, Tryd.ntmps94
  go_wp2
  rw [run_callFunc_extern (show Tryd.prog.funcs[98]? = some Tryd.f98 from Tryd.func98) (by kernel_rfl) (by kernel_rfl) (by kernel_rfl) (e := Extern.BytealgIndexByte.indexByte) (by kernel_rfl), Lib.run_indexByteString]
  simp only [Result.andThen]
  rw [Oper.upon_value]
  go_wp2
  go_ret
  exact ⟨rfl, rfl⟩
set_option maxHeartbeats 4000000 in
set_option maxRecDepth 100000 in
theorem lite_Index (s : ByteArray) (w : World) :
    Calls Tryd.prog 92 #[.string s, .string ⟨#[10]⟩] w fun e w' => e = .returned (.int .i64 (Lib.indexByte s.data.toList 10)) ∧ w' = w := by
  have h1 : (⟨#[10]⟩ : ByteArray).size = 1 := rfl
  go_enter Tryd.func92, Tryd.ntmps92
  go_wp2_with (go_at_call 94; refine (lite_IndexByte _ _ _).mono ?_; rintro e w' ⟨rfl, rfl⟩)
  all_goals go_ret
  · have h2 : ([10] == s.toList) = true := by assumption
    have h3 : s.data.toList = [10] := by rw [← ByteArray.toList_eq]; exact (eq_of_beq h2).symm
    exact ⟨by rw [h3]; rfl, rfl⟩
  · exact ⟨rfl, rfl⟩
set_option maxHeartbeats 4000000 in
set_option maxRecDepth 100000 in
theorem str_Index (s : ByteArray) (w : World) :
    Calls Tryd.prog 83 #[.string s, .string ⟨#[10]⟩] w fun e w' => e = .returned (.int .i64 (Lib.indexByte s.data.toList 10)) ∧ w' = w := by
  go_enter Tryd.func83, Tryd.ntmps83
  go_wp2_with (go_at_call 92; refine (lite_Index _ _).mono ?_; rintro e w' ⟨rfl, rfl⟩)
  go_ret
  exact ⟨rfl, rfl⟩
/-- A text's pieces, at line feeds. -/
def nextLf (s : ByteArray) : Int := Lib.indexByte s.data.toList 10
def piecesN : Nat → ByteArray → List ByteArray
  | 0, s => [s]
  | n + 1, s => if nextLf s < 0 then [s] else s.extract 0 (nextLf s).toNat :: piecesN n (s.extract ((nextLf s).toNat + 1) s.size)
def pieces (s : ByteArray) : List ByteArray := piecesN s.size s
theorem nextLf_lt (s : ByteArray) : nextLf s < s.size ∨ nextLf s < 0 := by
  unfold nextLf
  have h : ∀ l : List UInt8, Lib.indexByte l 10 < l.length ∨ Lib.indexByte l 10 < 0 := by
    intro l
    induction l with
    | nil => exact .inr (by decide)
    | cons b l ih =>
      unfold Lib.indexByte
      split
      · exact .inl (by simp)
      · split
        · exact .inr (by decide)
        · rename_i h
          have h2 := Lib.indexByte_ge l 10
          simp only [beq_iff_eq] at h
          simp only [List.length_cons]
          omega
  have := h s.data.toList
  simpa using this
theorem piecesN_enough : ∀ (n m : Nat) (s : ByteArray), s.size ≤ n → s.size ≤ m → piecesN n s = piecesN m s
  | 0, 0, _, _, _ => rfl
  | 0, m + 1, s, h, _ => by
    have := nextLf_lt s
    rw [piecesN, piecesN, if_pos (by omega)]
  | n + 1, 0, s, _, h => by
    have := nextLf_lt s
    rw [piecesN, piecesN, if_pos (by omega)]
  | n + 1, m + 1, s, h1, h2 => by
    rw [piecesN, piecesN]
    split
    · rfl
    · rename_i h
      have := nextLf_lt s
      rw [piecesN_enough n m _ (by rw [ByteArray.size_extract]; omega) (by rw [ByteArray.size_extract]; omega)]
theorem pieces_end {s : ByteArray} (h : nextLf s < 0) : pieces s = [s] := by
  unfold pieces
  cases hs : s.size with
  | zero => rfl
  | succ n => rw [piecesN, if_pos h]
theorem pieces_more {s : ByteArray} (h : 0 ≤ nextLf s) : pieces s = s.extract 0 (nextLf s).toNat :: pieces (s.extract ((nextLf s).toNat + 1) s.size) := by
  have h2 := nextLf_lt s
  unfold pieces
  cases hs : s.size with
  | zero => omega
  | succ n =>
    rw [piecesN, if_neg (by omega), ← hs, piecesN_enough n _ (s.extract ((nextLf s).toNat + 1) s.size) (by rw [ByteArray.size_extract]; omega) (Nat.le_refl _)]
/-- How many line feeds. -/
def lfN (s : ByteArray) : Nat := Lib.countByte s.data.toList 10
theorem idx_count : ∀ l : List UInt8, (Lib.indexByte l 10 < 0 → l.count 10 = 0) ∧ (0 ≤ Lib.indexByte l 10 → l.count 10 = (l.drop ((Lib.indexByte l 10).toNat + 1)).count 10 + 1)
  | [] => ⟨fun _ => rfl, fun h => by simp [Lib.indexByte] at h⟩
  | b :: l => by
    obtain ⟨h1, h2⟩ := idx_count l
    unfold Lib.indexByte
    by_cases hb : b = 10
    · subst hb
      simp
    · have hb' : (b == 10) = false := by simpa using hb
      rw [hb', if_neg (by simp)]
      by_cases hm : Lib.indexByte l 10 = -1
      · rw [if_pos (by simpa using hm), List.count_cons, if_neg (by simpa using hb'), h1 (by omega)]
        exact ⟨fun _ => rfl, fun h => absurd h (by decide)⟩
      · rw [if_neg (by simpa using hm)]
        have hge := Lib.indexByte_ge l 10
        refine ⟨fun h => by omega, fun h => ?_⟩
        rw [List.count_cons, if_neg (by simpa using hb'), h2 (by omega), show (Lib.indexByte l 10 + 1).toNat = (Lib.indexByte l 10).toNat + 1 by omega, List.drop_succ_cons]
theorem lfN_end {s : ByteArray} (h : nextLf s < 0) : lfN s = 0 := (idx_count s.data.toList).1 h
theorem lfN_more {s : ByteArray} (h : 0 ≤ nextLf s) : lfN s = lfN (s.extract ((nextLf s).toNat + 1) s.size) + 1 := by
  have h1 := (idx_count s.data.toList).2 h
  unfold lfN Lib.countByte
  rw [h1, ByteArray.data_extract, Array.toList_extract, List.extract_eq_take_drop]
  congr 2
  rw [List.take_of_length_le (by rw [List.length_drop, Array.length_toList]; exact Nat.le_refl _)]
  rfl
theorem lfN_le (s : ByteArray) : lfN s ≤ s.size := by
  unfold lfN Lib.countByte
  have := List.count_le_length (a := (10 : UInt8)) (l := s.data.toList)
  simpa using this
theorem pieces_length : ∀ (n : Nat) (s : ByteArray), s.size ≤ n → (pieces s).length = lfN s + 1
  | n, s, hn => by
    by_cases h : nextLf s < 0
    · rw [pieces_end h, lfN_end h]
      rfl
    · have hlt := nextLf_lt s
      cases n with
      | zero => omega
      | succ n => rw [pieces_more (by omega), List.length_cons, pieces_length n _ (by rw [ByteArray.size_extract]; omega), lfN_more (s := s) (by omega)]
set_option maxHeartbeats 4000000 in
set_option maxRecDepth 100000 in
theorem str_Count (s : ByteArray) (w : World) :
    Calls Tryd.prog 82 #[.string s, .string ⟨#[10]⟩] w fun e w' => e = .returned (.int .i64 (lfN s)) ∧ w' = w := by
  go_enter Tryd.func82, Tryd.ntmps82
  go_wp2
  rw [run_callFunc_extern (show Tryd.prog.funcs[91]? = some Tryd.f91 from Tryd.func91) (by kernel_rfl) (by kernel_rfl) (by kernel_rfl) (e := Extern.BytealgCount.count) (by kernel_rfl), Lib.run_countString]
  simp only [Result.andThen]
  rw [Oper.upon_value]
  go_wp2
  go_ret
  exact ⟨rfl, rfl⟩
set_option maxHeartbeats 8000000 in
set_option maxRecDepth 1000000 in
theorem gen_Split (s : ByteArray) (w : World) (hs : s.size ≤ 1000000000) :
    Calls Tryd.prog 67 #[.string s, .string ⟨#[10]⟩, .int .i64 0, .int .i64 (-1)] w fun e w' =>
      e = .returned (.slice (some ⟨w.heap.size, 0, none⟩) (pieces s).length (pieces s).length) ∧ w' = w.alloc (.cells (Lib.cellsOf (pieces s) (pieces s).length) 9) := by
  have hC := str_Count s w
  have hcl := lfN_le s
  have hpl := pieces_length s.size s (Nat.le_refl _)
  obtain ⟨cn, hcn⟩ : ∃ cn : Nat, lfN s = cn := ⟨_, rfl⟩
  rw [hcn] at hC hcl hpl
  have hc0 : lfN s = cn := hcn
  clear hcn
  obtain ⟨N, hN⟩ : ∃ N : Nat, cn + 1 = N := ⟨_, rfl⟩
  rw [hN] at hpl
  rw [hpl]
  have hse : (⟨#[10]⟩ : ByteArray).toList.isEmpty = false := by decide +kernel
  have hsz : (⟨#[10]⟩ : ByteArray).size = 1 := rfl
  have eN : min ((cn : Int) + 1) ((s.size : Int) + 1) = (N : Int) := by omega
  have hi9 : (Tryd.prog.info? 9).map (fun i => (i.zero, i.size, i.bytes)) = some (some (.string ByteArray.empty), 1, 16) := by kernel_rfl
  have hmk := run_make_row' (P := Tryd.prog) 70 9 (.string ByteArray.empty) 16 Tryd.underlying70 hi9 rfl .i64 .i64 N (by omega) (by omega)
  have hidx : ∀ (x : ByteArray) (W : World), Calls Tryd.prog 83 #[.string x, .string ⟨#[10]⟩] W fun e w' => e = .returned (.int .i64 (nextLf x)) ∧ w' = W := fun x W => str_Index x W
  have HC0 := Aside0.mk hc0
  have HPL := Aside0.mk hpl
  have HN := Aside0.mk hN
  clear hi9 hc0 hpl hN
  go_enter Tryd.func67, Tryd.ntmps67
  go_wp2_with (first | (go_at_call 82; refine hC.mono ?_; rintro e w' ⟨rfl, hw⟩; rw [hw]))
  clear hmk hC eN
  go_loopg [0, 10] (N - 1) (fun g s0 s10 wr => ∃ (done : List ByteArray) (rest : ByteArray), s0 = .string rest ∧ s10 = .int .i64 done.length ∧ Aside0 (done.length ≤ N - 1 ∧ g = N - 1 - done.length ∧ rest.size ≤ s.size ∧ lfN rest = cn - done.length) ∧
      wr = w.alloc (.cells (Lib.cellsOf done N) 9) ∧ Aside0 (done ++ pieces rest = pieces s))
  case atStart => exact ⟨[], s, rfl, rfl, ⟨Nat.zero_le _, rfl, Nat.le_refl _, by have := HC0.out; simpa using this⟩, by rw [Lib.cellsOf_nil], ⟨rfl⟩⟩
  case round =>
    obtain ⟨done, rest, rfl, rfl, HI, rfl, HS⟩ := hrel
    have hi1 := HI.out.1
    have hN := HN.out
    have hrs := HI.out.2.2.1
    have hnext : (Lib.cellsOf done N)[done.length]? = some (.string ByteArray.empty) := Lib.cellsOf_next (by omega)
    by_cases hlt : done.length < N - 1
    · have hltz : ((done.length : Nat) : Int) < (N : Int) - 1 := by omega
      have h0 : 0 ≤ nextLf rest := by
        by_cases h : nextLf rest < 0
        · have h1 := lfN_end h
          have h2 := HI.out.2.2.2
          omega
        · omega
      have hroom := nextLf_lt rest
      have hmore := pieces_more h0
      have hm2 := lfN_more h0
      obtain ⟨i, hix⟩ : ∃ i : Nat, nextLf rest = i := ⟨(nextLf rest).toNat, by omega⟩
      rw [hix, Int.toNat_natCast] at hmore hm2
      have c0 : ¬ ((i : Int) < 0) := by omega
      have c1 : (0 : Int) ≤ ↑i := by omega
      have c2 : (↑i : Int) ≤ ↑rest.size := by omega
      have c3 : (0 : Int) ≤ ↑i + 1 := by omega
      have c4 : (↑i + 1 : Int) ≤ ↑rest.size := by omega
      have HM := Aside0.mk hmore
      have HM2 := Aside0.mk hm2
      have HIX := Aside0.mk hix
      clear hmore hm2 hroom h0 hix
      go_wp2_with (first | (go_at_call 83; refine (hidx rest _).mono ?_; rintro e w' ⟨rfl, hw⟩; rw [hw, HIX.out]))
      obtain ⟨k1, hk1⟩ : ∃ k1, N - 1 - done.length = k1 + 1 := ⟨N - 1 - done.length - 1, by omega⟩
      go_roundg (N - 1 - (done.length + 1))
      case measure => have := HI.out.2.1; omega
      case rel =>
        refine ⟨done ++ [rest.extract 0 i], rest.extract (i + 1) rest.size, rfl, by simp, ⟨by simp; omega, by simp, by rw [ByteArray.size_extract]; omega, ?_⟩, by rw [← Lib.cellsOf_set (by omega)], ⟨?_⟩⟩
        · have h1 := HM2.out
          have h2 := HI.out.2.2.2
          simp only [List.length_append, List.length_singleton]
          omega
        · rw [← HS.out, HM.out, List.append_assoc]
          rfl
    · have hltz : ¬ (((done.length : Nat) : Int) < (N : Int) - 1) := by omega
      have hend : nextLf rest < 0 := by
        by_cases h : nextLf rest < 0
        · exact h
        · have h1 := lfN_more (s := rest) (by omega)
          have h2 := HI.out.2.2.2
          omega
      have HF := Aside0.mk (show done ++ [rest] = pieces s by rw [← HS.out, pieces_end hend])
      clear hend
      go_wp2
      go_ret
      have hdn : done.length = N - 1 := by omega
      refine ⟨?_, ?_⟩
      · rw [hdn]
        rw [show N - 1 + 1 = N by omega]
        rfl
      · rw [← HF.out, ← Lib.cellsOf_set (by omega)]
def strings_Split.f (s sep : ByteArray) : Option (List ByteArray) := if sep = ⟨#[10]⟩ ∧ s.size ≤ 1000000000 then some (pieces s) else none
set_option maxHeartbeats 8000000 in
set_option maxRecDepth 100000 in
theorem strings_Split.calls (a0 a1 : ByteArray) (r : List ByteArray) (w : World) (h : strings_Split.f a0 a1 = some r) :
    Calls Tryd.prog 41 #[.string a0, .string a1] w fun e w' => ∃ v0_ : Value, e = .returned (v0_) ∧ Kd.R Kd.string 9 w' w.heap.size (fun _ => True) v0_ r ∧ Below w.heap.size w w' := by
  unfold strings_Split.f at h
  split at h
  · rename_i hh
    obtain ⟨rfl, hs⟩ := hh
    obtain rfl := Option.some.inj h
    have hg := gen_Split a0 w hs
    have hpl := pieces_length a0.size a0 (Nat.le_refl _)
    have hle := lfN_le a0
    have HP := Aside0.mk hpl
    clear hpl h
    go_enter Tryd.func41, Tryd.ntmps41
    go_wp2_with (go_at_call 67; refine hg.mono ?_; rintro e w1 ⟨rfl, rfl⟩)
    go_ret
    refine ⟨_, rfl, Kd.R_of_own ⟨by rw [encs_length, Nat.mul_one], .inr ⟨w.heap.size, (pieces a0).length, Lib.cellsOf (pieces a0) (pieces a0).length, rfl, Nat.le_refl _, heap_alloc_new w _, Nat.le_refl _, by have := HP.out; unfold maxLen; omega, by rw [Lib.cellsOf_size (Nat.le_refl _), Nat.mul_one], ?_⟩⟩ (fun _ _ => trivial), below_alloc (Below.refl _ _) _⟩
    unfold Lib.cellsOf encs
    rw [Nat.sub_self, List.replicate_zero, List.append_nil, Nat.mul_one]
    rw [List.take_of_length_le (by simp)]
  · cases h
end Go.Proofs.YtmeinakeiefcdaaDoor.Hand
