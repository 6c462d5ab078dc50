-- Written by this session's xprint.py (a variant of the kit's printer). Not trusted: Lean checks it.
import Derived.Test.YtmfkokjbjmahkaaDoorX0
import Derived.Test.YtmfkokjbjmahkaaDoorSlim
import Derived.Test.YtmfkokjbjmahkaaDoorX5
namespace Go.Proofs.YtmfkokjbjmahkaaDoor.X
open Go.RowKit Go.Proofs.YtmfkokjbjmahkaaDoorW.PrintWords Go.Proofs.YtmfkokjbjmahkaaDoorW.PrintLast Go.Proofs.YtmfkokjbjmahkaaDoorW.PrintMore
attribute [local go_sem] max2_int min2_int max_two min_two max_three min_three max_four min_four   -- for this text's walks alone
set_option linter.unusedVariables false
set_option maxHeartbeats 8000000
set_option maxRecDepth 100000
set_option linter.unusedSimpArgs false

/-! ### flongref05_Quoted: function 16 -/
def flongref05_Quoted.l0 : Nat → ByteArray → ByteArray → Int → Option (ByteArray)
 | 0, _, _, _ => none
 | k + 1, x0, x3, x4 => if x4 < (x0.size : Int) then (if 0 ≤ x4 then (if x4 ≤ (wrap64 (x4 + 1)) then (if (wrap64 (x4 + 1)) ≤ (x0.size : Int) then (if x3.size + (x0.extract (x4 : Int).toNat ((wrap64 (x4 + 1)) : Int).toNat).size ≤ 9223372036854775807 then (if (bt x0 x4) = 34 then (if (x3 ++ (x0.extract (x4 : Int).toNat ((wrap64 (x4 + 1)) : Int).toNat)).size + 1 ≤ 9223372036854775807 then (flongref05_Quoted.l0 k x0 ((x3 ++ (x0.extract (x4 : Int).toNat ((wrap64 (x4 + 1)) : Int).toNat)) ++ (⟨#[34]⟩ : ByteArray)) (wrap64 (x4 + 1))) else (none)) else (flongref05_Quoted.l0 k x0 (x3 ++ (x0.extract (x4 : Int).toNat ((wrap64 (x4 + 1)) : Int).toNat)) (wrap64 (x4 + 1)))) else (none)) else (none)) else (none)) else (none)) else (if x3.size + 1 ≤ 9223372036854775807 then (some (x3 ++ (⟨#[34]⟩ : ByteArray))) else (none))
def flongref05_Quoted.f (k : Nat) (a0 : ByteArray) : Option (ByteArray) := flongref05_Quoted.l0 k a0 (⟨#[34]⟩ : ByteArray) 0
theorem flongref05_Quoted.mono_l : ∀ k, (∀ y0 y1 y2, LeO (flongref05_Quoted.l0 k y0 y1 y2) (flongref05_Quoted.l0 (k + 1) y0 y1 y2))
 | 0 => fun _ _ _ r h => by simp [flongref05_Quoted.l0] at h
 | k + 1 => by
  have ih0 := flongref05_Quoted.mono_l k
  ·intro y0 y1 y2
   unfold flongref05_Quoted.l0
   repeat' first
   | (with_reducible exact ih0 _ _ _)
   | (with_reducible exact LeO.refl _)
   | (with_reducible exact LeO.none _)
   | (with_reducible refine LeO.ite ?_ ?_)
   | (with_reducible refine LeO.bind ?_ (fun _ => ?_))
theorem flongref05_Quoted.mono : ∀ a0 k, LeO (flongref05_Quoted.f k a0) (flongref05_Quoted.f (k + 1) a0) := by
 intro a0 k
 have ih0 := flongref05_Quoted.mono_l k
 unfold flongref05_Quoted.f
 repeat' first
   | (with_reducible exact ih0 _ _ _)
   | (with_reducible exact LeO.refl _)
   | (with_reducible exact LeO.none _)
   | (with_reducible refine LeO.ite ?_ ?_)
   | (with_reducible refine LeO.bind ?_ (fun _ => ?_))
theorem flongref05_Quoted.calls (k : Nat) (a0 : ByteArray) (r : ByteArray) (w : World) (h : flongref05_Quoted.f k a0 = some r) :
  Calls Tryd.prog 16 #[.string a0] w fun e w' => e = .returned (.string r) ∧ Drawn0 w w' := by
 have H : (flongref05_Quoted.l0 k a0 (⟨#[34]⟩ : ByteArray) 0) = some r := h
 clear h
 have H' := Aside0.mk H
 clear H
 go_enter Tryd.func16, Tryd.ntmps16
 go_wp2
 go_loopg [3, 4] k (fun kq v3 v4 w' => ∃ (x3_1 : ByteArray) (x4_1 : Int), v3 = .string x3_1 ∧ v4 = .int .i64 x4_1 ∧ Aside0 (flongref05_Quoted.l0 kq a0 x3_1 x4_1 = some r) ∧ Aside0 (kq ≤ k) ∧ Drawn0 w w')
 case atStart => exact ⟨((⟨#[34]⟩ : ByteArray)), (0), sA, sA, H', ⟨Nat.le_refl _⟩, by repeat (first | exact Drawn0.refl _ | apply Drawn0.step)⟩
 case round =>
  clear H'
  try clear c1
  obtain ⟨x3_1, x4_1, rfl, rfl, HA, HK1, ⟨m1, rfl⟩⟩ := hrel
  cases gk with
  | zero => exact absurd HA.out (by simp [flongref05_Quoted.l0])
  | succ k1 =>
   have H := HA.out
   clear HA
   simp only [flongref05_Quoted.l0] at H
   by_cases c2 : x4_1 < (a0.size : Int)
   ·rw [if_pos c2] at H
    have c2b0 : decide (x4_1 < (a0.size : Int)) = true := decide_eq_true c2
    clear c2
    by_cases c3 : 0 ≤ x4_1
    ·rw [if_pos c3] at H
     have c3b0 := eq_true c3
     have c3b1 : decide (0 ≤ x4_1) = true := decide_eq_true c3
     clear c3
     by_cases c4 : x4_1 ≤ (wrap64 (x4_1 + 1))
     ·rw [if_pos c4] at H
      have c4b0 := eq_true c4
      have c4b1 : decide (x4_1 ≤ (wrap64 (x4_1 + 1))) = true := decide_eq_true c4
      by_cases c5 : (wrap64 (x4_1 + 1)) ≤ (a0.size : Int)
      ·rw [if_pos c5] at H
       have c5b0 := eq_true c5
       have c5b1 : decide ((wrap64 (x4_1 + 1)) ≤ (a0.size : Int)) = true := decide_eq_true c5
       by_cases c6 : x3_1.size + (a0.extract (x4_1 : Int).toNat ((wrap64 (x4_1 + 1)) : Int).toNat).size ≤ 9223372036854775807
       ·rw [if_pos c6] at H
        have c6b0 := eq_true c6
        have c6b1 : decide (x3_1.size + (a0.extract (x4_1 : Int).toNat ((wrap64 (x4_1 + 1)) : Int).toNat).size ≤ 9223372036854775807) = true := decide_eq_true c6
        try have c6b2 : (9223372036854775807 < x3_1.size + (a0.extract (x4_1 : Int).toNat ((wrap64 (x4_1 + 1)) : Int).toNat).size) = False := eq_false (Nat.not_lt.2 c6)
        by_cases c8 : (bt a0 x4_1) = 34
        ·rw [if_pos c8] at H
         have c8b0 : ((bt a0 x4_1) == 34) = true := beq_iff_eq.mpr c8
         have c8b1 : ((bt a0 x4_1) != 34) = false := bne_eq_false_iff_eq.mpr c8
         clear c8
         by_cases c9 : (x3_1 ++ (a0.extract (x4_1 : Int).toNat ((wrap64 (x4_1 + 1)) : Int).toNat)).size + 1 ≤ 9223372036854775807
         ·rw [if_pos c9] at H
          have c9b0 := eq_true c9
          have c9b1 : decide ((x3_1 ++ (a0.extract (x4_1 : Int).toNat ((wrap64 (x4_1 + 1)) : Int).toNat)).size + 1 ≤ 9223372036854775807) = true := decide_eq_true c9
          try have c9b2 : (9223372036854775807 < (x3_1 ++ (a0.extract (x4_1 : Int).toNat ((wrap64 (x4_1 + 1)) : Int).toNat)).size + 1) = False := eq_false (Nat.not_lt.2 c9)
          (try (have c9n := c9; simp only [ByteArray.size_append'] at c9n; have c9b3 := eq_false (Nat.not_lt.2 c9n); have c9b4 := eq_true c9n; clear c9n))
          (try (have c9e : x3_1.size + ((wrap64 (x4_1 + 1)).toNat - x4_1.toNat) + 1 ≤ 9223372036854775807 := (by have h_ := c9; rw [ByteArray.size_append', ByteArray.size_extract] at h_; omega); have c9b9 := eq_false (Nat.not_lt.2 c9e); have c9c0 := eq_true c9e; clear c9e))
          have H' := Aside0.mk H
          clear H
          have p7 : 0 ≤ (x4_1 : Int) := of_decide_eq_true asA
          have q7 : x4_1 < (a0.size : Int) := of_decide_eq_true asA
          have hx7 := bt_at a0 x4_1
          replace p7 := eq_true p7
          replace q7 := eq_true q7
          go_wp2
          go_roundg k1
          case measure => have := HK1.out; omega
          case rel => exact ⟨((x3_1 ++ (a0.extract (x4_1 : Int).toNat ((wrap64 (x4_1 + 1)) : Int).toNat)) ++ (⟨#[34]⟩ : ByteArray)), (wrap64 (x4_1 + 1)), sA, sA, H', ⟨by have := HK1.out; omega⟩, by repeat (first | exact Drawn0.refl _ | apply Drawn0.step)⟩
         ·rw [if_neg c9] at H
          exact absurd H (by simp)
        ·rw [if_neg c8] at H
         have c8b0 : ((bt a0 x4_1) == 34) = false := beq_eq_false_iff_ne.mpr c8
         have c8b1 : ((bt a0 x4_1) != 34) = true := bne_iff_ne.mpr c8
         have H' := Aside0.mk H
         clear H
         have p7 : 0 ≤ (x4_1 : Int) := of_decide_eq_true asA
         have q7 : x4_1 < (a0.size : Int) := of_decide_eq_true asA
         have hx7 := bt_at a0 x4_1
         replace p7 := eq_true p7
         replace q7 := eq_true q7
         go_wp2
         go_roundg k1
         case measure => have := HK1.out; omega
         case rel => exact ⟨(x3_1 ++ (a0.extract (x4_1 : Int).toNat ((wrap64 (x4_1 + 1)) : Int).toNat)), (wrap64 (x4_1 + 1)), sA, sA, H', ⟨by have := HK1.out; omega⟩, by repeat (first | exact Drawn0.refl _ | apply Drawn0.step)⟩
       ·rw [if_neg c6] at H
        exact absurd H (by simp)
      ·rw [if_neg c5] at H
       exact absurd H (by simp)
     ·rw [if_neg c4] at H
      exact absurd H (by simp)
    ·rw [if_neg c3] at H
     exact absurd H (by simp)
   ·rw [if_neg c2] at H
    have c2b0 : decide (x4_1 < (a0.size : Int)) = false := decide_eq_false c2
    clear c2
    by_cases c10 : x3_1.size + 1 ≤ 9223372036854775807
    ·rw [if_pos c10] at H
     have c10b0 := eq_true c10
     have c10b1 : decide (x3_1.size + 1 ≤ 9223372036854775807) = true := decide_eq_true c10
     try have c10b2 : (9223372036854775807 < x3_1.size + 1) = False := eq_false (Nat.not_lt.2 c10)
     obtain rfl := Option.some.inj H
     go_wp2
     go_ret
     exact ⟨sA, by repeat (first | exact Drawn0.refl _ | apply Drawn0.step)⟩
    ·rw [if_neg c10] at H
     exact absurd H (by simp)

/-! ### flongref05_Write: function 23 -/
mutual
def flongref05_Write.l0 : Nat → List (S35) → ByteArray → Int → Option (ByteArray)
 | 0, _, _, _ => none
 | k + 1, x0, x3, x4 => if x4 < (x0.length : Int) then (if 0 ≤ x4 then ((flongref05_Check.f k ((rd_T35 x0 x4).f0) ((rd_T35 x0 x4).f1) ((rd_T35 x0 x4).f2) ((rd_T35 x0 x4).f3)).bind fun t173 => (if t173 = 0 then (if ((rd_T35 x0 x4).f1).toList = ([] : List UInt8) then (if x3.size + ((rd_T35 x0 x4).f3).size ≤ 9223372036854775807 then (if (x3 ++ ((rd_T35 x0 x4).f3)).size + 1 ≤ 9223372036854775807 then (flongref05_Write.l0 k x0 ((x3 ++ ((rd_T35 x0 x4).f3)) ++ (⟨#[10]⟩ : ByteArray)) (wrap64 (x4 + 1))) else (none)) else (none)) else (if x3.size + 1 ≤ 9223372036854775807 then (if (x3 ++ (⟨#[46]⟩ : ByteArray)).size + ((rd_T35 x0 x4).f1).size ≤ 9223372036854775807 then (flongref05_Write.l1 k x0 ((x3 ++ (⟨#[46]⟩ : ByteArray)) ++ ((rd_T35 x0 x4).f1)) x4 0) else (none)) else (none))) else (flongref05_Write.l0 k x0 x3 (wrap64 (x4 + 1))))) else (none)) else (some x3)
def flongref05_Write.l1 : Nat → List (S35) → ByteArray → Int → Int → Option (ByteArray)
 | 0, _, _, _, _ => none
 | k + 1, x0, x3, x4, x5 => if 0 ≤ x4 then (if x4 < (x0.length : Int) then (if x5 < (((rd_T35 x0 x4).f2).length : Int) then (if x3.size + 1 ≤ 9223372036854775807 then (if 0 ≤ x5 then ((flongref05_Quoted.f k (rdOf ByteArray.empty ((rd_T35 x0 x4).f2) x5)).bind fun t180 => (if (x3 ++ (⟨#[32]⟩ : ByteArray)).size + t180.size ≤ 9223372036854775807 then (flongref05_Write.l1 k x0 ((x3 ++ (⟨#[32]⟩ : ByteArray)) ++ t180) x4 (wrap64 (x5 + 1))) else (none))) else (none)) else (none)) else (if x3.size + 1 ≤ 9223372036854775807 then (flongref05_Write.l0 k x0 (x3 ++ (⟨#[10]⟩ : ByteArray)) (wrap64 (x4 + 1))) else (none))) else (none)) else (none)
end
def flongref05_Write.f (k : Nat) (l0 : List (S35)) : Option (ByteArray) := flongref05_Write.l0 k l0 (⟨#[]⟩ : ByteArray) 0
theorem flongref05_Write.mono_l : ∀ k, (∀ y0 y1 y2, LeO (flongref05_Write.l0 k y0 y1 y2) (flongref05_Write.l0 (k + 1) y0 y1 y2)) ∧ (∀ y0 y1 y2 y3, LeO (flongref05_Write.l1 k y0 y1 y2 y3) (flongref05_Write.l1 (k + 1) y0 y1 y2 y3))
 | 0 => ⟨fun _ _ _ r h => by simp [flongref05_Write.l0] at h, fun _ _ _ _ r h => by simp [flongref05_Write.l1] at h⟩
 | k + 1 => by
  obtain ⟨ih0, ih1⟩ := flongref05_Write.mono_l k
  refine ⟨?_, ?_⟩
  ·intro y0 y1 y2
   unfold flongref05_Write.l0
   repeat' first
   | (with_reducible exact ih0 _ _ _)
   | (with_reducible exact ih1 _ _ _ _)
   | (with_reducible exact flongref05_Check.mono _ _ _ _ _)
   | (with_reducible exact flongref05_Quoted.mono _ _)
   | (with_reducible exact LeO.refl _)
   | (with_reducible exact LeO.none _)
   | (with_reducible refine LeO.ite ?_ ?_)
   | (with_reducible refine LeO.bind ?_ (fun _ => ?_))
  ·intro y0 y1 y2 y3
   unfold flongref05_Write.l1
   repeat' first
   | (with_reducible exact ih0 _ _ _)
   | (with_reducible exact ih1 _ _ _ _)
   | (with_reducible exact flongref05_Check.mono _ _ _ _ _)
   | (with_reducible exact flongref05_Quoted.mono _ _)
   | (with_reducible exact LeO.refl _)
   | (with_reducible exact LeO.none _)
   | (with_reducible refine LeO.ite ?_ ?_)
   | (with_reducible refine LeO.bind ?_ (fun _ => ?_))
theorem flongref05_Write.mono : ∀ a0 k, LeO (flongref05_Write.f k a0) (flongref05_Write.f (k + 1) a0) := by
 intro a0 k
 obtain ⟨ih0, ih1⟩ := flongref05_Write.mono_l k
 unfold flongref05_Write.f
 repeat' first
   | (with_reducible exact ih0 _ _ _)
   | (with_reducible exact ih1 _ _ _ _)
   | (with_reducible exact flongref05_Check.mono _ _ _ _ _)
   | (with_reducible exact flongref05_Quoted.mono _ _)
   | (with_reducible exact LeO.refl _)
   | (with_reducible exact LeO.none _)
   | (with_reducible refine LeO.ite ?_ ?_)
   | (with_reducible refine LeO.bind ?_ (fun _ => ?_))
theorem flongref05_Write.calls (k : Nat) (A0 : Option Addr) (c0 : Nat) (l0 : List (S35)) (r : ByteArray) (w : World) (hr0 : Kd.C k35 w A0 l0.length l0) (hc0 : l0.length ≤ c0) (h : flongref05_Write.f k l0 = some r) :
  Calls Tryd.prog 23 #[.slice A0 l0.length c0] w fun e w' => e = .returned (.string r) ∧ Below w.heap.size w w' := by
 have hu35 := Tryd.underlying35
 have HR0 := Aside0.mk hr0
 have HC0 := Aside0.mk hc0
 clear hr0 hc0
 have HB := Aside0.mk (Below.refl w.heap.size w)
 have H : (flongref05_Write.l0 k l0 (⟨#[]⟩ : ByteArray) 0) = some r := h
 clear h
 have H' := Aside0.mk H
 clear H
 go_enter Tryd.func23, Tryd.ntmps23
 go_wp2
 go_loopg [3, 4] k (fun kq v3 v4 w' => ∃ (x3_1 : ByteArray) (x4_1 : Int), v3 = .string x3_1 ∧ v4 = .int .i64 x4_1 ∧ Aside0 (flongref05_Write.l0 kq l0 x3_1 x4_1 = some r) ∧ Aside0 (kq ≤ k) ∧ Aside0 (Below w.heap.size w w'))
 case atStart => exact ⟨((⟨#[]⟩ : ByteArray)), (0), sA, sA, H', ⟨Nat.le_refl _⟩, ⟨bA⟩⟩
 case round =>
  clear H'
  obtain ⟨x3_1, x4_1, rfl, rfl, HA, HK1, HB⟩ := hrel
  cases gk with
  | zero => exact absurd HA.out (by simp [flongref05_Write.l0])
  | succ k1 =>
   have H := HA.out
   clear HA
   simp only [flongref05_Write.l0] at H
   by_cases c2 : x4_1 < (l0.length : Int)
   ·rw [if_pos c2] at H
    have c2b0 : decide (x4_1 < (l0.length : Int)) = true := decide_eq_true c2
    clear c2
    by_cases c3 : 0 ≤ x4_1
    ·rw [if_pos c3] at H
     have c3b0 : decide (0 ≤ x4_1) = true := decide_eq_true c3
     clear c3
     replace H := Option.bind_eq_some_iff.mp H
     obtain ⟨t173, A40, H⟩ := H
     replace H : (if t173 = 0 then (if ((rd_T35 l0 x4_1).f1).toList = ([] : List UInt8) then (if x3_1.size + ((rd_T35 l0 x4_1).f3).size ≤ 9223372036854775807 then (if (x3_1 ++ ((rd_T35 l0 x4_1).f3)).size + 1 ≤ 9223372036854775807 then (flongref05_Write.l0 k1 l0 ((x3_1 ++ ((rd_T35 l0 x4_1).f3)) ++ (⟨#[10]⟩ : ByteArray)) (wrap64 (x4_1 + 1))) else (none)) else (none)) else (if x3_1.size + 1 ≤ 9223372036854775807 then (if (x3_1 ++ (⟨#[46]⟩ : ByteArray)).size + ((rd_T35 l0 x4_1).f1).size ≤ 9223372036854775807 then (flongref05_Write.l1 k1 l0 ((x3_1 ++ (⟨#[46]⟩ : ByteArray)) ++ ((rd_T35 l0 x4_1).f1)) x4_1 0) else (none)) else (none))) else (flongref05_Write.l0 k1 l0 x3_1 (wrap64 (x4_1 + 1)))) = some r := H
     have A4 := Aside0.mk A40
     clear A40
     by_cases c5 : t173 = 0
     ·rw [if_pos c5] at H
      have c5b0 : (t173 == 0) = true := beq_iff_eq.mpr c5
      have c5b1 : (t173 != 0) = false := bne_eq_false_iff_eq.mpr c5
      clear c5
      by_cases c6 : ((rd_T35 l0 x4_1).f1).toList = ([] : List UInt8)
      ·rw [if_pos c6] at H
       have c6b0 : (((rd_T35 l0 x4_1).f1).toList == ([] : List UInt8)) = true := beq_iff_eq.mpr c6
       have c6b1 : (((rd_T35 l0 x4_1).f1).toList != ([] : List UInt8)) = false := bne_eq_false_iff_eq.mpr c6
       clear c6
       by_cases c7 : x3_1.size + ((rd_T35 l0 x4_1).f3).size ≤ 9223372036854775807
       ·rw [if_pos c7] at H
        have c7b0 := eq_true c7
        have c7b1 : decide (x3_1.size + ((rd_T35 l0 x4_1).f3).size ≤ 9223372036854775807) = true := decide_eq_true c7
        try have c7b2 : (9223372036854775807 < x3_1.size + ((rd_T35 l0 x4_1).f3).size) = False := eq_false (Nat.not_lt.2 c7)
        by_cases c8 : (x3_1 ++ ((rd_T35 l0 x4_1).f3)).size + 1 ≤ 9223372036854775807
        ·rw [if_pos c8] at H
         have c8b0 := eq_true c8
         have c8b1 : decide ((x3_1 ++ ((rd_T35 l0 x4_1).f3)).size + 1 ≤ 9223372036854775807) = true := decide_eq_true c8
         try have c8b2 : (9223372036854775807 < (x3_1 ++ ((rd_T35 l0 x4_1).f3)).size + 1) = False := eq_false (Nat.not_lt.2 c8)
         (try (have c8n := c8; simp only [ByteArray.size_append'] at c8n; have c8b3 := eq_false (Nat.not_lt.2 c8n); have c8b4 := eq_true c8n; clear c8n))
         have H' := Aside0.mk H
         clear H
         have p172 : 0 ≤ (x4_1 : Int) := of_decide_eq_true asA
         have q172 : x4_1 < (l0.length : Int) := of_decide_eq_true asA
         obtain ⟨ad172, A172_2, c172_2, e172, hx172_0, hx172_1, hx172_2, hx172_3, hl172_2, hi172_2⟩ := at_T35 HR0.out x4_1 p172 q172
         cases e172
         replace hx172_0 := (HB.out.cell (World.block_lt_of_cell? w _ hx172_0)).trans hx172_0
         replace hx172_1 := (HB.out.cell (World.block_lt_of_cell? w _ hx172_1)).trans hx172_1
         replace hx172_2 := (HB.out.cell (World.block_lt_of_cell? w _ hx172_2)).trans hx172_2
         replace hx172_3 := (HB.out.cell (World.block_lt_of_cell? w _ hx172_3)).trans hx172_3
         have HR172_2 := Aside0.mk hi172_2
         have HC172_2 := Aside0.mk hl172_2
         clear hi172_2 hl172_2
         replace p172 := eq_true p172
         replace q172 := eq_true q172
         go_wp2_with (first | ((with_reducible refine gate_callee (f := 22) rfl ?_); refine goesL_ (some 16) rfl rfl Tryd.func22 (by kernel_rfl) rfl #[.agg #[.int .i64 ((rd_T35 l0 x4_1).f0), .string ((rd_T35 l0 x4_1).f1), .slice A172_2 ((rd_T35 l0 x4_1).f2).length c172_2, .string ((rd_T35 l0 x4_1).f3)]] rfl aP ?_; (with_reducible refine (flongref05_Check.calls k1 ((rd_T35 l0 x4_1).f0) ((rd_T35 l0 x4_1).f1) _ _ ((rd_T35 l0 x4_1).f2) ((rd_T35 l0 x4_1).f3) t173 _ ?side1 ?side2 A4.out).mono ?_); (case side1 => repeat (first | exact (Kd.C_below HR172_2.out HB.out) | (with_reducible refine Kd.C_alloc ?_ _) | (with_reducible refine Kd.C_drewN ?_ _) | (with_reducible refine Kd.C_drew ?_))); (case side2 => exact HC172_2.out); rintro e w9 ⟨rfl, hb⟩; refine ⟨_, rfl, ?_⟩; replace HB := Aside0.mk (below_step bA hb); (try clear hb); (try clear hb2); (try clear hk); (try clear hi); have p174 : 0 ≤ (x4_1 : Int) := of_decide_eq_true asA; have q174 : x4_1 < (l0.length : Int) := of_decide_eq_true asA; obtain ⟨ad174, A174_2, c174_2, e174, hx174_0, hx174_1, hx174_2, hx174_3, hl174_2, hi174_2⟩ := at_T35 HR0.out x4_1 p174 q174; obtain rfl : ad172 = ad174 := (by injection e174); replace hx174_0 := (HB.out.cell (World.block_lt_of_cell? w _ hx174_0)).trans hx174_0; replace hx174_1 := (HB.out.cell (World.block_lt_of_cell? w _ hx174_1)).trans hx174_1; replace hx174_2 := (HB.out.cell (World.block_lt_of_cell? w _ hx174_2)).trans hx174_2; replace hx174_3 := (HB.out.cell (World.block_lt_of_cell? w _ hx174_3)).trans hx174_3; have HR174_2 := Aside0.mk hi174_2; have HC174_2 := Aside0.mk hl174_2; clear hi174_2 hl174_2; replace p174 := eq_true p174; replace q174 := eq_true q174; have p175 : 0 ≤ (x4_1 : Int) := of_decide_eq_true asA; have q175 : x4_1 < (l0.length : Int) := of_decide_eq_true asA; obtain ⟨ad175, A175_2, c175_2, e175, hx175_0, hx175_1, hx175_2, hx175_3, hl175_2, hi175_2⟩ := at_T35 HR0.out x4_1 p175 q175; obtain rfl : ad172 = ad175 := (by injection e175); replace hx175_0 := (HB.out.cell (World.block_lt_of_cell? w _ hx175_0)).trans hx175_0; replace hx175_1 := (HB.out.cell (World.block_lt_of_cell? w _ hx175_1)).trans hx175_1; replace hx175_2 := (HB.out.cell (World.block_lt_of_cell? w _ hx175_2)).trans hx175_2; replace hx175_3 := (HB.out.cell (World.block_lt_of_cell? w _ hx175_3)).trans hx175_3; have HR175_2 := Aside0.mk hi175_2; have HC175_2 := Aside0.mk hl175_2; clear hi175_2 hl175_2; replace p175 := eq_true p175; replace q175 := eq_true q175; have ea_ := Option.some.inj (hx174_2.symm.trans hx175_2); injection ea_ with ea_ en_ ec_; subst ea_; subst ec_; clear en_))
         go_roundg k1
         case measure => have := HK1.out; omega
         case rel => exact ⟨((x3_1 ++ ((rd_T35 l0 x4_1).f3)) ++ (⟨#[10]⟩ : ByteArray)), (wrap64 (x4_1 + 1)), sA, sA, H', ⟨by have := HK1.out; omega⟩, ⟨bA⟩⟩
        ·rw [if_neg c8] at H
         exact absurd H (by simp)
       ·rw [if_neg c7] at H
        exact absurd H (by simp)
      ·rw [if_neg c6] at H
       have c6b0 : (((rd_T35 l0 x4_1).f1).toList == ([] : List UInt8)) = false := beq_eq_false_iff_ne.mpr c6
       have c6b1 : (((rd_T35 l0 x4_1).f1).toList != ([] : List UInt8)) = true := bne_iff_ne.mpr c6
       by_cases c10 : x3_1.size + 1 ≤ 9223372036854775807
       ·rw [if_pos c10] at H
        have c10b0 := eq_true c10
        have c10b1 : decide (x3_1.size + 1 ≤ 9223372036854775807) = true := decide_eq_true c10
        try have c10b2 : (9223372036854775807 < x3_1.size + 1) = False := eq_false (Nat.not_lt.2 c10)
        by_cases c11 : (x3_1 ++ (⟨#[46]⟩ : ByteArray)).size + ((rd_T35 l0 x4_1).f1).size ≤ 9223372036854775807
        ·rw [if_pos c11] at H
         have c11b0 := eq_true c11
         have c11b1 : decide ((x3_1 ++ (⟨#[46]⟩ : ByteArray)).size + ((rd_T35 l0 x4_1).f1).size ≤ 9223372036854775807) = true := decide_eq_true c11
         try have c11b2 : (9223372036854775807 < (x3_1 ++ (⟨#[46]⟩ : ByteArray)).size + ((rd_T35 l0 x4_1).f1).size) = False := eq_false (Nat.not_lt.2 c11)
         (try (have c11n := c11; simp only [ByteArray.size_append'] at c11n; have c11b3 := eq_false (Nat.not_lt.2 c11n); have c11b4 := eq_true c11n; clear c11n))
         (try (have c11k := c11; simp only [ByteArray.size_append', show (⟨#[46]⟩ : ByteArray).size = 1 from rfl] at c11k; have c11b7 := eq_false (Nat.not_lt.2 c11k); have c11b8 := eq_true c11k; clear c11k))
         have H' := Aside0.mk H
         clear H
         have p172 : 0 ≤ (x4_1 : Int) := of_decide_eq_true asA
         have q172 : x4_1 < (l0.length : Int) := of_decide_eq_true asA
         obtain ⟨ad172, A172_2, c172_2, e172, hx172_0, hx172_1, hx172_2, hx172_3, hl172_2, hi172_2⟩ := at_T35 HR0.out x4_1 p172 q172
         cases e172
         replace hx172_0 := (HB.out.cell (World.block_lt_of_cell? w _ hx172_0)).trans hx172_0
         replace hx172_1 := (HB.out.cell (World.block_lt_of_cell? w _ hx172_1)).trans hx172_1
         replace hx172_2 := (HB.out.cell (World.block_lt_of_cell? w _ hx172_2)).trans hx172_2
         replace hx172_3 := (HB.out.cell (World.block_lt_of_cell? w _ hx172_3)).trans hx172_3
         have HR172_2 := Aside0.mk hi172_2
         have HC172_2 := Aside0.mk hl172_2
         clear hi172_2 hl172_2
         replace p172 := eq_true p172
         replace q172 := eq_true q172
         go_wp2_with (first | ((with_reducible refine gate_callee (f := 22) rfl ?_); refine goesL_ (some 16) rfl rfl Tryd.func22 (by kernel_rfl) rfl #[.agg #[.int .i64 ((rd_T35 l0 x4_1).f0), .string ((rd_T35 l0 x4_1).f1), .slice A172_2 ((rd_T35 l0 x4_1).f2).length c172_2, .string ((rd_T35 l0 x4_1).f3)]] rfl aP ?_; (with_reducible refine (flongref05_Check.calls k1 ((rd_T35 l0 x4_1).f0) ((rd_T35 l0 x4_1).f1) _ _ ((rd_T35 l0 x4_1).f2) ((rd_T35 l0 x4_1).f3) t173 _ ?side1 ?side2 A4.out).mono ?_); (case side1 => repeat (first | exact (Kd.C_below HR172_2.out HB.out) | (with_reducible refine Kd.C_alloc ?_ _) | (with_reducible refine Kd.C_drewN ?_ _) | (with_reducible refine Kd.C_drew ?_))); (case side2 => exact HC172_2.out); rintro e w12 ⟨rfl, hb⟩; refine ⟨_, rfl, ?_⟩; replace HB := Aside0.mk (below_step bA hb); (try clear hb); (try clear hb2); (try clear hk); (try clear hi); have p174 : 0 ≤ (x4_1 : Int) := of_decide_eq_true asA; have q174 : x4_1 < (l0.length : Int) := of_decide_eq_true asA; obtain ⟨ad174, A174_2, c174_2, e174, hx174_0, hx174_1, hx174_2, hx174_3, hl174_2, hi174_2⟩ := at_T35 HR0.out x4_1 p174 q174; obtain rfl : ad172 = ad174 := (by injection e174); replace hx174_0 := (HB.out.cell (World.block_lt_of_cell? w _ hx174_0)).trans hx174_0; replace hx174_1 := (HB.out.cell (World.block_lt_of_cell? w _ hx174_1)).trans hx174_1; replace hx174_2 := (HB.out.cell (World.block_lt_of_cell? w _ hx174_2)).trans hx174_2; replace hx174_3 := (HB.out.cell (World.block_lt_of_cell? w _ hx174_3)).trans hx174_3; have HR174_2 := Aside0.mk hi174_2; have HC174_2 := Aside0.mk hl174_2; clear hi174_2 hl174_2; replace p174 := eq_true p174; replace q174 := eq_true q174; have p176 : 0 ≤ (x4_1 : Int) := of_decide_eq_true asA; have q176 : x4_1 < (l0.length : Int) := of_decide_eq_true asA; obtain ⟨ad176, A176_2, c176_2, e176, hx176_0, hx176_1, hx176_2, hx176_3, hl176_2, hi176_2⟩ := at_T35 HR0.out x4_1 p176 q176; obtain rfl : ad172 = ad176 := (by injection e176); replace hx176_0 := (HB.out.cell (World.block_lt_of_cell? w _ hx176_0)).trans hx176_0; replace hx176_1 := (HB.out.cell (World.block_lt_of_cell? w _ hx176_1)).trans hx176_1; replace hx176_2 := (HB.out.cell (World.block_lt_of_cell? w _ hx176_2)).trans hx176_2; replace hx176_3 := (HB.out.cell (World.block_lt_of_cell? w _ hx176_3)).trans hx176_3; have HR176_2 := Aside0.mk hi176_2; have HC176_2 := Aside0.mk hl176_2; clear hi176_2 hl176_2; replace p176 := eq_true p176; replace q176 := eq_true q176; have ea_ := Option.some.inj (hx174_2.symm.trans hx176_2); injection ea_ with ea_ en_ ec_; subst ea_; subst ec_; clear en_))
         go_loopg [3, 5] k1 (fun kq v3 v5 w' => ∃ (x3_2 : ByteArray) (x5_2 : Int), v3 = .string x3_2 ∧ v5 = .int .i64 x5_2 ∧ Aside0 (flongref05_Write.l1 kq l0 x3_2 x4_1 x5_2 = some r) ∧ Aside0 (kq ≤ k1) ∧ Aside0 (Below w.heap.size w w'))
         case atStart => exact ⟨((x3_1 ++ (⟨#[46]⟩ : ByteArray)) ++ ((rd_T35 l0 x4_1).f1)), (0), sA, sA, H', ⟨Nat.le_refl _⟩, ⟨bA⟩⟩
         case round =>
          clear H'
          try clear c1
          try clear p1
          try clear q1
          try clear hx1
          try clear c2
          try clear c2b0
          try clear p2
          try clear c3
          try clear c3b0
          try clear c5
          try clear c5b0
          try clear c5b1
          try clear c6
          try clear c6b0
          try clear c6b1
          try clear p6
          try clear c7
          try clear c7b0
          try clear c7b1
          try clear c7b2
          try clear c8
          try clear c8b0
          try clear c8b1
          try clear c8b2
          try clear c10
          try clear c10b0
          try clear c10b1
          try clear c10b2
          try clear c11
          try clear c11b0
          try clear c11b1
          try clear c11b2
          try clear hx172_0
          try clear hx172_1
          try clear hx172_2
          try clear hx172_3
          try clear hx174_0
          try clear hx174_1
          try clear hx174_2
          try clear hx174_3
          try clear hx175_0
          try clear hx175_1
          try clear hx175_2
          try clear hx175_3
          try clear hx176_0
          try clear hx176_1
          try clear hx176_2
          try clear hx176_3
          try clear p172
          try clear p174
          try clear p175
          try clear p176
          try clear q172
          try clear q174
          try clear q175
          try clear q176
          obtain ⟨x3_2, x5_2, rfl, rfl, HA, HK2, HB⟩ := hrel
          cases gk with
          | zero => exact absurd HA.out (by simp [flongref05_Write.l1])
          | succ k2 =>
           have H := HA.out
           clear HA
           simp only [flongref05_Write.l1] at H
           by_cases c13 : 0 ≤ x4_1
           ·rw [if_pos c13] at H
            have c13b0 : decide (0 ≤ x4_1) = true := decide_eq_true c13
            clear c13
            by_cases c14 : x4_1 < (l0.length : Int)
            ·rw [if_pos c14] at H
             have c14b0 : decide (x4_1 < (l0.length : Int)) = true := decide_eq_true c14
             clear c14
             by_cases c15 : x5_2 < (((rd_T35 l0 x4_1).f2).length : Int)
             ·rw [if_pos c15] at H
              have c15b0 : decide (x5_2 < (((rd_T35 l0 x4_1).f2).length : Int)) = true := decide_eq_true c15
              clear c15
              by_cases c16 : x3_2.size + 1 ≤ 9223372036854775807
              ·rw [if_pos c16] at H
               have c16b0 := eq_true c16
               have c16b1 : decide (x3_2.size + 1 ≤ 9223372036854775807) = true := decide_eq_true c16
               try have c16b2 : (9223372036854775807 < x3_2.size + 1) = False := eq_false (Nat.not_lt.2 c16)
               by_cases c17 : 0 ≤ x5_2
               ·rw [if_pos c17] at H
                have c17b0 : decide (0 ≤ x5_2) = true := decide_eq_true c17
                clear c17
                replace H := Option.bind_eq_some_iff.mp H
                obtain ⟨t180, A180, H⟩ := H
                replace H : (if (x3_2 ++ (⟨#[32]⟩ : ByteArray)).size + t180.size ≤ 9223372036854775807 then (flongref05_Write.l1 k2 l0 ((x3_2 ++ (⟨#[32]⟩ : ByteArray)) ++ t180) x4_1 (wrap64 (x5_2 + 1))) else (none)) = some r := H
                have A18 := Aside0.mk A180
                clear A180
                by_cases c19 : (x3_2 ++ (⟨#[32]⟩ : ByteArray)).size + t180.size ≤ 9223372036854775807
                ·rw [if_pos c19] at H
                 have c19b0 := eq_true c19
                 have c19b1 : decide ((x3_2 ++ (⟨#[32]⟩ : ByteArray)).size + t180.size ≤ 9223372036854775807) = true := decide_eq_true c19
                 try have c19b2 : (9223372036854775807 < (x3_2 ++ (⟨#[32]⟩ : ByteArray)).size + t180.size) = False := eq_false (Nat.not_lt.2 c19)
                 (try (have c19n := c19; simp only [ByteArray.size_append'] at c19n; have c19b3 := eq_false (Nat.not_lt.2 c19n); have c19b4 := eq_true c19n; clear c19n))
                 (try (have c19k := c19; simp only [ByteArray.size_append', show (⟨#[32]⟩ : ByteArray).size = 1 from rfl] at c19k; have c19b7 := eq_false (Nat.not_lt.2 c19k); have c19b8 := eq_true c19k; clear c19k))
                 have H' := Aside0.mk H
                 clear H
                 have p177 : 0 ≤ (x4_1 : Int) := of_decide_eq_true asA
                 have q177 : x4_1 < (l0.length : Int) := of_decide_eq_true asA
                 obtain ⟨ad177, A177_2, c177_2, e177, hx177_0, hx177_1, hx177_2, hx177_3, hl177_2, hi177_2⟩ := at_T35 HR0.out x4_1 p177 q177
                 obtain rfl : ad172 = ad177 := (by injection e177)
                 replace hx177_0 := (HB.out.cell (World.block_lt_of_cell? w _ hx177_0)).trans hx177_0
                 replace hx177_1 := (HB.out.cell (World.block_lt_of_cell? w _ hx177_1)).trans hx177_1
                 replace hx177_2 := (HB.out.cell (World.block_lt_of_cell? w _ hx177_2)).trans hx177_2
                 replace hx177_3 := (HB.out.cell (World.block_lt_of_cell? w _ hx177_3)).trans hx177_3
                 have HR177_2 := Aside0.mk hi177_2
                 have HC177_2 := Aside0.mk hl177_2
                 clear hi177_2 hl177_2
                 replace p177 := eq_true p177
                 replace q177 := eq_true q177
                 have p178 : 0 ≤ (x4_1 : Int) := of_decide_eq_true asA
                 have q178 : x4_1 < (l0.length : Int) := of_decide_eq_true asA
                 obtain ⟨ad178, A178_2, c178_2, e178, hx178_0, hx178_1, hx178_2, hx178_3, hl178_2, hi178_2⟩ := at_T35 HR0.out x4_1 p178 q178
                 obtain rfl : ad172 = ad178 := (by injection e178)
                 replace hx178_0 := (HB.out.cell (World.block_lt_of_cell? w _ hx178_0)).trans hx178_0
                 replace hx178_1 := (HB.out.cell (World.block_lt_of_cell? w _ hx178_1)).trans hx178_1
                 replace hx178_2 := (HB.out.cell (World.block_lt_of_cell? w _ hx178_2)).trans hx178_2
                 replace hx178_3 := (HB.out.cell (World.block_lt_of_cell? w _ hx178_3)).trans hx178_3
                 have HR178_2 := Aside0.mk hi178_2
                 have HC178_2 := Aside0.mk hl178_2
                 clear hi178_2 hl178_2
                 replace p178 := eq_true p178
                 replace q178 := eq_true q178
                 have ea_ := Option.some.inj (hx177_2.symm.trans hx178_2)
                 injection ea_ with ea_ en_ ec_
                 subst ea_
                 subst ec_
                 clear en_
                 have p179 : 0 ≤ (x5_2 : Int) := of_decide_eq_true asA
                 have q179 : x5_2 < (((rd_T35 l0 x4_1).f2).length : Int) := of_decide_eq_true asA
                 obtain ⟨ad179, e179, hx179_0⟩ := Kd.at_string HR178_2.out x5_2 p179 q179
                 cases e179
                 replace hx179_0 := (HB.out.cell (World.block_lt_of_cell? w _ hx179_0)).trans hx179_0
                 replace p179 := eq_true p179
                 replace q179 := eq_true q179
                 go_wp2_with (first | ((with_reducible refine gate_callee (f := 16) rfl ?_); refine goesL_ (some 60) rfl rfl Tryd.func16 (by kernel_rfl) rfl #[.string (rdOf ByteArray.empty ((rd_T35 l0 x4_1).f2) x5_2)] rfl aP ?_; (with_reducible refine (flongref05_Quoted.calls k2 (rdOf ByteArray.empty ((rd_T35 l0 x4_1).f2) x5_2) t180 _ A18.out).mono ?_); rintro e w' ⟨rfl, ⟨nd, rfl⟩⟩; refine ⟨_, rfl, ?_⟩))
                 go_roundg k2
                 case measure => have := HK1.out; have := HK2.out; omega
                 case rel => exact ⟨((x3_2 ++ (⟨#[32]⟩ : ByteArray)) ++ t180), (wrap64 (x5_2 + 1)), sA, sA, H', ⟨by have := HK1.out; have := HK2.out; omega⟩, ⟨bA⟩⟩
                ·rw [if_neg c19] at H
                 exact absurd H (by simp)
               ·rw [if_neg c17] at H
                exact absurd H (by simp)
              ·rw [if_neg c16] at H
               exact absurd H (by simp)
             ·rw [if_neg c15] at H
              have c15b0 : decide (x5_2 < (((rd_T35 l0 x4_1).f2).length : Int)) = false := decide_eq_false c15
              clear c15
              by_cases c20 : x3_2.size + 1 ≤ 9223372036854775807
              ·rw [if_pos c20] at H
               have c20b0 := eq_true c20
               have c20b1 : decide (x3_2.size + 1 ≤ 9223372036854775807) = true := decide_eq_true c20
               try have c20b2 : (9223372036854775807 < x3_2.size + 1) = False := eq_false (Nat.not_lt.2 c20)
               have H' := Aside0.mk H
               clear H
               have p177 : 0 ≤ (x4_1 : Int) := of_decide_eq_true asA
               have q177 : x4_1 < (l0.length : Int) := of_decide_eq_true asA
               obtain ⟨ad177, A177_2, c177_2, e177, hx177_0, hx177_1, hx177_2, hx177_3, hl177_2, hi177_2⟩ := at_T35 HR0.out x4_1 p177 q177
               obtain rfl : ad172 = ad177 := (by injection e177)
               replace hx177_0 := (HB.out.cell (World.block_lt_of_cell? w _ hx177_0)).trans hx177_0
               replace hx177_1 := (HB.out.cell (World.block_lt_of_cell? w _ hx177_1)).trans hx177_1
               replace hx177_2 := (HB.out.cell (World.block_lt_of_cell? w _ hx177_2)).trans hx177_2
               replace hx177_3 := (HB.out.cell (World.block_lt_of_cell? w _ hx177_3)).trans hx177_3
               have HR177_2 := Aside0.mk hi177_2
               have HC177_2 := Aside0.mk hl177_2
               clear hi177_2 hl177_2
               replace p177 := eq_true p177
               replace q177 := eq_true q177
               go_wp2
               go_roundg k2
               case measure => have := HK1.out; have := HK2.out; omega
               case rel => exact ⟨(x3_2 ++ (⟨#[10]⟩ : ByteArray)), (wrap64 (x4_1 + 1)), sA, sA, H', ⟨by have := HK1.out; have := HK2.out; omega⟩, ⟨bA⟩⟩
              ·rw [if_neg c20] at H
               exact absurd H (by simp)
            ·rw [if_neg c14] at H
             exact absurd H (by simp)
           ·rw [if_neg c13] at H
            exact absurd H (by simp)
        ·rw [if_neg c11] at H
         exact absurd H (by simp)
       ·rw [if_neg c10] at H
        exact absurd H (by simp)
     ·rw [if_neg c5] at H
      have c5b0 : (t173 == 0) = false := beq_eq_false_iff_ne.mpr c5
      have c5b1 : (t173 != 0) = true := bne_iff_ne.mpr c5
      have H' := Aside0.mk H
      clear H
      have p172 : 0 ≤ (x4_1 : Int) := of_decide_eq_true asA
      have q172 : x4_1 < (l0.length : Int) := of_decide_eq_true asA
      obtain ⟨ad172, A172_2, c172_2, e172, hx172_0, hx172_1, hx172_2, hx172_3, hl172_2, hi172_2⟩ := at_T35 HR0.out x4_1 p172 q172
      cases e172
      replace hx172_0 := (HB.out.cell (World.block_lt_of_cell? w _ hx172_0)).trans hx172_0
      replace hx172_1 := (HB.out.cell (World.block_lt_of_cell? w _ hx172_1)).trans hx172_1
      replace hx172_2 := (HB.out.cell (World.block_lt_of_cell? w _ hx172_2)).trans hx172_2
      replace hx172_3 := (HB.out.cell (World.block_lt_of_cell? w _ hx172_3)).trans hx172_3
      have HR172_2 := Aside0.mk hi172_2
      have HC172_2 := Aside0.mk hl172_2
      clear hi172_2 hl172_2
      replace p172 := eq_true p172
      replace q172 := eq_true q172
      go_wp2_with (first | ((with_reducible refine gate_callee (f := 22) rfl ?_); refine goesL_ (some 16) rfl rfl Tryd.func22 (by kernel_rfl) rfl #[.agg #[.int .i64 ((rd_T35 l0 x4_1).f0), .string ((rd_T35 l0 x4_1).f1), .slice A172_2 ((rd_T35 l0 x4_1).f2).length c172_2, .string ((rd_T35 l0 x4_1).f3)]] rfl aP ?_; (with_reducible refine (flongref05_Check.calls k1 ((rd_T35 l0 x4_1).f0) ((rd_T35 l0 x4_1).f1) _ _ ((rd_T35 l0 x4_1).f2) ((rd_T35 l0 x4_1).f3) t173 _ ?side1 ?side2 A4.out).mono ?_); (case side1 => repeat (first | exact (Kd.C_below HR172_2.out HB.out) | (with_reducible refine Kd.C_alloc ?_ _) | (with_reducible refine Kd.C_drewN ?_ _) | (with_reducible refine Kd.C_drew ?_))); (case side2 => exact HC172_2.out); rintro e w21 ⟨rfl, hb⟩; refine ⟨_, rfl, ?_⟩; replace HB := Aside0.mk (below_step bA hb); (try clear hb); (try clear hb2); (try clear hk); (try clear hi)))
      go_roundg k1
      case measure => have := HK1.out; omega
      case rel => exact ⟨(x3_1), (wrap64 (x4_1 + 1)), sA, sA, H', ⟨by have := HK1.out; omega⟩, ⟨bA⟩⟩
    ·rw [if_neg c3] at H
     exact absurd H (by simp)
   ·rw [if_neg c2] at H
    have c2b0 : decide (x4_1 < (l0.length : Int)) = false := decide_eq_false c2
    clear c2
    obtain rfl := Option.some.inj H
    go_wp2
    go_ret
    exact ⟨eW, bA⟩

end Go.Proofs.YtmfkokjbjmahkaaDoor.X
