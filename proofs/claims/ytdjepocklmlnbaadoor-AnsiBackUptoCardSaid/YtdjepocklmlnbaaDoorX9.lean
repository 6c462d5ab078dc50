-- Written by this session's xprint.py (a variant of the kit's printer). Not trusted: Lean checks it.
import Derived.Test.YtdjepocklmlnbaaDoorX0
import Derived.Test.YtdjepocklmlnbaaDoorX8
namespace Go.Proofs.YtdjepocklmlnbaaDoor.X
open Go.RowKit Go.Proofs.YtdjepocklmlnbaaDoorW.PrintWords Go.Proofs.YtdjepocklmlnbaaDoorW.PrintLast Go.Proofs.YtdjepocklmlnbaaDoorW.PrintMore
attribute [local go_sem] max2_int min2_int max_two min_two max_three min_three max_four min_four   -- for this text's walks alone
set_option linter.unusedVariables false
set_option maxHeartbeats 8000000
set_option maxRecDepth 100000
set_option linter.unusedSimpArgs false

/-! ### flongref02_Control: function 60 -/
def flongref02_Control.f (a0 : Int) : Option (Bool) := if a0 ≥ 0 then (if a0 ≤ 31 then (some true) else (if a0 ≥ 127 then (if a0 ≤ 159 then (some true) else (if a0 = 8232 then (some true) else (some (a0 == 8233)))) else (if a0 = 8232 then (some true) else (some (a0 == 8233))))) else (if a0 ≥ 127 then (if a0 ≤ 159 then (some true) else (if a0 = 8232 then (some true) else (some (a0 == 8233)))) else (if a0 = 8232 then (some true) else (some (a0 == 8233))))
theorem flongref02_Control.calls (a0 : Int) (r : Bool) (w : World) (h : flongref02_Control.f a0 = some r) :
  Calls Tryd.prog 60 #[.int .i32 a0] w fun e w' => e = .returned (.bool r) ∧ Drawn0 w w' := by
 have H : (if a0 ≥ 0 then (if a0 ≤ 31 then (some true) else (if a0 ≥ 127 then (if a0 ≤ 159 then (some true) else (if a0 = 8232 then (some true) else (some (a0 == 8233)))) else (if a0 = 8232 then (some true) else (some (a0 == 8233))))) else (if a0 ≥ 127 then (if a0 ≤ 159 then (some true) else (if a0 = 8232 then (some true) else (some (a0 == 8233)))) else (if a0 = 8232 then (some true) else (some (a0 == 8233))))) = some r := h
 clear h
 by_cases c2 : a0 ≥ 0
 ·rw [if_pos c2] at H
  have c2b0 : decide (0 ≤ a0) = true := decide_eq_true c2
  clear c2
  by_cases c3 : a0 ≤ 31
  ·rw [if_pos c3] at H
   have c3b0 : decide (a0 ≤ 31) = true := decide_eq_true c3
   clear c3
   obtain rfl := Option.some.inj H
   go_enter Tryd.func60, Tryd.ntmps60
   go_wp2
   go_ret
   exact ⟨by first | rfl | (simp; done) | (simp [*]; done), by repeat (first | exact Drawn0.refl _ | apply Drawn0.step)⟩
  ·rw [if_neg c3] at H
   have c3b0 : decide (a0 ≤ 31) = false := decide_eq_false c3
   clear c3
   by_cases c4 : a0 ≥ 127
   ·rw [if_pos c4] at H
    have c4b0 : decide (127 ≤ a0) = true := decide_eq_true c4
    clear c4
    by_cases c5 : a0 ≤ 159
    ·rw [if_pos c5] at H
     have c5b0 : decide (a0 ≤ 159) = true := decide_eq_true c5
     clear c5
     obtain rfl := Option.some.inj H
     go_enter Tryd.func60, Tryd.ntmps60
     go_wp2
     go_ret
     exact ⟨by first | rfl | (simp; done) | (simp [*]; done), by repeat (first | exact Drawn0.refl _ | apply Drawn0.step)⟩
    ·rw [if_neg c5] at H
     have c5b0 : decide (a0 ≤ 159) = false := decide_eq_false c5
     clear c5
     by_cases c6 : a0 = 8232
     ·rw [if_pos c6] at H
      have c6b0 : (a0 == 8232) = true := beq_iff_eq.mpr c6
      have c6b1 : (a0 != 8232) = false := bne_eq_false_iff_eq.mpr c6
      clear c6
      obtain rfl := Option.some.inj H
      go_enter Tryd.func60, Tryd.ntmps60
      go_wp2
      go_ret
      exact ⟨by first | rfl | (simp; done) | (simp [*]; done), by repeat (first | exact Drawn0.refl _ | apply Drawn0.step)⟩
     ·rw [if_neg c6] at H
      have c6b0 : (a0 == 8232) = false := beq_eq_false_iff_ne.mpr c6
      have c6b1 : (a0 != 8232) = true := bne_iff_ne.mpr c6
      obtain rfl := Option.some.inj H
      go_enter Tryd.func60, Tryd.ntmps60
      go_wp2
      go_ret
      exact ⟨by first | rfl | (simp; done) | (simp [*]; done), by repeat (first | exact Drawn0.refl _ | apply Drawn0.step)⟩
   ·rw [if_neg c4] at H
    have c4b0 : decide (127 ≤ a0) = false := decide_eq_false c4
    clear c4
    by_cases c7 : a0 = 8232
    ·rw [if_pos c7] at H
     have c7b0 : (a0 == 8232) = true := beq_iff_eq.mpr c7
     have c7b1 : (a0 != 8232) = false := bne_eq_false_iff_eq.mpr c7
     clear c7
     obtain rfl := Option.some.inj H
     go_enter Tryd.func60, Tryd.ntmps60
     go_wp2
     go_ret
     exact ⟨by first | rfl | (simp; done) | (simp [*]; done), by repeat (first | exact Drawn0.refl _ | apply Drawn0.step)⟩
    ·rw [if_neg c7] at H
     have c7b0 : (a0 == 8232) = false := beq_eq_false_iff_ne.mpr c7
     have c7b1 : (a0 != 8232) = true := bne_iff_ne.mpr c7
     obtain rfl := Option.some.inj H
     go_enter Tryd.func60, Tryd.ntmps60
     go_wp2
     go_ret
     exact ⟨by first | rfl | (simp; done) | (simp [*]; done), by repeat (first | exact Drawn0.refl _ | apply Drawn0.step)⟩
 ·rw [if_neg c2] at H
  have c2b0 : decide (0 ≤ a0) = false := decide_eq_false c2
  clear c2
  by_cases c8 : a0 ≥ 127
  ·rw [if_pos c8] at H
   have c8b0 : decide (127 ≤ a0) = true := decide_eq_true c8
   clear c8
   by_cases c9 : a0 ≤ 159
   ·rw [if_pos c9] at H
    have c9b0 : decide (a0 ≤ 159) = true := decide_eq_true c9
    clear c9
    obtain rfl := Option.some.inj H
    go_enter Tryd.func60, Tryd.ntmps60
    go_wp2
    go_ret
    exact ⟨by first | rfl | (simp; done) | (simp [*]; done), by repeat (first | exact Drawn0.refl _ | apply Drawn0.step)⟩
   ·rw [if_neg c9] at H
    have c9b0 : decide (a0 ≤ 159) = false := decide_eq_false c9
    clear c9
    by_cases c10 : a0 = 8232
    ·rw [if_pos c10] at H
     have c10b0 : (a0 == 8232) = true := beq_iff_eq.mpr c10
     have c10b1 : (a0 != 8232) = false := bne_eq_false_iff_eq.mpr c10
     clear c10
     obtain rfl := Option.some.inj H
     go_enter Tryd.func60, Tryd.ntmps60
     go_wp2
     go_ret
     exact ⟨by first | rfl | (simp; done) | (simp [*]; done), by repeat (first | exact Drawn0.refl _ | apply Drawn0.step)⟩
    ·rw [if_neg c10] at H
     have c10b0 : (a0 == 8232) = false := beq_eq_false_iff_ne.mpr c10
     have c10b1 : (a0 != 8232) = true := bne_iff_ne.mpr c10
     obtain rfl := Option.some.inj H
     go_enter Tryd.func60, Tryd.ntmps60
     go_wp2
     go_ret
     exact ⟨by first | rfl | (simp; done) | (simp [*]; done), by repeat (first | exact Drawn0.refl _ | apply Drawn0.step)⟩
  ·rw [if_neg c8] at H
   have c8b0 : decide (127 ≤ a0) = false := decide_eq_false c8
   clear c8
   by_cases c11 : a0 = 8232
   ·rw [if_pos c11] at H
    have c11b0 : (a0 == 8232) = true := beq_iff_eq.mpr c11
    have c11b1 : (a0 != 8232) = false := bne_eq_false_iff_eq.mpr c11
    clear c11
    obtain rfl := Option.some.inj H
    go_enter Tryd.func60, Tryd.ntmps60
    go_wp2
    go_ret
    exact ⟨by first | rfl | (simp; done) | (simp [*]; done), by repeat (first | exact Drawn0.refl _ | apply Drawn0.step)⟩
   ·rw [if_neg c11] at H
    have c11b0 : (a0 == 8232) = false := beq_eq_false_iff_ne.mpr c11
    have c11b1 : (a0 != 8232) = true := bne_iff_ne.mpr c11
    obtain rfl := Option.some.inj H
    go_enter Tryd.func60, Tryd.ntmps60
    go_wp2
    go_ret
    exact ⟨by first | rfl | (simp; done) | (simp [*]; done), by repeat (first | exact Drawn0.refl _ | apply Drawn0.step)⟩

/-! ### flongref02_within: function 61 -/
def flongref02_within.l0 : Nat → Int → List Int → Int → Option (Bool)
 | 0, _, _, _ => none
 | k + 1, x0, x1, x5 => if (wrap64 (x5 + 1)) < (x1.length : Int) then (if 0 ≤ x5 then (if x5 < (x1.length : Int) then (if x0 ≥ (rd x1 x5) then (if 0 ≤ (wrap64 (x5 + 1)) then (if x0 ≤ (rd x1 (wrap64 (x5 + 1))) then (some true) else (flongref02_within.l0 k x0 x1 (wrap64 (x5 + 2)))) else (none)) else (flongref02_within.l0 k x0 x1 (wrap64 (x5 + 2)))) else (none)) else (none)) else (some false)
def flongref02_within.f (k : Nat) (a0 : Int) (l1 : List Int) : Option (Bool) := flongref02_within.l0 k a0 l1 0
theorem flongref02_within.mono_l : ∀ k, (∀ y0 y1 y2, LeO (flongref02_within.l0 k y0 y1 y2) (flongref02_within.l0 (k + 1) y0 y1 y2))
 | 0 => fun _ _ _ r h => by simp [flongref02_within.l0] at h
 | k + 1 => by
  have ih0 := flongref02_within.mono_l k
  ·intro y0 y1 y2
   unfold flongref02_within.l0
   repeat' first
   | (with_reducible exact ih0 _ _ _)
   | (with_reducible exact LeO.refl _)
   | (with_reducible exact LeO.none _)
   | (with_reducible refine LeO.ite ?_ ?_)
   | (with_reducible refine LeO.bind ?_ (fun _ => ?_))
theorem flongref02_within.mono : ∀ a0 a1 k, LeO (flongref02_within.f k a0 a1) (flongref02_within.f (k + 1) a0 a1) := by
 intro a0 a1 k
 have ih0 := flongref02_within.mono_l k
 unfold flongref02_within.f
 repeat' first
   | (with_reducible exact ih0 _ _ _)
   | (with_reducible exact LeO.refl _)
   | (with_reducible exact LeO.none _)
   | (with_reducible refine LeO.ite ?_ ?_)
   | (with_reducible refine LeO.bind ?_ (fun _ => ?_))
theorem flongref02_within.calls (k : Nat) (a0 : Int) (A1 : Option Addr) (c1 : Nat) (l1 : List Int) (r : Bool) (w : World) (hr1 : Kd.C (Kd.int .i32) w A1 l1.length l1) (hc1 : l1.length ≤ c1) (h : flongref02_within.f k a0 l1 = some r) :
  Calls Tryd.prog 61 #[.int .i32 a0, .slice A1 l1.length c1] w fun e w' => e = .returned (.bool r) ∧ Drawn0 w w' := by
 have HR1 := Aside0.mk hr1
 have HC1 := Aside0.mk hc1
 clear hr1 hc1
 have H : (flongref02_within.l0 k a0 l1 0) = some r := h
 clear h
 have H' := Aside0.mk H
 clear H
 go_enter Tryd.func61, Tryd.ntmps61
 go_wp2
 go_loopg [5] k (fun kq v5 w' => ∃ (x5_1 : Int), v5 = .int .i64 x5_1 ∧ Aside0 (flongref02_within.l0 kq a0 l1 x5_1 = some r) ∧ Aside0 (kq ≤ k) ∧ Drawn0 w w')
 case atStart => exact ⟨(0), (by first | rfl | (simp; done) | (simp [*]; done)), H', ⟨Nat.le_refl _⟩, by repeat (first | exact Drawn0.refl _ | apply Drawn0.step)⟩
 case round =>
  clear H'
  try clear c1
  try clear p2
  obtain ⟨x5_1, rfl, HA, HK1, ⟨m1, rfl⟩⟩ := hrel
  cases gk with
  | zero => exact absurd HA.out (by simp [flongref02_within.l0])
  | succ k1 =>
   have H := HA.out
   clear HA
   simp only [flongref02_within.l0] at H
   by_cases c3 : (wrap64 (x5_1 + 1)) < (l1.length : Int)
   ·rw [if_pos c3] at H
    have c3b0 : decide ((wrap64 (x5_1 + 1)) < (l1.length : Int)) = true := decide_eq_true c3
    clear c3
    by_cases c4 : 0 ≤ x5_1
    ·rw [if_pos c4] at H
     have c4b0 : decide (0 ≤ x5_1) = true := decide_eq_true c4
     clear c4
     by_cases c5 : x5_1 < (l1.length : Int)
     ·rw [if_pos c5] at H
      have c5b0 : decide (x5_1 < (l1.length : Int)) = true := decide_eq_true c5
      clear c5
      by_cases c6 : a0 ≥ (rd l1 x5_1)
      ·rw [if_pos c6] at H
       have c6b0 : decide ((rd l1 x5_1) ≤ a0) = true := decide_eq_true c6
       clear c6
       obtain ⟨ji7, hji7⟩ : ∃ j_ : Int, (wrap64 (x5_1 + 1)) = j_ := ⟨_, rfl⟩
       replace H : (if 0 ≤ (ji7) then (if a0 ≤ (rd l1 (ji7)) then (some true) else (flongref02_within.l0 k1 a0 l1 (wrap64 (x5_1 + 2)))) else (none)) = some r := by first | (rw [hji7] at H; exact H) | (simp only [hji7] at H ⊢; exact H)
       (try rw [hji7] at c3b0)
       have hji7w : (IntKind.i64.wrap (x5_1 + 1)) = ji7 := (i64_w _).trans hji7
       by_cases c8 : 0 ≤ (ji7)
       ·rw [if_pos c8] at H
        have c8b0 : decide (0 ≤ (ji7)) = true := decide_eq_true c8
        clear c8
        by_cases c9 : a0 ≤ (rd l1 (ji7))
        ·rw [if_pos c9] at H
         have c9b0 : decide (a0 ≤ (rd l1 (ji7))) = true := decide_eq_true c9
         clear c9
         obtain rfl := Option.some.inj H
         have p242 : 0 ≤ (x5_1 : Int) := of_decide_eq_true (by first | (with_reducible assumption) | assumption)
         have q242 : x5_1 < (l1.length : Int) := of_decide_eq_true (by first | (with_reducible assumption) | assumption)
         obtain ⟨ad242, e242, hx242_0⟩ := Kd.at_int HR1.out x5_1 p242 q242
         cases e242
         replace p242 := eq_true p242
         replace q242 := eq_true q242
         have p243 : 0 ≤ ((ji7) : Int) := of_decide_eq_true (by first | (with_reducible assumption) | assumption)
         have q243 : (ji7) < (l1.length : Int) := of_decide_eq_true (by first | (with_reducible assumption) | assumption)
         obtain ⟨ad243, e243, hx243_0⟩ := Kd.at_int HR1.out (ji7) p243 q243
         obtain rfl : ad242 = ad243 := (by injection e243)
         replace p243 := eq_true p243
         replace q243 := eq_true q243
         go_wp2
         go_ret
         exact ⟨by first | rfl | (simp; done) | (simp only [← hji7] <;> (first | rfl | simp)) | (simp [*]; done), by repeat (first | exact Drawn0.refl _ | apply Drawn0.step)⟩
        ·rw [if_neg c9] at H
         have c9b0 : decide (a0 ≤ (rd l1 (ji7))) = false := decide_eq_false c9
         clear c9
         have H' := Aside0.mk H
         clear H
         have p242 : 0 ≤ (x5_1 : Int) := of_decide_eq_true (by first | (with_reducible assumption) | assumption)
         have q242 : x5_1 < (l1.length : Int) := of_decide_eq_true (by first | (with_reducible assumption) | assumption)
         obtain ⟨ad242, e242, hx242_0⟩ := Kd.at_int HR1.out x5_1 p242 q242
         cases e242
         replace p242 := eq_true p242
         replace q242 := eq_true q242
         have p243 : 0 ≤ ((ji7) : Int) := of_decide_eq_true (by first | (with_reducible assumption) | assumption)
         have q243 : (ji7) < (l1.length : Int) := of_decide_eq_true (by first | (with_reducible assumption) | assumption)
         obtain ⟨ad243, e243, hx243_0⟩ := Kd.at_int HR1.out (ji7) p243 q243
         obtain rfl : ad242 = ad243 := (by injection e243)
         replace p243 := eq_true p243
         replace q243 := eq_true q243
         go_wp2
         go_roundg k1
         case measure => have := HK1.out; omega
         case rel => exact ⟨(wrap64 (x5_1 + 2)), (by first | rfl | (simp; done) | (simp [*]; done)), H', ⟨by have := HK1.out; omega⟩, by repeat (first | exact Drawn0.refl _ | apply Drawn0.step)⟩
       ·rw [if_neg c8] at H
        exact absurd H (by simp)
      ·rw [if_neg c6] at H
       have c6b0 : decide ((rd l1 x5_1) ≤ a0) = false := decide_eq_false c6
       clear c6
       have H' := Aside0.mk H
       clear H
       have p242 : 0 ≤ (x5_1 : Int) := of_decide_eq_true (by first | (with_reducible assumption) | assumption)
       have q242 : x5_1 < (l1.length : Int) := of_decide_eq_true (by first | (with_reducible assumption) | assumption)
       obtain ⟨ad242, e242, hx242_0⟩ := Kd.at_int HR1.out x5_1 p242 q242
       cases e242
       replace p242 := eq_true p242
       replace q242 := eq_true q242
       go_wp2
       go_roundg k1
       case measure => have := HK1.out; omega
       case rel => exact ⟨(wrap64 (x5_1 + 2)), (by first | rfl | (simp; done) | (simp [*]; done)), H', ⟨by have := HK1.out; omega⟩, by repeat (first | exact Drawn0.refl _ | apply Drawn0.step)⟩
     ·rw [if_neg c5] at H
      exact absurd H (by simp)
    ·rw [if_neg c4] at H
     exact absurd H (by simp)
   ·rw [if_neg c3] at H
    have c3b0 : decide ((wrap64 (x5_1 + 1)) < (l1.length : Int)) = false := decide_eq_false c3
    clear c3
    obtain rfl := Option.some.inj H
    go_wp2
    go_ret
    exact ⟨by first | rfl | (simp; done) | (simp [*]; done), by repeat (first | exact Drawn0.refl _ | apply Drawn0.step)⟩

/-! ### flongref02_Width: function 43 -/
def flongref02_Width.j0 : Nat → Int → Bool → Option (Int)
 | 0, _, _ => none
 | k + 1, x0, x9 => if x9 = true then (some 0) else ((flongref02_within.f k x0 (([768, 879, 1155, 1161, 1425, 1469, 1552, 1562, 1611, 1631, 6832, 6911, 7616, 7679, 8203, 8207, 8400, 8447, 65024, 65039, 65056, 65071, 917760, 917999] : List Int))).bind fun t249 => (if t249 = true then (some 0) else ((flongref02_within.f k x0 (([4352, 4447, 9001, 9002, 11904, 12350, 12353, 13311, 13312, 19903, 19968, 42191, 43360, 43391, 44032, 55203, 63744, 64255, 65072, 65135, 65280, 65376, 65504, 65510, 127744, 128591, 129280, 129535, 131072, 196605, 196608, 262141] : List Int))).bind fun t253 => (if t253 = true then (some 2) else (some 1)))))
def flongref02_Width.f (k : Nat) (a0 : Int) : Option (Int) := (flongref02_Valid.f a0).bind fun t244 => (if t244 = true then ((flongref02_Control.f a0).bind fun t245 => (flongref02_Width.j0 k a0 t245)) else (flongref02_Width.j0 k a0 true))
theorem flongref02_Width.mono_l : ∀ k, (∀ y0 y1, LeO (flongref02_Width.j0 k y0 y1) (flongref02_Width.j0 (k + 1) y0 y1))
 | 0 => fun _ _ r h => by simp [flongref02_Width.j0] at h
 | k + 1 => by
  have ih0 := flongref02_Width.mono_l k
  ·intro y0 y1
   unfold flongref02_Width.j0
   repeat' first
   | (with_reducible exact ih0 _ _)
   | (with_reducible exact flongref02_within.mono _ _ _)
   | (with_reducible exact LeO.refl _)
   | (with_reducible exact LeO.none _)
   | (with_reducible refine LeO.ite ?_ ?_)
   | (with_reducible refine LeO.bind ?_ (fun _ => ?_))
theorem flongref02_Width.mono : ∀ a0 k, LeO (flongref02_Width.f k a0) (flongref02_Width.f (k + 1) a0) := by
 intro a0 k
 have ih0 := flongref02_Width.mono_l k
 unfold flongref02_Width.f
 repeat' first
   | (with_reducible exact ih0 _ _)
   | (with_reducible exact flongref02_within.mono _ _ _)
   | (with_reducible exact LeO.refl _)
   | (with_reducible exact LeO.none _)
   | (with_reducible refine LeO.ite ?_ ?_)
   | (with_reducible refine LeO.bind ?_ (fun _ => ?_))
theorem flongref02_Width.calls (k : Nat) (a0 : Int) (r : Int) (w : World) (h : flongref02_Width.f k a0 = some r) :
  Calls Tryd.prog 43 #[.int .i32 a0] w fun e w' => e = .returned (.int .i64 r) ∧ Below w.heap.size w w' := by
 have HB := Aside0.mk (Below.refl w.heap.size w)
 have H : ((flongref02_Valid.f a0).bind fun t244 => (if t244 = true then ((flongref02_Control.f a0).bind fun t245 => (flongref02_Width.j0 k a0 t245)) else (flongref02_Width.j0 k a0 true))) = some r := h
 clear h
 have HC2 := Aside0.mk H
 clear H
 go_enter Tryd.func43, Tryd.ntmps43
 go_upto_region 1 with (fail)
 go_cut [9] (fun v9 wc => ∃ (kq : Nat) (x9_1 : Bool), v9 = .bool x9_1 ∧ Aside0 (flongref02_Width.j0 kq a0 x9_1 = some r) ∧ Aside0 (kq ≤ k) ∧ Aside0 (Below w.heap.size w wc))
 case first =>
  have H := HC2.out
  clear HC2
  replace H := Option.bind_eq_some_iff.mp H
  obtain ⟨t244, A30, H⟩ := H
  replace H : (if t244 = true then ((flongref02_Control.f a0).bind fun t245 => (flongref02_Width.j0 k a0 t245)) else (flongref02_Width.j0 k a0 true)) = some r := H
  have A3 := Aside0.mk A30
  clear A30
  by_cases c4 : t244 = true
  ·subst c4
   have H1 : ((flongref02_Control.f a0).bind fun t245 => (flongref02_Width.j0 k a0 t245)) = some r := by rw [if_pos rfl] at H; exact H
   clear H
   have H := H1
   clear H1
   replace H := Option.bind_eq_some_iff.mp H
   obtain ⟨t245, A50, H⟩ := H
   replace H : (flongref02_Width.j0 k a0 t245) = some r := H
   have A5 := Aside0.mk A50
   clear A50
   have H' := Aside0.mk H
   clear H
   go_wp2_with (first | ((with_reducible refine gate_callee (f := 58) rfl ?_); refine goesL_ (some 4) rfl rfl Tryd.func58 (by kernel_rfl) rfl #[.int .i32 a0] rfl (by (try simp only [List.map_toArray, List.map_cons, List.map_nil]); first | done | rfl | (simp only [List.length_drop, List.length_take]; rfl)) ?_; (with_reducible refine (flongref02_Valid.calls a0 true _ A3.out).mono ?_); rintro e w' ⟨rfl, ⟨nd, rfl⟩⟩; refine ⟨_, rfl, ?_⟩) | (go_at_call 60; (with_reducible refine (flongref02_Control.calls a0 t245 _ A5.out).mono ?_); rintro e w' ⟨rfl, ⟨nd, rfl⟩⟩))
   go_meet
   case rel => exact ⟨_, (t245), (by first | rfl | (simp; done) | (simp [*]; done)), H', ⟨by first | omega | exact Nat.le_refl _⟩, ⟨by repeat (first | (with_reducible first | exact HB.out | apply below_alloc | apply pw_below_drewN | apply below_drew1) | exact HB.out)⟩⟩
  ·replace c4 := Bool.eq_false_iff.mpr c4
   subst c4
   have H1 : (flongref02_Width.j0 k a0 true) = some r := by rw [if_neg (show ¬ (false = true) by decide)] at H; exact H
   clear H
   have H := H1
   clear H1
   have H' := Aside0.mk H
   clear H
   go_wp2_with (first | ((with_reducible refine gate_callee (f := 58) rfl ?_); refine goesL_ (some 4) rfl rfl Tryd.func58 (by kernel_rfl) rfl #[.int .i32 a0] rfl (by (try simp only [List.map_toArray, List.map_cons, List.map_nil]); first | done | rfl | (simp only [List.length_drop, List.length_take]; rfl)) ?_; (with_reducible refine (flongref02_Valid.calls a0 false _ A3.out).mono ?_); rintro e w' ⟨rfl, ⟨nd, rfl⟩⟩; refine ⟨_, rfl, ?_⟩))
   go_meet
   case rel => exact ⟨_, (true), (by first | rfl | (simp; done) | (simp [*]; done)), H', ⟨by first | omega | exact Nat.le_refl _⟩, ⟨by repeat (first | (with_reducible first | exact HB.out | apply below_alloc | apply pw_below_drewN | apply below_drew1) | exact HB.out)⟩⟩
 case rest =>
  clear HC2
  try clear p2
  try clear c4
  try clear c5
  obtain ⟨kq, x9_1, rfl, HA, HJ1, HB⟩ := hcut
  cases kq with
  | zero => exact absurd HA.out (by simp [flongref02_Width.j0])
  | succ kj1 =>
   have H := HA.out
   clear HA
   simp only [flongref02_Width.j0] at H
   by_cases c6 : x9_1 = true
   ·subst c6
    have H1 : (some 0) = some r := by rw [if_pos rfl] at H; exact H
    clear H
    have H := H1
    clear H1
    obtain rfl := Option.some.inj H
    go_wp2
    go_ret
    exact ⟨by first | rfl | (simp [errW_none, errW_some] <;> rfl) | (simp [*, errW_none, errW_some] <;> rfl), by repeat (first | (with_reducible first | exact HB.out | apply below_alloc | apply pw_below_drewN | apply below_drew1) | exact HB.out)⟩
   ·replace c6 := Bool.eq_false_iff.mpr c6
    subst c6
    have H1 : ((flongref02_within.f kj1 a0 (([768, 879, 1155, 1161, 1425, 1469, 1552, 1562, 1611, 1631, 6832, 6911, 7616, 7679, 8203, 8207, 8400, 8447, 65024, 65039, 65056, 65071, 917760, 917999] : List Int))).bind fun t249 => (if t249 = true then (some 0) else ((flongref02_within.f kj1 a0 (([4352, 4447, 9001, 9002, 11904, 12350, 12353, 13311, 13312, 19903, 19968, 42191, 43360, 43391, 44032, 55203, 63744, 64255, 65072, 65135, 65280, 65376, 65504, 65510, 127744, 128591, 129280, 129535, 131072, 196605, 196608, 262141] : List Int))).bind fun t253 => (if t253 = true then (some 2) else (some 1))))) = some r := by rw [if_neg (show ¬ (false = true) by decide)] at H; exact H
    clear H
    have H := H1
    clear H1
    obtain ⟨y246, hy246⟩ : ∃ y_ : List Int, y_ = (([768, 879, 1155, 1161, 1425, 1469, 1552, 1562, 1611, 1631, 6832, 6911, 7616, 7679, 8203, 8207, 8400, 8447, 65024, 65039, 65056, 65071, 917760, 917999] : List Int)) := ⟨_, rfl⟩
    replace H : ((flongref02_within.f kj1 a0 y246).bind fun t249 => (if t249 = true then (some 0) else ((flongref02_within.f kj1 a0 (([4352, 4447, 9001, 9002, 11904, 12350, 12353, 13311, 13312, 19903, 19968, 42191, 43360, 43391, 44032, 55203, 63744, 64255, 65072, 65135, 65280, 65376, 65504, 65510, 127744, 128591, 129280, 129535, 131072, 196605, 196608, 262141] : List Int))).bind fun t253 => (if t253 = true then (some 2) else (some 1))))) = some r := by first | (rw [hy246]; with_reducible exact H) | (have H2_ := (Option.bind_some _ _).symm.trans H; rw [hy246]; with_reducible exact H2_) | (have H2_ := (Option.bind_some _ _).symm.trans H; with_reducible exact H2_) | with_reducible exact H | (rw [hy246]; exact H) | exact H
    have Ny246 := Aside0.mk hy246
    clear hy246
    replace H := Option.bind_eq_some_iff.mp H
    obtain ⟨t249, A70, H⟩ := H
    replace H : (if t249 = true then (some 0) else ((flongref02_within.f kj1 a0 (([4352, 4447, 9001, 9002, 11904, 12350, 12353, 13311, 13312, 19903, 19968, 42191, 43360, 43391, 44032, 55203, 63744, 64255, 65072, 65135, 65280, 65376, 65504, 65510, 127744, 128591, 129280, 129535, 131072, 196605, 196608, 262141] : List Int))).bind fun t253 => (if t253 = true then (some 2) else (some 1)))) = some r := H
    have A7 := Aside0.mk A70
    clear A70
    by_cases c8 : t249 = true
    ·subst c8
     have H1 : (some 0) = some r := by rw [if_pos rfl] at H; exact H
     clear H
     have H := H1
     clear H1
     obtain rfl := Option.some.inj H
     go_wp2_with (first | ((with_reducible refine gate_dst (N := 11) rfl ?_); refine Kd.R_lit (Kd.int .i32) _ 21 ?hg (N := 11) ?hd (xs := ([768, 879, 1155, 1161, 1425, 1469, 1552, 1562, 1611, 1631, 6832, 6911, 7616, 7679, 8203, 8207, 8400, 8447, 65024, 65039, 65056, 65071, 917760, 917999] : List Int)) (inner := [.int .i32 768, .int .i32 879, .int .i32 1155, .int .i32 1161, .int .i32 1425, .int .i32 1469, .int .i32 1552, .int .i32 1562, .int .i32 1611, .int .i32 1631, .int .i32 6832, .int .i32 6911, .int .i32 7616, .int .i32 7679, .int .i32 8203, .int .i32 8207, .int .i32 8400, .int .i32 8447, .int .i32 65024, .int .i32 65039, .int .i32 65056, .int .i32 65071, .int .i32 917760, .int .i32 917999]) (ok := fun _ => True) (okp := fun _ => True) ?hr ?hp (fun _ hk => hk) trivial (Below.refl _ _) (Nat.le_refl _) (by simp) ?_; (case hd => rfl); (case hg => rfl); (case hr => first | (go_simp; done) | (go_simp; rfl)); (case hp => exact (Reps.one (show Kd.M (Kd.int .i32) _ _ _ 768 [.int .i32 768] from rfl) (Reps.one (show Kd.M (Kd.int .i32) _ _ _ 879 [.int .i32 879] from rfl) (Reps.one (show Kd.M (Kd.int .i32) _ _ _ 1155 [.int .i32 1155] from rfl) (Reps.one (show Kd.M (Kd.int .i32) _ _ _ 1161 [.int .i32 1161] from rfl) (Reps.one (show Kd.M (Kd.int .i32) _ _ _ 1425 [.int .i32 1425] from rfl) (Reps.one (show Kd.M (Kd.int .i32) _ _ _ 1469 [.int .i32 1469] from rfl) (Reps.one (show Kd.M (Kd.int .i32) _ _ _ 1552 [.int .i32 1552] from rfl) (Reps.one (show Kd.M (Kd.int .i32) _ _ _ 1562 [.int .i32 1562] from rfl) (Reps.one (show Kd.M (Kd.int .i32) _ _ _ 1611 [.int .i32 1611] from rfl) (Reps.one (show Kd.M (Kd.int .i32) _ _ _ 1631 [.int .i32 1631] from rfl) (Reps.one (show Kd.M (Kd.int .i32) _ _ _ 6832 [.int .i32 6832] from rfl) (Reps.one (show Kd.M (Kd.int .i32) _ _ _ 6911 [.int .i32 6911] from rfl) (Reps.one (show Kd.M (Kd.int .i32) _ _ _ 7616 [.int .i32 7616] from rfl) (Reps.one (show Kd.M (Kd.int .i32) _ _ _ 7679 [.int .i32 7679] from rfl) (Reps.one (show Kd.M (Kd.int .i32) _ _ _ 8203 [.int .i32 8203] from rfl) (Reps.one (show Kd.M (Kd.int .i32) _ _ _ 8207 [.int .i32 8207] from rfl) (Reps.one (show Kd.M (Kd.int .i32) _ _ _ 8400 [.int .i32 8400] from rfl) (Reps.one (show Kd.M (Kd.int .i32) _ _ _ 8447 [.int .i32 8447] from rfl) (Reps.one (show Kd.M (Kd.int .i32) _ _ _ 65024 [.int .i32 65024] from rfl) (Reps.one (show Kd.M (Kd.int .i32) _ _ _ 65039 [.int .i32 65039] from rfl) (Reps.one (show Kd.M (Kd.int .i32) _ _ _ 65056 [.int .i32 65056] from rfl) (Reps.one (show Kd.M (Kd.int .i32) _ _ _ 65071 [.int .i32 65071] from rfl) (Reps.one (show Kd.M (Kd.int .i32) _ _ _ 917760 [.int .i32 917760] from rfl) (Reps.one (show Kd.M (Kd.int .i32) _ _ _ 917999 [.int .i32 917999] from rfl) (Reps.none _ _)))))))))))))))))))))))))); intro v247 w9 ho10 hb hg_ hnew_; clear hg_ hnew_; (first | rw [← Ny246.out] at ho10 | (simp only [Int.reduceToNat] at ho10; rw [← Ny246.out] at ho10)); have n0_ := Aside0.mk (Kd.R_lower ho10 (below_size (by repeat (first | (with_reducible first | exact HB.out | apply below_alloc | apply pw_below_drewN | apply below_drew1) | exact HB.out)))); have n1_ := Aside0.mk (below_step (by repeat (first | (with_reducible first | exact HB.out | apply below_alloc | apply pw_below_drewN | apply below_drew1) | exact HB.out)) hb); clear HB; have HO248 := n0_; have HB := n1_; clear n0_ n1_; clear hb ho10; obtain ⟨Ao11, co11, eo11⟩ := Kd.R_slice HO248.out; subst eo11) | ((with_reducible refine gate_callee (f := 61) rfl ?_); refine goesL_ (some 12) rfl rfl Tryd.func61 (by kernel_rfl) rfl #[.int .i32 a0, .slice Ao11 y246.length co11] rfl (by (try simp only [List.map_toArray, List.map_cons, List.map_nil]); first | done | rfl | (simp only [List.length_drop, List.length_take]; rfl)) ?_; (with_reducible refine (flongref02_within.calls kj1 a0 _ _ y246 true _ ?side1 ?side2 A7.out).mono ?_); (case side1 => repeat (first | exact (Kd.R_reads' HO248.out).2.2 | (with_reducible refine Kd.C_alloc ?_ _) | (with_reducible refine Kd.C_drewN ?_ _) | (with_reducible refine Kd.C_drew ?_))); (case side2 => exact (Kd.R_reads' HO248.out).2.1); rintro e w' ⟨rfl, ⟨nd, rfl⟩⟩; refine ⟨_, rfl, ?_⟩))
     go_ret
     exact ⟨by first | rfl | (simp [errW_none, errW_some] <;> rfl) | (simp [*, errW_none, errW_some] <;> rfl), by repeat (first | (with_reducible first | exact HB.out | apply below_alloc | apply pw_below_drewN | apply below_drew1) | exact HB.out)⟩
    ·replace c8 := Bool.eq_false_iff.mpr c8
     subst c8
     have H1 : ((flongref02_within.f kj1 a0 (([4352, 4447, 9001, 9002, 11904, 12350, 12353, 13311, 13312, 19903, 19968, 42191, 43360, 43391, 44032, 55203, 63744, 64255, 65072, 65135, 65280, 65376, 65504, 65510, 127744, 128591, 129280, 129535, 131072, 196605, 196608, 262141] : List Int))).bind fun t253 => (if t253 = true then (some 2) else (some 1))) = some r := by rw [if_neg (show ¬ (false = true) by decide)] at H; exact H
     clear H
     have H := H1
     clear H1
     obtain ⟨y250, hy250⟩ : ∃ y_ : List Int, y_ = (([4352, 4447, 9001, 9002, 11904, 12350, 12353, 13311, 13312, 19903, 19968, 42191, 43360, 43391, 44032, 55203, 63744, 64255, 65072, 65135, 65280, 65376, 65504, 65510, 127744, 128591, 129280, 129535, 131072, 196605, 196608, 262141] : List Int)) := ⟨_, rfl⟩
     replace H : ((flongref02_within.f kj1 a0 y250).bind fun t253 => (if t253 = true then (some 2) else (some 1))) = some r := by first | (rw [hy250]; with_reducible exact H) | (have H2_ := (Option.bind_some _ _).symm.trans H; rw [hy250]; with_reducible exact H2_) | (have H2_ := (Option.bind_some _ _).symm.trans H; with_reducible exact H2_) | with_reducible exact H | (rw [hy250]; exact H) | exact H
     have Ny250 := Aside0.mk hy250
     clear hy250
     replace H := Option.bind_eq_some_iff.mp H
     obtain ⟨t253, A120, H⟩ := H
     replace H : (if t253 = true then (some 2) else (some 1)) = some r := H
     have A12 := Aside0.mk A120
     clear A120
     by_cases c13 : t253 = true
     ·subst c13
      have H1 : (some 2) = some r := by rw [if_pos rfl] at H; exact H
      clear H
      have H := H1
      clear H1
      obtain rfl := Option.some.inj H
      go_wp2_with (first | ((with_reducible refine gate_dst (N := 11) rfl ?_); refine Kd.R_lit (Kd.int .i32) _ 21 ?hg (N := 11) ?hd (xs := ([768, 879, 1155, 1161, 1425, 1469, 1552, 1562, 1611, 1631, 6832, 6911, 7616, 7679, 8203, 8207, 8400, 8447, 65024, 65039, 65056, 65071, 917760, 917999] : List Int)) (inner := [.int .i32 768, .int .i32 879, .int .i32 1155, .int .i32 1161, .int .i32 1425, .int .i32 1469, .int .i32 1552, .int .i32 1562, .int .i32 1611, .int .i32 1631, .int .i32 6832, .int .i32 6911, .int .i32 7616, .int .i32 7679, .int .i32 8203, .int .i32 8207, .int .i32 8400, .int .i32 8447, .int .i32 65024, .int .i32 65039, .int .i32 65056, .int .i32 65071, .int .i32 917760, .int .i32 917999]) (ok := fun _ => True) (okp := fun _ => True) ?hr ?hp (fun _ hk => hk) trivial (Below.refl _ _) (Nat.le_refl _) (by simp) ?_; (case hd => rfl); (case hg => rfl); (case hr => first | (go_simp; done) | (go_simp; rfl)); (case hp => exact (Reps.one (show Kd.M (Kd.int .i32) _ _ _ 768 [.int .i32 768] from rfl) (Reps.one (show Kd.M (Kd.int .i32) _ _ _ 879 [.int .i32 879] from rfl) (Reps.one (show Kd.M (Kd.int .i32) _ _ _ 1155 [.int .i32 1155] from rfl) (Reps.one (show Kd.M (Kd.int .i32) _ _ _ 1161 [.int .i32 1161] from rfl) (Reps.one (show Kd.M (Kd.int .i32) _ _ _ 1425 [.int .i32 1425] from rfl) (Reps.one (show Kd.M (Kd.int .i32) _ _ _ 1469 [.int .i32 1469] from rfl) (Reps.one (show Kd.M (Kd.int .i32) _ _ _ 1552 [.int .i32 1552] from rfl) (Reps.one (show Kd.M (Kd.int .i32) _ _ _ 1562 [.int .i32 1562] from rfl) (Reps.one (show Kd.M (Kd.int .i32) _ _ _ 1611 [.int .i32 1611] from rfl) (Reps.one (show Kd.M (Kd.int .i32) _ _ _ 1631 [.int .i32 1631] from rfl) (Reps.one (show Kd.M (Kd.int .i32) _ _ _ 6832 [.int .i32 6832] from rfl) (Reps.one (show Kd.M (Kd.int .i32) _ _ _ 6911 [.int .i32 6911] from rfl) (Reps.one (show Kd.M (Kd.int .i32) _ _ _ 7616 [.int .i32 7616] from rfl) (Reps.one (show Kd.M (Kd.int .i32) _ _ _ 7679 [.int .i32 7679] from rfl) (Reps.one (show Kd.M (Kd.int .i32) _ _ _ 8203 [.int .i32 8203] from rfl) (Reps.one (show Kd.M (Kd.int .i32) _ _ _ 8207 [.int .i32 8207] from rfl) (Reps.one (show Kd.M (Kd.int .i32) _ _ _ 8400 [.int .i32 8400] from rfl) (Reps.one (show Kd.M (Kd.int .i32) _ _ _ 8447 [.int .i32 8447] from rfl) (Reps.one (show Kd.M (Kd.int .i32) _ _ _ 65024 [.int .i32 65024] from rfl) (Reps.one (show Kd.M (Kd.int .i32) _ _ _ 65039 [.int .i32 65039] from rfl) (Reps.one (show Kd.M (Kd.int .i32) _ _ _ 65056 [.int .i32 65056] from rfl) (Reps.one (show Kd.M (Kd.int .i32) _ _ _ 65071 [.int .i32 65071] from rfl) (Reps.one (show Kd.M (Kd.int .i32) _ _ _ 917760 [.int .i32 917760] from rfl) (Reps.one (show Kd.M (Kd.int .i32) _ _ _ 917999 [.int .i32 917999] from rfl) (Reps.none _ _)))))))))))))))))))))))))); intro v247 w14 ho15 hb hg_ hnew_; clear hg_ hnew_; (first | rw [← Ny246.out] at ho15 | (simp only [Int.reduceToNat] at ho15; rw [← Ny246.out] at ho15)); have n0_ := Aside0.mk (Kd.R_lower ho15 (below_size (by repeat (first | (with_reducible first | exact HB.out | apply below_alloc | apply pw_below_drewN | apply below_drew1) | exact HB.out)))); have n1_ := Aside0.mk (below_step (by repeat (first | (with_reducible first | exact HB.out | apply below_alloc | apply pw_below_drewN | apply below_drew1) | exact HB.out)) hb); clear HB; have HO248 := n0_; have HB := n1_; clear n0_ n1_; clear hb ho15; obtain ⟨Ao16, co16, eo16⟩ := Kd.R_slice HO248.out; subst eo16) | ((with_reducible refine gate_callee (f := 61) rfl ?_); refine goesL_ (some 12) rfl rfl Tryd.func61 (by kernel_rfl) rfl #[.int .i32 a0, .slice Ao16 y246.length co16] rfl (by (try simp only [List.map_toArray, List.map_cons, List.map_nil]); first | done | rfl | (simp only [List.length_drop, List.length_take]; rfl)) ?_; (with_reducible refine (flongref02_within.calls kj1 a0 _ _ y246 false _ ?side1 ?side2 A7.out).mono ?_); (case side1 => repeat (first | exact (Kd.R_reads' HO248.out).2.2 | (with_reducible refine Kd.C_alloc ?_ _) | (with_reducible refine Kd.C_drewN ?_ _) | (with_reducible refine Kd.C_drew ?_))); (case side2 => exact (Kd.R_reads' HO248.out).2.1); rintro e w' ⟨rfl, ⟨nd, rfl⟩⟩; refine ⟨_, rfl, ?_⟩) | ((with_reducible refine gate_dst (N := 14) rfl ?_); refine Kd.R_lit (Kd.int .i32) _ 21 ?hg (N := 14) ?hd (xs := ([4352, 4447, 9001, 9002, 11904, 12350, 12353, 13311, 13312, 19903, 19968, 42191, 43360, 43391, 44032, 55203, 63744, 64255, 65072, 65135, 65280, 65376, 65504, 65510, 127744, 128591, 129280, 129535, 131072, 196605, 196608, 262141] : List Int)) (inner := [.int .i32 4352, .int .i32 4447, .int .i32 9001, .int .i32 9002, .int .i32 11904, .int .i32 12350, .int .i32 12353, .int .i32 13311, .int .i32 13312, .int .i32 19903, .int .i32 19968, .int .i32 42191, .int .i32 43360, .int .i32 43391, .int .i32 44032, .int .i32 55203, .int .i32 63744, .int .i32 64255, .int .i32 65072, .int .i32 65135, .int .i32 65280, .int .i32 65376, .int .i32 65504, .int .i32 65510, .int .i32 127744, .int .i32 128591, .int .i32 129280, .int .i32 129535, .int .i32 131072, .int .i32 196605, .int .i32 196608, .int .i32 262141]) (ok := fun _ => True) (okp := fun _ => True) ?hr ?hp (fun _ hk => hk) trivial (Below.refl _ _) (Nat.le_refl _) (by simp) ?_; (case hd => rfl); (case hg => rfl); (case hr => first | (go_simp; done) | (go_simp; rfl)); (case hp => exact (Reps.one (show Kd.M (Kd.int .i32) _ _ _ 4352 [.int .i32 4352] from rfl) (Reps.one (show Kd.M (Kd.int .i32) _ _ _ 4447 [.int .i32 4447] from rfl) (Reps.one (show Kd.M (Kd.int .i32) _ _ _ 9001 [.int .i32 9001] from rfl) (Reps.one (show Kd.M (Kd.int .i32) _ _ _ 9002 [.int .i32 9002] from rfl) (Reps.one (show Kd.M (Kd.int .i32) _ _ _ 11904 [.int .i32 11904] from rfl) (Reps.one (show Kd.M (Kd.int .i32) _ _ _ 12350 [.int .i32 12350] from rfl) (Reps.one (show Kd.M (Kd.int .i32) _ _ _ 12353 [.int .i32 12353] from rfl) (Reps.one (show Kd.M (Kd.int .i32) _ _ _ 13311 [.int .i32 13311] from rfl) (Reps.one (show Kd.M (Kd.int .i32) _ _ _ 13312 [.int .i32 13312] from rfl) (Reps.one (show Kd.M (Kd.int .i32) _ _ _ 19903 [.int .i32 19903] from rfl) (Reps.one (show Kd.M (Kd.int .i32) _ _ _ 19968 [.int .i32 19968] from rfl) (Reps.one (show Kd.M (Kd.int .i32) _ _ _ 42191 [.int .i32 42191] from rfl) (Reps.one (show Kd.M (Kd.int .i32) _ _ _ 43360 [.int .i32 43360] from rfl) (Reps.one (show Kd.M (Kd.int .i32) _ _ _ 43391 [.int .i32 43391] from rfl) (Reps.one (show Kd.M (Kd.int .i32) _ _ _ 44032 [.int .i32 44032] from rfl) (Reps.one (show Kd.M (Kd.int .i32) _ _ _ 55203 [.int .i32 55203] from rfl) (Reps.one (show Kd.M (Kd.int .i32) _ _ _ 63744 [.int .i32 63744] from rfl) (Reps.one (show Kd.M (Kd.int .i32) _ _ _ 64255 [.int .i32 64255] from rfl) (Reps.one (show Kd.M (Kd.int .i32) _ _ _ 65072 [.int .i32 65072] from rfl) (Reps.one (show Kd.M (Kd.int .i32) _ _ _ 65135 [.int .i32 65135] from rfl) (Reps.one (show Kd.M (Kd.int .i32) _ _ _ 65280 [.int .i32 65280] from rfl) (Reps.one (show Kd.M (Kd.int .i32) _ _ _ 65376 [.int .i32 65376] from rfl) (Reps.one (show Kd.M (Kd.int .i32) _ _ _ 65504 [.int .i32 65504] from rfl) (Reps.one (show Kd.M (Kd.int .i32) _ _ _ 65510 [.int .i32 65510] from rfl) (Reps.one (show Kd.M (Kd.int .i32) _ _ _ 127744 [.int .i32 127744] from rfl) (Reps.one (show Kd.M (Kd.int .i32) _ _ _ 128591 [.int .i32 128591] from rfl) (Reps.one (show Kd.M (Kd.int .i32) _ _ _ 129280 [.int .i32 129280] from rfl) (Reps.one (show Kd.M (Kd.int .i32) _ _ _ 129535 [.int .i32 129535] from rfl) (Reps.one (show Kd.M (Kd.int .i32) _ _ _ 131072 [.int .i32 131072] from rfl) (Reps.one (show Kd.M (Kd.int .i32) _ _ _ 196605 [.int .i32 196605] from rfl) (Reps.one (show Kd.M (Kd.int .i32) _ _ _ 196608 [.int .i32 196608] from rfl) (Reps.one (show Kd.M (Kd.int .i32) _ _ _ 262141 [.int .i32 262141] from rfl) (Reps.none _ _)))))))))))))))))))))))))))))))))); intro v251 w17 ho18 hb hg_ hnew_; clear hg_ hnew_; (first | rw [← Ny250.out] at ho18 | (simp only [Int.reduceToNat] at ho18; rw [← Ny250.out] at ho18)); have n0_ := Aside0.mk (Kd.R_elder' (by (with_reducible repeat (first | apply Kd.R_alloc | apply Kd.R_drewN | apply Kd.R_drew)); exact HO248.out) (Kd.R_base ho18) hb); have n1_ := Aside0.mk (Kd.R_lower (Kd.R_new' ho18 (Kd.R_lt (by (with_reducible repeat (first | apply Kd.R_alloc | apply Kd.R_drewN | apply Kd.R_drew)); exact HO248.out))) (below_size (by repeat (first | (with_reducible first | exact HB.out | apply below_alloc | apply pw_below_drewN | apply below_drew1) | exact HB.out)))); have n2_ := Aside0.mk (below_step (by repeat (first | (with_reducible first | exact HB.out | apply below_alloc | apply pw_below_drewN | apply below_drew1) | exact HB.out)) hb); clear HO248; clear HB; have HO248 := n0_; have HO252 := n1_; have HB := n2_; clear n0_ n1_ n2_; clear hb ho18; obtain ⟨Ao19, co19, eo19⟩ := Kd.R_slice HO252.out; subst eo19) | ((with_reducible refine gate_callee (f := 61) rfl ?_); refine goesL_ (some 15) rfl rfl Tryd.func61 (by kernel_rfl) rfl #[.int .i32 a0, .slice Ao19 y250.length co19] rfl (by (try simp only [List.map_toArray, List.map_cons, List.map_nil]); first | done | rfl | (simp only [List.length_drop, List.length_take]; rfl)) ?_; (with_reducible refine (flongref02_within.calls kj1 a0 _ _ y250 true _ ?side1 ?side2 A12.out).mono ?_); (case side1 => repeat (first | exact (Kd.R_reads' HO252.out).2.2 | (with_reducible refine Kd.C_alloc ?_ _) | (with_reducible refine Kd.C_drewN ?_ _) | (with_reducible refine Kd.C_drew ?_))); (case side2 => exact (Kd.R_reads' HO252.out).2.1); rintro e w' ⟨rfl, ⟨nd, rfl⟩⟩; refine ⟨_, rfl, ?_⟩))
      go_ret
      exact ⟨by first | rfl | (simp [errW_none, errW_some] <;> rfl) | (simp [*, errW_none, errW_some] <;> rfl), by repeat (first | (with_reducible first | exact HB.out | apply below_alloc | apply pw_below_drewN | apply below_drew1) | exact HB.out)⟩
     ·replace c13 := Bool.eq_false_iff.mpr c13
      subst c13
      have H1 : (some 1) = some r := by rw [if_neg (show ¬ (false = true) by decide)] at H; exact H
      clear H
      have H := H1
      clear H1
      obtain rfl := Option.some.inj H
      go_wp2_with (first | ((with_reducible refine gate_dst (N := 11) rfl ?_); refine Kd.R_lit (Kd.int .i32) _ 21 ?hg (N := 11) ?hd (xs := ([768, 879, 1155, 1161, 1425, 1469, 1552, 1562, 1611, 1631, 6832, 6911, 7616, 7679, 8203, 8207, 8400, 8447, 65024, 65039, 65056, 65071, 917760, 917999] : List Int)) (inner := [.int .i32 768, .int .i32 879, .int .i32 1155, .int .i32 1161, .int .i32 1425, .int .i32 1469, .int .i32 1552, .int .i32 1562, .int .i32 1611, .int .i32 1631, .int .i32 6832, .int .i32 6911, .int .i32 7616, .int .i32 7679, .int .i32 8203, .int .i32 8207, .int .i32 8400, .int .i32 8447, .int .i32 65024, .int .i32 65039, .int .i32 65056, .int .i32 65071, .int .i32 917760, .int .i32 917999]) (ok := fun _ => True) (okp := fun _ => True) ?hr ?hp (fun _ hk => hk) trivial (Below.refl _ _) (Nat.le_refl _) (by simp) ?_; (case hd => rfl); (case hg => rfl); (case hr => first | (go_simp; done) | (go_simp; rfl)); (case hp => exact (Reps.one (show Kd.M (Kd.int .i32) _ _ _ 768 [.int .i32 768] from rfl) (Reps.one (show Kd.M (Kd.int .i32) _ _ _ 879 [.int .i32 879] from rfl) (Reps.one (show Kd.M (Kd.int .i32) _ _ _ 1155 [.int .i32 1155] from rfl) (Reps.one (show Kd.M (Kd.int .i32) _ _ _ 1161 [.int .i32 1161] from rfl) (Reps.one (show Kd.M (Kd.int .i32) _ _ _ 1425 [.int .i32 1425] from rfl) (Reps.one (show Kd.M (Kd.int .i32) _ _ _ 1469 [.int .i32 1469] from rfl) (Reps.one (show Kd.M (Kd.int .i32) _ _ _ 1552 [.int .i32 1552] from rfl) (Reps.one (show Kd.M (Kd.int .i32) _ _ _ 1562 [.int .i32 1562] from rfl) (Reps.one (show Kd.M (Kd.int .i32) _ _ _ 1611 [.int .i32 1611] from rfl) (Reps.one (show Kd.M (Kd.int .i32) _ _ _ 1631 [.int .i32 1631] from rfl) (Reps.one (show Kd.M (Kd.int .i32) _ _ _ 6832 [.int .i32 6832] from rfl) (Reps.one (show Kd.M (Kd.int .i32) _ _ _ 6911 [.int .i32 6911] from rfl) (Reps.one (show Kd.M (Kd.int .i32) _ _ _ 7616 [.int .i32 7616] from rfl) (Reps.one (show Kd.M (Kd.int .i32) _ _ _ 7679 [.int .i32 7679] from rfl) (Reps.one (show Kd.M (Kd.int .i32) _ _ _ 8203 [.int .i32 8203] from rfl) (Reps.one (show Kd.M (Kd.int .i32) _ _ _ 8207 [.int .i32 8207] from rfl) (Reps.one (show Kd.M (Kd.int .i32) _ _ _ 8400 [.int .i32 8400] from rfl) (Reps.one (show Kd.M (Kd.int .i32) _ _ _ 8447 [.int .i32 8447] from rfl) (Reps.one (show Kd.M (Kd.int .i32) _ _ _ 65024 [.int .i32 65024] from rfl) (Reps.one (show Kd.M (Kd.int .i32) _ _ _ 65039 [.int .i32 65039] from rfl) (Reps.one (show Kd.M (Kd.int .i32) _ _ _ 65056 [.int .i32 65056] from rfl) (Reps.one (show Kd.M (Kd.int .i32) _ _ _ 65071 [.int .i32 65071] from rfl) (Reps.one (show Kd.M (Kd.int .i32) _ _ _ 917760 [.int .i32 917760] from rfl) (Reps.one (show Kd.M (Kd.int .i32) _ _ _ 917999 [.int .i32 917999] from rfl) (Reps.none _ _)))))))))))))))))))))))))); intro v247 w20 ho21 hb hg_ hnew_; clear hg_ hnew_; (first | rw [← Ny246.out] at ho21 | (simp only [Int.reduceToNat] at ho21; rw [← Ny246.out] at ho21)); have n0_ := Aside0.mk (Kd.R_lower ho21 (below_size (by repeat (first | (with_reducible first | exact HB.out | apply below_alloc | apply pw_below_drewN | apply below_drew1) | exact HB.out)))); have n1_ := Aside0.mk (below_step (by repeat (first | (with_reducible first | exact HB.out | apply below_alloc | apply pw_below_drewN | apply below_drew1) | exact HB.out)) hb); clear HB; have HO248 := n0_; have HB := n1_; clear n0_ n1_; clear hb ho21; obtain ⟨Ao22, co22, eo22⟩ := Kd.R_slice HO248.out; subst eo22) | ((with_reducible refine gate_callee (f := 61) rfl ?_); refine goesL_ (some 12) rfl rfl Tryd.func61 (by kernel_rfl) rfl #[.int .i32 a0, .slice Ao22 y246.length co22] rfl (by (try simp only [List.map_toArray, List.map_cons, List.map_nil]); first | done | rfl | (simp only [List.length_drop, List.length_take]; rfl)) ?_; (with_reducible refine (flongref02_within.calls kj1 a0 _ _ y246 false _ ?side1 ?side2 A7.out).mono ?_); (case side1 => repeat (first | exact (Kd.R_reads' HO248.out).2.2 | (with_reducible refine Kd.C_alloc ?_ _) | (with_reducible refine Kd.C_drewN ?_ _) | (with_reducible refine Kd.C_drew ?_))); (case side2 => exact (Kd.R_reads' HO248.out).2.1); rintro e w' ⟨rfl, ⟨nd, rfl⟩⟩; refine ⟨_, rfl, ?_⟩) | ((with_reducible refine gate_dst (N := 14) rfl ?_); refine Kd.R_lit (Kd.int .i32) _ 21 ?hg (N := 14) ?hd (xs := ([4352, 4447, 9001, 9002, 11904, 12350, 12353, 13311, 13312, 19903, 19968, 42191, 43360, 43391, 44032, 55203, 63744, 64255, 65072, 65135, 65280, 65376, 65504, 65510, 127744, 128591, 129280, 129535, 131072, 196605, 196608, 262141] : List Int)) (inner := [.int .i32 4352, .int .i32 4447, .int .i32 9001, .int .i32 9002, .int .i32 11904, .int .i32 12350, .int .i32 12353, .int .i32 13311, .int .i32 13312, .int .i32 19903, .int .i32 19968, .int .i32 42191, .int .i32 43360, .int .i32 43391, .int .i32 44032, .int .i32 55203, .int .i32 63744, .int .i32 64255, .int .i32 65072, .int .i32 65135, .int .i32 65280, .int .i32 65376, .int .i32 65504, .int .i32 65510, .int .i32 127744, .int .i32 128591, .int .i32 129280, .int .i32 129535, .int .i32 131072, .int .i32 196605, .int .i32 196608, .int .i32 262141]) (ok := fun _ => True) (okp := fun _ => True) ?hr ?hp (fun _ hk => hk) trivial (Below.refl _ _) (Nat.le_refl _) (by simp) ?_; (case hd => rfl); (case hg => rfl); (case hr => first | (go_simp; done) | (go_simp; rfl)); (case hp => exact (Reps.one (show Kd.M (Kd.int .i32) _ _ _ 4352 [.int .i32 4352] from rfl) (Reps.one (show Kd.M (Kd.int .i32) _ _ _ 4447 [.int .i32 4447] from rfl) (Reps.one (show Kd.M (Kd.int .i32) _ _ _ 9001 [.int .i32 9001] from rfl) (Reps.one (show Kd.M (Kd.int .i32) _ _ _ 9002 [.int .i32 9002] from rfl) (Reps.one (show Kd.M (Kd.int .i32) _ _ _ 11904 [.int .i32 11904] from rfl) (Reps.one (show Kd.M (Kd.int .i32) _ _ _ 12350 [.int .i32 12350] from rfl) (Reps.one (show Kd.M (Kd.int .i32) _ _ _ 12353 [.int .i32 12353] from rfl) (Reps.one (show Kd.M (Kd.int .i32) _ _ _ 13311 [.int .i32 13311] from rfl) (Reps.one (show Kd.M (Kd.int .i32) _ _ _ 13312 [.int .i32 13312] from rfl) (Reps.one (show Kd.M (Kd.int .i32) _ _ _ 19903 [.int .i32 19903] from rfl) (Reps.one (show Kd.M (Kd.int .i32) _ _ _ 19968 [.int .i32 19968] from rfl) (Reps.one (show Kd.M (Kd.int .i32) _ _ _ 42191 [.int .i32 42191] from rfl) (Reps.one (show Kd.M (Kd.int .i32) _ _ _ 43360 [.int .i32 43360] from rfl) (Reps.one (show Kd.M (Kd.int .i32) _ _ _ 43391 [.int .i32 43391] from rfl) (Reps.one (show Kd.M (Kd.int .i32) _ _ _ 44032 [.int .i32 44032] from rfl) (Reps.one (show Kd.M (Kd.int .i32) _ _ _ 55203 [.int .i32 55203] from rfl) (Reps.one (show Kd.M (Kd.int .i32) _ _ _ 63744 [.int .i32 63744] from rfl) (Reps.one (show Kd.M (Kd.int .i32) _ _ _ 64255 [.int .i32 64255] from rfl) (Reps.one (show Kd.M (Kd.int .i32) _ _ _ 65072 [.int .i32 65072] from rfl) (Reps.one (show Kd.M (Kd.int .i32) _ _ _ 65135 [.int .i32 65135] from rfl) (Reps.one (show Kd.M (Kd.int .i32) _ _ _ 65280 [.int .i32 65280] from rfl) (Reps.one (show Kd.M (Kd.int .i32) _ _ _ 65376 [.int .i32 65376] from rfl) (Reps.one (show Kd.M (Kd.int .i32) _ _ _ 65504 [.int .i32 65504] from rfl) (Reps.one (show Kd.M (Kd.int .i32) _ _ _ 65510 [.int .i32 65510] from rfl) (Reps.one (show Kd.M (Kd.int .i32) _ _ _ 127744 [.int .i32 127744] from rfl) (Reps.one (show Kd.M (Kd.int .i32) _ _ _ 128591 [.int .i32 128591] from rfl) (Reps.one (show Kd.M (Kd.int .i32) _ _ _ 129280 [.int .i32 129280] from rfl) (Reps.one (show Kd.M (Kd.int .i32) _ _ _ 129535 [.int .i32 129535] from rfl) (Reps.one (show Kd.M (Kd.int .i32) _ _ _ 131072 [.int .i32 131072] from rfl) (Reps.one (show Kd.M (Kd.int .i32) _ _ _ 196605 [.int .i32 196605] from rfl) (Reps.one (show Kd.M (Kd.int .i32) _ _ _ 196608 [.int .i32 196608] from rfl) (Reps.one (show Kd.M (Kd.int .i32) _ _ _ 262141 [.int .i32 262141] from rfl) (Reps.none _ _)))))))))))))))))))))))))))))))))); intro v251 w23 ho24 hb hg_ hnew_; clear hg_ hnew_; (first | rw [← Ny250.out] at ho24 | (simp only [Int.reduceToNat] at ho24; rw [← Ny250.out] at ho24)); have n0_ := Aside0.mk (Kd.R_elder' (by (with_reducible repeat (first | apply Kd.R_alloc | apply Kd.R_drewN | apply Kd.R_drew)); exact HO248.out) (Kd.R_base ho24) hb); have n1_ := Aside0.mk (Kd.R_lower (Kd.R_new' ho24 (Kd.R_lt (by (with_reducible repeat (first | apply Kd.R_alloc | apply Kd.R_drewN | apply Kd.R_drew)); exact HO248.out))) (below_size (by repeat (first | (with_reducible first | exact HB.out | apply below_alloc | apply pw_below_drewN | apply below_drew1) | exact HB.out)))); have n2_ := Aside0.mk (below_step (by repeat (first | (with_reducible first | exact HB.out | apply below_alloc | apply pw_below_drewN | apply below_drew1) | exact HB.out)) hb); clear HO248; clear HB; have HO248 := n0_; have HO252 := n1_; have HB := n2_; clear n0_ n1_ n2_; clear hb ho24; obtain ⟨Ao25, co25, eo25⟩ := Kd.R_slice HO252.out; subst eo25) | ((with_reducible refine gate_callee (f := 61) rfl ?_); refine goesL_ (some 15) rfl rfl Tryd.func61 (by kernel_rfl) rfl #[.int .i32 a0, .slice Ao25 y250.length co25] rfl (by (try simp only [List.map_toArray, List.map_cons, List.map_nil]); first | done | rfl | (simp only [List.length_drop, List.length_take]; rfl)) ?_; (with_reducible refine (flongref02_within.calls kj1 a0 _ _ y250 false _ ?side1 ?side2 A12.out).mono ?_); (case side1 => repeat (first | exact (Kd.R_reads' HO252.out).2.2 | (with_reducible refine Kd.C_alloc ?_ _) | (with_reducible refine Kd.C_drewN ?_ _) | (with_reducible refine Kd.C_drew ?_))); (case side2 => exact (Kd.R_reads' HO252.out).2.1); rintro e w' ⟨rfl, ⟨nd, rfl⟩⟩; refine ⟨_, rfl, ?_⟩))
      go_ret
      exact ⟨by first | rfl | (simp [errW_none, errW_some] <;> rfl) | (simp [*, errW_none, errW_some] <;> rfl), by repeat (first | (with_reducible first | exact HB.out | apply below_alloc | apply pw_below_drewN | apply below_drew1) | exact HB.out)⟩

/-! ### flongref02_Safe: function 59 -/
def flongref02_Safe.f (a0 : Int) : Option (Int) := (flongref02_Valid.f a0).bind fun t254 => (if t254 = true then ((flongref02_Control.f a0).bind fun t255 => (if t255 = true then (some 65533) else (some a0))) else (some 65533))
theorem flongref02_Safe.calls (a0 : Int) (r : Int) (w : World) (h : flongref02_Safe.f a0 = some r) :
  Calls Tryd.prog 59 #[.int .i32 a0] w fun e w' => e = .returned (.int .i32 r) ∧ Drawn0 w w' := by
 have H : ((flongref02_Valid.f a0).bind fun t254 => (if t254 = true then ((flongref02_Control.f a0).bind fun t255 => (if t255 = true then (some 65533) else (some a0))) else (some 65533))) = some r := h
 clear h
 replace H := Option.bind_eq_some_iff.mp H
 obtain ⟨t254, A20, H⟩ := H
 replace H : (if t254 = true then ((flongref02_Control.f a0).bind fun t255 => (if t255 = true then (some 65533) else (some a0))) else (some 65533)) = some r := H
 have A2 := Aside0.mk A20
 clear A20
 by_cases c3 : t254 = true
 ·subst c3
  have H1 : ((flongref02_Control.f a0).bind fun t255 => (if t255 = true then (some 65533) else (some a0))) = some r := by rw [if_pos rfl] at H; exact H
  clear H
  have H := H1
  clear H1
  replace H := Option.bind_eq_some_iff.mp H
  obtain ⟨t255, A40, H⟩ := H
  replace H : (if t255 = true then (some 65533) else (some a0)) = some r := H
  have A4 := Aside0.mk A40
  clear A40
  by_cases c5 : t255 = true
  ·subst c5
   have H1 : (some 65533) = some r := by rw [if_pos rfl] at H; exact H
   clear H
   have H := H1
   clear H1
   obtain rfl := Option.some.inj H
   go_enter Tryd.func59, Tryd.ntmps59
   go_wp2_with (first | ((with_reducible refine gate_callee (f := 58) rfl ?_); refine goesL_ (some 4) rfl rfl Tryd.func58 (by kernel_rfl) rfl #[.int .i32 a0] rfl (by (try simp only [List.map_toArray, List.map_cons, List.map_nil]); first | done | rfl | (simp only [List.length_drop, List.length_take]; rfl)) ?_; (with_reducible refine (flongref02_Valid.calls a0 true _ A2.out).mono ?_); rintro e w' ⟨rfl, ⟨nd, rfl⟩⟩; refine ⟨_, rfl, ?_⟩) | (go_at_call 60; (with_reducible refine (flongref02_Control.calls a0 true _ A4.out).mono ?_); rintro e w' ⟨rfl, ⟨nd, rfl⟩⟩))
   go_ret
   exact ⟨by first | rfl | (simp; done) | (simp [*]; done), by repeat (first | exact Drawn0.refl _ | apply Drawn0.step)⟩
  ·replace c5 := Bool.eq_false_iff.mpr c5
   subst c5
   have H1 : (some a0) = some r := by rw [if_neg (show ¬ (false = true) by decide)] at H; exact H
   clear H
   have H := H1
   clear H1
   obtain rfl := Option.some.inj H
   go_enter Tryd.func59, Tryd.ntmps59
   go_wp2_with (first | ((with_reducible refine gate_callee (f := 58) rfl ?_); refine goesL_ (some 4) rfl rfl Tryd.func58 (by kernel_rfl) rfl #[.int .i32 a0] rfl (by (try simp only [List.map_toArray, List.map_cons, List.map_nil]); first | done | rfl | (simp only [List.length_drop, List.length_take]; rfl)) ?_; (with_reducible refine (flongref02_Valid.calls a0 true _ A2.out).mono ?_); rintro e w' ⟨rfl, ⟨nd, rfl⟩⟩; refine ⟨_, rfl, ?_⟩) | (go_at_call 60; (with_reducible refine (flongref02_Control.calls a0 false _ A4.out).mono ?_); rintro e w' ⟨rfl, ⟨nd, rfl⟩⟩))
   go_ret
   exact ⟨by first | rfl | (simp; done) | (simp [*]; done), by repeat (first | exact Drawn0.refl _ | apply Drawn0.step)⟩
 ·replace c3 := Bool.eq_false_iff.mpr c3
  subst c3
  have H1 : (some 65533) = some r := by rw [if_neg (show ¬ (false = true) by decide)] at H; exact H
  clear H
  have H := H1
  clear H1
  obtain rfl := Option.some.inj H
  go_enter Tryd.func59, Tryd.ntmps59
  go_wp2_with (first | ((with_reducible refine gate_callee (f := 58) rfl ?_); refine goesL_ (some 4) rfl rfl Tryd.func58 (by kernel_rfl) rfl #[.int .i32 a0] rfl (by (try simp only [List.map_toArray, List.map_cons, List.map_nil]); first | done | rfl | (simp only [List.length_drop, List.length_take]; rfl)) ?_; (with_reducible refine (flongref02_Valid.calls a0 false _ A2.out).mono ?_); rintro e w' ⟨rfl, ⟨nd, rfl⟩⟩; refine ⟨_, rfl, ?_⟩))
  go_ret
  exact ⟨by first | rfl | (simp; done) | (simp [*]; done), by repeat (first | exact Drawn0.refl _ | apply Drawn0.step)⟩

/-! ### flongref03_Clean: function 42 -/
def flongref03_Clean.l0 : Nat → List (S44) → List (S44) → Int → Option ((List (S44)))
 | 0, _, _, _ => none
 | k + 1, x0, x3, x4 => if x4 < (x0.length : Int) then (if 0 ≤ x4 then ((flongref02_Safe.f ((rd_T44 x0 x4).f0)).bind fun t257 => (if ((rd_T44 x0 x4).f0) = 160 then (if (x3.length : Int) > 0 then (if x3.length < 17592186044416 then (flongref03_Clean.l0 k x0 (x3 ++ [(⟨32, Int.tmod ((rd_T44 x0 x4).f1) 4⟩ : S44)]) (wrap64 (x4 + 1))) else (none)) else ((flongref02_Width.f k 32).bind fun t263 => (if t263 > 0 then (if x3.length < 17592186044416 then (flongref03_Clean.l0 k x0 (x3 ++ [(⟨32, Int.tmod ((rd_T44 x0 x4).f1) 4⟩ : S44)]) (wrap64 (x4 + 1))) else (none)) else (flongref03_Clean.l0 k x0 x3 (wrap64 (x4 + 1)))))) else (if (x3.length : Int) > 0 then (if x3.length < 17592186044416 then (flongref03_Clean.l0 k x0 (x3 ++ [(⟨t257, Int.tmod ((rd_T44 x0 x4).f1) 4⟩ : S44)]) (wrap64 (x4 + 1))) else (none)) else ((flongref02_Width.f k t257).bind fun t272 => (if t272 > 0 then (if x3.length < 17592186044416 then (flongref03_Clean.l0 k x0 (x3 ++ [(⟨t257, Int.tmod ((rd_T44 x0 x4).f1) 4⟩ : S44)]) (wrap64 (x4 + 1))) else (none)) else (flongref03_Clean.l0 k x0 x3 (wrap64 (x4 + 1)))))))) else (none)) else (some x3)
def flongref03_Clean.f (k : Nat) (l0 : List (S44)) : Option ((List (S44))) := flongref03_Clean.l0 k l0 ([] : List (S44)) 0
theorem flongref03_Clean.mono_l : ∀ k, (∀ y0 y1 y2, LeO (flongref03_Clean.l0 k y0 y1 y2) (flongref03_Clean.l0 (k + 1) y0 y1 y2))
 | 0 => fun _ _ _ r h => by simp [flongref03_Clean.l0] at h
 | k + 1 => by
  have ih0 := flongref03_Clean.mono_l k
  ·intro y0 y1 y2
   unfold flongref03_Clean.l0
   repeat' first
   | (with_reducible exact ih0 _ _ _)
   | (with_reducible exact flongref02_Width.mono _ _)
   | (with_reducible exact LeO.refl _)
   | (with_reducible exact LeO.none _)
   | (with_reducible refine LeO.ite ?_ ?_)
   | (with_reducible refine LeO.bind ?_ (fun _ => ?_))
theorem flongref03_Clean.mono : ∀ a0 k, LeO (flongref03_Clean.f k a0) (flongref03_Clean.f (k + 1) a0) := by
 intro a0 k
 have ih0 := flongref03_Clean.mono_l k
 unfold flongref03_Clean.f
 repeat' first
   | (with_reducible exact ih0 _ _ _)
   | (with_reducible exact flongref02_Width.mono _ _)
   | (with_reducible exact LeO.refl _)
   | (with_reducible exact LeO.none _)
   | (with_reducible refine LeO.ite ?_ ?_)
   | (with_reducible refine LeO.bind ?_ (fun _ => ?_))
theorem flongref03_Clean.calls (k : Nat) (A0 : Option Addr) (c0 : Nat) (l0 : List (S44)) (r : List (S44)) (w : World) (hr0 : Kd.C k44 w A0 l0.length l0) (hc0 : l0.length ≤ c0) (h : flongref03_Clean.f k l0 = some r) :
  Calls Tryd.prog 42 #[.slice A0 l0.length c0] w fun e w' => ∃ v0_ : Value, e = .returned (v0_) ∧ Kd.R k44 44 w' w.heap.size (fun _ => True) v0_ r ∧ Below w.heap.size w w' := by
 have hu44 := Tryd.underlying44
 have HR0 := Aside0.mk hr0
 have HC0 := Aside0.mk hc0
 clear hr0 hc0
 have HB := Aside0.mk (Below.refl w.heap.size w)
 have H : (flongref03_Clean.l0 k l0 ([] : List (S44)) 0) = some r := h
 clear h
 have H' := Aside0.mk H
 clear H
 go_enter Tryd.func42, Tryd.ntmps42
 go_wp2
 go_loopg [3, 4] k (fun kq v3 v4 w' => ∃ (x3_1 : List (S44)) (x4_1 : Int), v4 = .int .i64 x4_1 ∧ Aside0 (flongref03_Clean.l0 kq l0 x3_1 x4_1 = some r) ∧ Aside0 (kq ≤ k) ∧ Aside0 (Kd.R k44 44 w' w.heap.size (fun _ => True) v3 x3_1) ∧ Aside0 (Below w.heap.size w w'))
 case atStart => exact ⟨(([] : List (S44))), (0), (by first | rfl | (simp; done) | (simp [*]; done)), H', ⟨Nat.le_refl _⟩, ⟨by first | exact Kd.R_nil _ _ _ _ _ | exact Kd.N_nil _ _ _ _ _ | exact Kd.V_nil _ _ _ _ _ | exact Kd.Q_nil _ _ _ _ _ | exact Kd.S_nil _ _ _ _ _⟩, ⟨by repeat (first | (with_reducible first | exact HB.out | apply below_alloc | apply pw_below_drewN | apply below_drew1) | exact HB.out)⟩⟩
 case round =>
  clear H'
  obtain ⟨x3_1, x4_1, rfl, HA, HK1, HO_3, HB⟩ := hrel
  cases gk with
  | zero => exact absurd HA.out (by simp [flongref03_Clean.l0])
  | succ k1 =>
   have H := HA.out
   clear HA
   simp only [flongref03_Clean.l0] at H
   by_cases c2 : x4_1 < (l0.length : Int)
   ·rw [if_pos c2] at H
    have c2b0 : decide (x4_1 < (l0.length : Int)) = true := decide_eq_true c2
    clear c2
    by_cases c3 : 0 ≤ x4_1
    ·rw [if_pos c3] at H
     have c3b0 : decide (0 ≤ x4_1) = true := decide_eq_true c3
     clear c3
     replace H := Option.bind_eq_some_iff.mp H
     obtain ⟨t257, A40, H⟩ := H
     replace H : (if ((rd_T44 l0 x4_1).f0) = 160 then (if (x3_1.length : Int) > 0 then (if x3_1.length < 17592186044416 then (flongref03_Clean.l0 k1 l0 (x3_1 ++ [(⟨32, Int.tmod ((rd_T44 l0 x4_1).f1) 4⟩ : S44)]) (wrap64 (x4_1 + 1))) else (none)) else ((flongref02_Width.f k1 32).bind fun t263 => (if t263 > 0 then (if x3_1.length < 17592186044416 then (flongref03_Clean.l0 k1 l0 (x3_1 ++ [(⟨32, Int.tmod ((rd_T44 l0 x4_1).f1) 4⟩ : S44)]) (wrap64 (x4_1 + 1))) else (none)) else (flongref03_Clean.l0 k1 l0 x3_1 (wrap64 (x4_1 + 1)))))) else (if (x3_1.length : Int) > 0 then (if x3_1.length < 17592186044416 then (flongref03_Clean.l0 k1 l0 (x3_1 ++ [(⟨t257, Int.tmod ((rd_T44 l0 x4_1).f1) 4⟩ : S44)]) (wrap64 (x4_1 + 1))) else (none)) else ((flongref02_Width.f k1 t257).bind fun t272 => (if t272 > 0 then (if x3_1.length < 17592186044416 then (flongref03_Clean.l0 k1 l0 (x3_1 ++ [(⟨t257, Int.tmod ((rd_T44 l0 x4_1).f1) 4⟩ : S44)]) (wrap64 (x4_1 + 1))) else (none)) else (flongref03_Clean.l0 k1 l0 x3_1 (wrap64 (x4_1 + 1))))))) = some r := H
     have A4 := Aside0.mk A40
     clear A40
     by_cases c5 : ((rd_T44 l0 x4_1).f0) = 160
     ·rw [if_pos c5] at H
      have c5b0 : (((rd_T44 l0 x4_1).f0) == 160) = true := beq_iff_eq.mpr c5
      have c5b1 : (((rd_T44 l0 x4_1).f0) != 160) = false := bne_eq_false_iff_eq.mpr c5
      clear c5
      by_cases c6 : (x3_1.length : Int) > 0
      ·rw [if_pos c6] at H
       have c6b0 : decide (0 < (x3_1.length : Int)) = true := decide_eq_true c6
       have c6b1 : decide (0 < x3_1.length) = true := decide_eq_true (by omega)
       clear c6
       by_cases c7 : x3_1.length < 17592186044416
       ·rw [if_pos c7] at H
        have LMc7 := Aside0.mk c7
        clear c7
        obtain ⟨y260, hy260⟩ : ∃ y_ : List (S44), y_ = (x3_1 ++ [(⟨32, Int.tmod ((rd_T44 l0 x4_1).f1) 4⟩ : S44)]) := ⟨_, rfl⟩
        replace H : (flongref03_Clean.l0 k1 l0 y260 (wrap64 (x4_1 + 1))) = some r := by first | (rw [hy260]; with_reducible exact H) | (have H2_ := (Option.bind_some _ _).symm.trans H; rw [hy260]; with_reducible exact H2_) | (have H2_ := (Option.bind_some _ _).symm.trans H; with_reducible exact H2_) | with_reducible exact H | (rw [hy260]; exact H) | exact H
        have Ny260 := Aside0.mk hy260
        clear hy260
        have H' := Aside0.mk H
        clear H
        have p256 : 0 ≤ (x4_1 : Int) := of_decide_eq_true (by first | (with_reducible assumption) | assumption)
        have q256 : x4_1 < (l0.length : Int) := of_decide_eq_true (by first | (with_reducible assumption) | assumption)
        obtain ⟨ad256, e256, hx256_0, hx256_1⟩ := at_T44 HR0.out x4_1 p256 q256
        cases e256
        replace hx256_0 := (HB.out.cell (World.block_lt_of_cell? w _ hx256_0)).trans hx256_0
        replace hx256_1 := (HB.out.cell (World.block_lt_of_cell? w _ hx256_1)).trans hx256_1
        replace p256 := eq_true p256
        replace q256 := eq_true q256
        go_wp2_with (first | ((with_reducible refine gate_callee (f := 59) rfl ?_); refine goesL_ (some 17) rfl rfl Tryd.func59 (by kernel_rfl) rfl #[.int .i32 ((rd_T44 l0 x4_1).f0)] rfl (by (try simp only [List.map_toArray, List.map_cons, List.map_nil]); first | done | rfl | (simp only [List.length_drop, List.length_take]; rfl)) ?_; (with_reducible refine (flongref02_Safe.calls ((rd_T44 l0 x4_1).f0) t257 _ A4.out).mono ?_); rintro e w' ⟨rfl, ⟨nd, rfl⟩⟩; refine ⟨_, rfl, ?_⟩; have p258 : 0 ≤ (x4_1 : Int) := of_decide_eq_true (by first | (with_reducible assumption) | assumption); have q258 : x4_1 < (l0.length : Int) := of_decide_eq_true (by first | (with_reducible assumption) | assumption); obtain ⟨ad258, e258, hx258_0, hx258_1⟩ := at_T44 HR0.out x4_1 p258 q258; obtain rfl : ad256 = ad258 := (by injection e258); replace hx258_0 := (HB.out.cell (World.block_lt_of_cell? w _ hx258_0)).trans hx258_0; replace hx258_1 := (HB.out.cell (World.block_lt_of_cell? w _ hx258_1)).trans hx258_1; replace p258 := eq_true p258; replace q258 := eq_true q258; obtain ⟨Ao8, co8, eo8⟩ := Kd.R_slice HO_3.out; subst eo8; have p259 : 0 ≤ (x4_1 : Int) := of_decide_eq_true (by first | (with_reducible assumption) | assumption); have q259 : x4_1 < (l0.length : Int) := of_decide_eq_true (by first | (with_reducible assumption) | assumption); obtain ⟨ad259, e259, hx259_0, hx259_1⟩ := at_T44 HR0.out x4_1 p259 q259; obtain rfl : ad256 = ad259 := (by injection e259); replace hx259_0 := (HB.out.cell (World.block_lt_of_cell? w _ hx259_0)).trans hx259_0; replace hx259_1 := (HB.out.cell (World.block_lt_of_cell? w _ hx259_1)).trans hx259_1; replace p259 := eq_true p259; replace q259 := eq_true q259) | ((with_reducible refine gate_builtin (b := .append) (xs := #[.tmp 32, .tmp 41]) rfl ?_); at_builtin; refine Kd.R_append k44 (w0 := w) w.heap.size rfl (.tmp 32) (.tmp 41) 33 44 (.agg #[(.int .i32 0), (.int .u8 0)]) 8 rfl Tryd.underlying33 info44 rfl (by decide) (by omega) (.slice Ao8 x3_1.length co8) x3_1 (⟨32, Int.tmod ((rd_T44 l0 x4_1).f1) 4⟩ : S44) [.int .i32 32, .int .u8 (Int.tmod ((rd_T44 l0 x4_1).f1) 4)] (fun _ => True) (fun _ => False) rfl rfl ?aP (fun _ hk => hk.elim) ?aF ?aO ?aB ?aS ?aL ?_; (case aP => exact k44_mkM _ _ _ (⟨32, Int.tmod ((rd_T44 l0 x4_1).f1) 4⟩ : S44)); (case aB => exact (by repeat (first | (with_reducible first | exact HB.out | apply below_alloc | apply pw_below_drewN | apply below_drew1) | exact HB.out))); (case aF => exact (fun _ _ => trivial)); (case aO => exact (by (with_reducible repeat (first | apply Kd.R_alloc | apply Kd.R_drewN | apply Kd.R_drew)); exact HO_3.out)); (case aS => exact (below_size (by repeat (first | (with_reducible first | exact HB.out | apply below_alloc | apply pw_below_drewN | apply below_drew1) | exact HB.out)))); (case aL => have := LMc7.out; omega); intro v261 w9 ho hb hg hat; rw [← Ny260.out] at ho; have n0_ := Aside0.mk (hb); have n1_ := Aside0.mk (ho); clear HB; clear HO_3; have HB := n0_; have HO262 := n1_; clear n0_ n1_; clear ho hb hg hat))
        go_roundg k1
        case measure => have := HK1.out; omega
        case rel => exact ⟨(y260), (wrap64 (x4_1 + 1)), (by first | rfl | (simp; done) | (simp [*]; done)), H', ⟨by have := HK1.out; omega⟩, ⟨by (with_reducible repeat (first | apply Kd.R_alloc | apply Kd.R_drewN | apply Kd.R_drew)); exact HO262.out⟩, ⟨by repeat (first | (with_reducible first | exact HB.out | apply below_alloc | apply pw_below_drewN | apply below_drew1) | exact HB.out)⟩⟩
       ·rw [if_neg c7] at H
        exact absurd H (by simp)
      ·rw [if_neg c6] at H
       have c6b0 : decide (0 < (x3_1.length : Int)) = false := decide_eq_false c6
       have c6b1 : decide (0 < x3_1.length) = false := decide_eq_false (by omega)
       clear c6
       replace H := Option.bind_eq_some_iff.mp H
       obtain ⟨t263, A100, H⟩ := H
       replace H : (if t263 > 0 then (if x3_1.length < 17592186044416 then (flongref03_Clean.l0 k1 l0 (x3_1 ++ [(⟨32, Int.tmod ((rd_T44 l0 x4_1).f1) 4⟩ : S44)]) (wrap64 (x4_1 + 1))) else (none)) else (flongref03_Clean.l0 k1 l0 x3_1 (wrap64 (x4_1 + 1)))) = some r := H
       have A10 := Aside0.mk A100
       clear A100
       by_cases c11 : t263 > 0
       ·rw [if_pos c11] at H
        have c11b0 : decide (0 < t263) = true := decide_eq_true c11
        clear c11
        by_cases c12 : x3_1.length < 17592186044416
        ·rw [if_pos c12] at H
         have LMc12 := Aside0.mk c12
         clear c12
         obtain ⟨y265, hy265⟩ : ∃ y_ : List (S44), y_ = (x3_1 ++ [(⟨32, Int.tmod ((rd_T44 l0 x4_1).f1) 4⟩ : S44)]) := ⟨_, rfl⟩
         replace H : (flongref03_Clean.l0 k1 l0 y265 (wrap64 (x4_1 + 1))) = some r := by first | (rw [hy265]; with_reducible exact H) | (have H2_ := (Option.bind_some _ _).symm.trans H; rw [hy265]; with_reducible exact H2_) | (have H2_ := (Option.bind_some _ _).symm.trans H; with_reducible exact H2_) | with_reducible exact H | (rw [hy265]; exact H) | exact H
         have Ny265 := Aside0.mk hy265
         clear hy265
         have H' := Aside0.mk H
         clear H
         have p256 : 0 ≤ (x4_1 : Int) := of_decide_eq_true (by first | (with_reducible assumption) | assumption)
         have q256 : x4_1 < (l0.length : Int) := of_decide_eq_true (by first | (with_reducible assumption) | assumption)
         obtain ⟨ad256, e256, hx256_0, hx256_1⟩ := at_T44 HR0.out x4_1 p256 q256
         cases e256
         replace hx256_0 := (HB.out.cell (World.block_lt_of_cell? w _ hx256_0)).trans hx256_0
         replace hx256_1 := (HB.out.cell (World.block_lt_of_cell? w _ hx256_1)).trans hx256_1
         replace p256 := eq_true p256
         replace q256 := eq_true q256
         go_wp2_with (first | ((with_reducible refine gate_callee (f := 59) rfl ?_); refine goesL_ (some 17) rfl rfl Tryd.func59 (by kernel_rfl) rfl #[.int .i32 ((rd_T44 l0 x4_1).f0)] rfl (by (try simp only [List.map_toArray, List.map_cons, List.map_nil]); first | done | rfl | (simp only [List.length_drop, List.length_take]; rfl)) ?_; (with_reducible refine (flongref02_Safe.calls ((rd_T44 l0 x4_1).f0) t257 _ A4.out).mono ?_); rintro e w' ⟨rfl, ⟨nd, rfl⟩⟩; refine ⟨_, rfl, ?_⟩; have p258 : 0 ≤ (x4_1 : Int) := of_decide_eq_true (by first | (with_reducible assumption) | assumption); have q258 : x4_1 < (l0.length : Int) := of_decide_eq_true (by first | (with_reducible assumption) | assumption); obtain ⟨ad258, e258, hx258_0, hx258_1⟩ := at_T44 HR0.out x4_1 p258 q258; obtain rfl : ad256 = ad258 := (by injection e258); replace hx258_0 := (HB.out.cell (World.block_lt_of_cell? w _ hx258_0)).trans hx258_0; replace hx258_1 := (HB.out.cell (World.block_lt_of_cell? w _ hx258_1)).trans hx258_1; replace p258 := eq_true p258; replace q258 := eq_true q258; obtain ⟨Ao13, co13, eo13⟩ := Kd.R_slice HO_3.out; subst eo13) | (go_at_call 43; (with_reducible refine (flongref02_Width.calls k1 32 t263 _ A10.out).mono ?_); rintro e w14 ⟨rfl, hb⟩; have n0_ := Aside0.mk (Kd.R_below (by (with_reducible repeat (first | apply Kd.R_alloc | apply Kd.R_drewN | apply Kd.R_drew)); exact HO_3.out) hb); have n1_ := Aside0.mk (below_step (by repeat (first | (with_reducible first | exact HB.out | apply below_alloc | apply pw_below_drewN | apply below_drew1) | exact HB.out)) hb); clear HO_3; clear HB; have HO_3 := n0_; have HB := n1_; clear n0_ n1_; (try clear hb); (try clear hb2); (try clear hk); (try clear hi); have p264 : 0 ≤ (x4_1 : Int) := of_decide_eq_true (by first | (with_reducible assumption) | assumption); have q264 : x4_1 < (l0.length : Int) := of_decide_eq_true (by first | (with_reducible assumption) | assumption); obtain ⟨ad264, e264, hx264_0, hx264_1⟩ := at_T44 HR0.out x4_1 p264 q264; obtain rfl : ad256 = ad264 := (by injection e264); replace hx264_0 := (HB.out.cell (World.block_lt_of_cell? w _ hx264_0)).trans hx264_0; replace hx264_1 := (HB.out.cell (World.block_lt_of_cell? w _ hx264_1)).trans hx264_1; replace p264 := eq_true p264; replace q264 := eq_true q264) | ((with_reducible refine gate_builtin (b := .append) (xs := #[.tmp 32, .tmp 41]) rfl ?_); at_builtin; refine Kd.R_append k44 (w0 := w) w.heap.size rfl (.tmp 32) (.tmp 41) 33 44 (.agg #[(.int .i32 0), (.int .u8 0)]) 8 rfl Tryd.underlying33 info44 rfl (by decide) (by omega) (.slice Ao13 x3_1.length co13) x3_1 (⟨32, Int.tmod ((rd_T44 l0 x4_1).f1) 4⟩ : S44) [.int .i32 32, .int .u8 (Int.tmod ((rd_T44 l0 x4_1).f1) 4)] (fun _ => True) (fun _ => False) rfl rfl ?aP (fun _ hk => hk.elim) ?aF ?aO ?aB ?aS ?aL ?_; (case aP => exact k44_mkM _ _ _ (⟨32, Int.tmod ((rd_T44 l0 x4_1).f1) 4⟩ : S44)); (case aB => exact (by repeat (first | (with_reducible first | exact HB.out | apply below_alloc | apply pw_below_drewN | apply below_drew1) | exact HB.out))); (case aF => exact (fun _ _ => trivial)); (case aO => exact (by (with_reducible repeat (first | apply Kd.R_alloc | apply Kd.R_drewN | apply Kd.R_drew)); exact HO_3.out)); (case aS => exact (below_size (by repeat (first | (with_reducible first | exact HB.out | apply below_alloc | apply pw_below_drewN | apply below_drew1) | exact HB.out)))); (case aL => have := LMc12.out; omega); intro v266 w15 ho hb hg hat; rw [← Ny265.out] at ho; have n0_ := Aside0.mk (hb); have n1_ := Aside0.mk (ho); clear HB; clear HO_3; have HB := n0_; have HO267 := n1_; clear n0_ n1_; clear ho hb hg hat))
         go_roundg k1
         case measure => have := HK1.out; omega
         case rel => exact ⟨(y265), (wrap64 (x4_1 + 1)), (by first | rfl | (simp; done) | (simp [*]; done)), H', ⟨by have := HK1.out; omega⟩, ⟨by (with_reducible repeat (first | apply Kd.R_alloc | apply Kd.R_drewN | apply Kd.R_drew)); exact HO267.out⟩, ⟨by repeat (first | (with_reducible first | exact HB.out | apply below_alloc | apply pw_below_drewN | apply below_drew1) | exact HB.out)⟩⟩
        ·rw [if_neg c12] at H
         exact absurd H (by simp)
       ·rw [if_neg c11] at H
        have c11b0 : decide (0 < t263) = false := decide_eq_false c11
        clear c11
        have H' := Aside0.mk H
        clear H
        have p256 : 0 ≤ (x4_1 : Int) := of_decide_eq_true (by first | (with_reducible assumption) | assumption)
        have q256 : x4_1 < (l0.length : Int) := of_decide_eq_true (by first | (with_reducible assumption) | assumption)
        obtain ⟨ad256, e256, hx256_0, hx256_1⟩ := at_T44 HR0.out x4_1 p256 q256
        cases e256
        replace hx256_0 := (HB.out.cell (World.block_lt_of_cell? w _ hx256_0)).trans hx256_0
        replace hx256_1 := (HB.out.cell (World.block_lt_of_cell? w _ hx256_1)).trans hx256_1
        replace p256 := eq_true p256
        replace q256 := eq_true q256
        go_wp2_with (first | ((with_reducible refine gate_callee (f := 59) rfl ?_); refine goesL_ (some 17) rfl rfl Tryd.func59 (by kernel_rfl) rfl #[.int .i32 ((rd_T44 l0 x4_1).f0)] rfl (by (try simp only [List.map_toArray, List.map_cons, List.map_nil]); first | done | rfl | (simp only [List.length_drop, List.length_take]; rfl)) ?_; (with_reducible refine (flongref02_Safe.calls ((rd_T44 l0 x4_1).f0) t257 _ A4.out).mono ?_); rintro e w' ⟨rfl, ⟨nd, rfl⟩⟩; refine ⟨_, rfl, ?_⟩; have p258 : 0 ≤ (x4_1 : Int) := of_decide_eq_true (by first | (with_reducible assumption) | assumption); have q258 : x4_1 < (l0.length : Int) := of_decide_eq_true (by first | (with_reducible assumption) | assumption); obtain ⟨ad258, e258, hx258_0, hx258_1⟩ := at_T44 HR0.out x4_1 p258 q258; obtain rfl : ad256 = ad258 := (by injection e258); replace hx258_0 := (HB.out.cell (World.block_lt_of_cell? w _ hx258_0)).trans hx258_0; replace hx258_1 := (HB.out.cell (World.block_lt_of_cell? w _ hx258_1)).trans hx258_1; replace p258 := eq_true p258; replace q258 := eq_true q258; obtain ⟨Ao16, co16, eo16⟩ := Kd.R_slice HO_3.out; subst eo16) | (go_at_call 43; (with_reducible refine (flongref02_Width.calls k1 32 t263 _ A10.out).mono ?_); rintro e w17 ⟨rfl, hb⟩; have n0_ := Aside0.mk (Kd.R_below (by (with_reducible repeat (first | apply Kd.R_alloc | apply Kd.R_drewN | apply Kd.R_drew)); exact HO_3.out) hb); have n1_ := Aside0.mk (below_step (by repeat (first | (with_reducible first | exact HB.out | apply below_alloc | apply pw_below_drewN | apply below_drew1) | exact HB.out)) hb); clear HO_3; clear HB; have HO_3 := n0_; have HB := n1_; clear n0_ n1_; (try clear hb); (try clear hb2); (try clear hk); (try clear hi)))
        go_roundg k1
        case measure => have := HK1.out; omega
        case rel => exact ⟨(x3_1), (wrap64 (x4_1 + 1)), (by first | rfl | (simp; done) | (simp [*]; done)), H', ⟨by have := HK1.out; omega⟩, ⟨by (with_reducible repeat (first | apply Kd.R_alloc | apply Kd.R_drewN | apply Kd.R_drew)); exact HO_3.out⟩, ⟨by repeat (first | (with_reducible first | exact HB.out | apply below_alloc | apply pw_below_drewN | apply below_drew1) | exact HB.out)⟩⟩
     ·rw [if_neg c5] at H
      have c5b0 : (((rd_T44 l0 x4_1).f0) == 160) = false := beq_eq_false_iff_ne.mpr c5
      have c5b1 : (((rd_T44 l0 x4_1).f0) != 160) = true := bne_iff_ne.mpr c5
      by_cases c18 : (x3_1.length : Int) > 0
      ·rw [if_pos c18] at H
       have c18b0 : decide (0 < (x3_1.length : Int)) = true := decide_eq_true c18
       have c18b1 : decide (0 < x3_1.length) = true := decide_eq_true (by omega)
       clear c18
       by_cases c19 : x3_1.length < 17592186044416
       ·rw [if_pos c19] at H
        have LMc19 := Aside0.mk c19
        clear c19
        obtain ⟨y269, hy269⟩ : ∃ y_ : List (S44), y_ = (x3_1 ++ [(⟨t257, Int.tmod ((rd_T44 l0 x4_1).f1) 4⟩ : S44)]) := ⟨_, rfl⟩
        replace H : (flongref03_Clean.l0 k1 l0 y269 (wrap64 (x4_1 + 1))) = some r := by first | (rw [hy269]; with_reducible exact H) | (have H2_ := (Option.bind_some _ _).symm.trans H; rw [hy269]; with_reducible exact H2_) | (have H2_ := (Option.bind_some _ _).symm.trans H; with_reducible exact H2_) | with_reducible exact H | (rw [hy269]; exact H) | exact H
        have Ny269 := Aside0.mk hy269
        clear hy269
        have H' := Aside0.mk H
        clear H
        have p256 : 0 ≤ (x4_1 : Int) := of_decide_eq_true (by first | (with_reducible assumption) | assumption)
        have q256 : x4_1 < (l0.length : Int) := of_decide_eq_true (by first | (with_reducible assumption) | assumption)
        obtain ⟨ad256, e256, hx256_0, hx256_1⟩ := at_T44 HR0.out x4_1 p256 q256
        cases e256
        replace hx256_0 := (HB.out.cell (World.block_lt_of_cell? w _ hx256_0)).trans hx256_0
        replace hx256_1 := (HB.out.cell (World.block_lt_of_cell? w _ hx256_1)).trans hx256_1
        replace p256 := eq_true p256
        replace q256 := eq_true q256
        go_wp2_with (first | ((with_reducible refine gate_callee (f := 59) rfl ?_); refine goesL_ (some 17) rfl rfl Tryd.func59 (by kernel_rfl) rfl #[.int .i32 ((rd_T44 l0 x4_1).f0)] rfl (by (try simp only [List.map_toArray, List.map_cons, List.map_nil]); first | done | rfl | (simp only [List.length_drop, List.length_take]; rfl)) ?_; (with_reducible refine (flongref02_Safe.calls ((rd_T44 l0 x4_1).f0) t257 _ A4.out).mono ?_); rintro e w' ⟨rfl, ⟨nd, rfl⟩⟩; refine ⟨_, rfl, ?_⟩; have p258 : 0 ≤ (x4_1 : Int) := of_decide_eq_true (by first | (with_reducible assumption) | assumption); have q258 : x4_1 < (l0.length : Int) := of_decide_eq_true (by first | (with_reducible assumption) | assumption); obtain ⟨ad258, e258, hx258_0, hx258_1⟩ := at_T44 HR0.out x4_1 p258 q258; obtain rfl : ad256 = ad258 := (by injection e258); replace hx258_0 := (HB.out.cell (World.block_lt_of_cell? w _ hx258_0)).trans hx258_0; replace hx258_1 := (HB.out.cell (World.block_lt_of_cell? w _ hx258_1)).trans hx258_1; replace p258 := eq_true p258; replace q258 := eq_true q258; obtain ⟨Ao20, co20, eo20⟩ := Kd.R_slice HO_3.out; subst eo20; have p268 : 0 ≤ (x4_1 : Int) := of_decide_eq_true (by first | (with_reducible assumption) | assumption); have q268 : x4_1 < (l0.length : Int) := of_decide_eq_true (by first | (with_reducible assumption) | assumption); obtain ⟨ad268, e268, hx268_0, hx268_1⟩ := at_T44 HR0.out x4_1 p268 q268; obtain rfl : ad256 = ad268 := (by injection e268); replace hx268_0 := (HB.out.cell (World.block_lt_of_cell? w _ hx268_0)).trans hx268_0; replace hx268_1 := (HB.out.cell (World.block_lt_of_cell? w _ hx268_1)).trans hx268_1; replace p268 := eq_true p268; replace q268 := eq_true q268) | ((with_reducible refine gate_builtin (b := .append) (xs := #[.tmp 32, .tmp 41]) rfl ?_); at_builtin; refine Kd.R_append k44 (w0 := w) w.heap.size rfl (.tmp 32) (.tmp 41) 33 44 (.agg #[(.int .i32 0), (.int .u8 0)]) 8 rfl Tryd.underlying33 info44 rfl (by decide) (by omega) (.slice Ao20 x3_1.length co20) x3_1 (⟨t257, Int.tmod ((rd_T44 l0 x4_1).f1) 4⟩ : S44) [.int .i32 t257, .int .u8 (Int.tmod ((rd_T44 l0 x4_1).f1) 4)] (fun _ => True) (fun _ => False) rfl rfl ?aP (fun _ hk => hk.elim) ?aF ?aO ?aB ?aS ?aL ?_; (case aP => exact k44_mkM _ _ _ (⟨t257, Int.tmod ((rd_T44 l0 x4_1).f1) 4⟩ : S44)); (case aB => exact (by repeat (first | (with_reducible first | exact HB.out | apply below_alloc | apply pw_below_drewN | apply below_drew1) | exact HB.out))); (case aF => exact (fun _ _ => trivial)); (case aO => exact (by (with_reducible repeat (first | apply Kd.R_alloc | apply Kd.R_drewN | apply Kd.R_drew)); exact HO_3.out)); (case aS => exact (below_size (by repeat (first | (with_reducible first | exact HB.out | apply below_alloc | apply pw_below_drewN | apply below_drew1) | exact HB.out)))); (case aL => have := LMc19.out; omega); intro v270 w21 ho hb hg hat; rw [← Ny269.out] at ho; have n0_ := Aside0.mk (hb); have n1_ := Aside0.mk (ho); clear HB; clear HO_3; have HB := n0_; have HO271 := n1_; clear n0_ n1_; clear ho hb hg hat))
        go_roundg k1
        case measure => have := HK1.out; omega
        case rel => exact ⟨(y269), (wrap64 (x4_1 + 1)), (by first | rfl | (simp; done) | (simp [*]; done)), H', ⟨by have := HK1.out; omega⟩, ⟨by (with_reducible repeat (first | apply Kd.R_alloc | apply Kd.R_drewN | apply Kd.R_drew)); exact HO271.out⟩, ⟨by repeat (first | (with_reducible first | exact HB.out | apply below_alloc | apply pw_below_drewN | apply below_drew1) | exact HB.out)⟩⟩
       ·rw [if_neg c19] at H
        exact absurd H (by simp)
      ·rw [if_neg c18] at H
       have c18b0 : decide (0 < (x3_1.length : Int)) = false := decide_eq_false c18
       have c18b1 : decide (0 < x3_1.length) = false := decide_eq_false (by omega)
       clear c18
       replace H := Option.bind_eq_some_iff.mp H
       obtain ⟨t272, A220, H⟩ := H
       replace H : (if t272 > 0 then (if x3_1.length < 17592186044416 then (flongref03_Clean.l0 k1 l0 (x3_1 ++ [(⟨t257, Int.tmod ((rd_T44 l0 x4_1).f1) 4⟩ : S44)]) (wrap64 (x4_1 + 1))) else (none)) else (flongref03_Clean.l0 k1 l0 x3_1 (wrap64 (x4_1 + 1)))) = some r := H
       have A22 := Aside0.mk A220
       clear A220
       by_cases c23 : t272 > 0
       ·rw [if_pos c23] at H
        have c23b0 : decide (0 < t272) = true := decide_eq_true c23
        clear c23
        by_cases c24 : x3_1.length < 17592186044416
        ·rw [if_pos c24] at H
         have LMc24 := Aside0.mk c24
         clear c24
         obtain ⟨y274, hy274⟩ : ∃ y_ : List (S44), y_ = (x3_1 ++ [(⟨t257, Int.tmod ((rd_T44 l0 x4_1).f1) 4⟩ : S44)]) := ⟨_, rfl⟩
         replace H : (flongref03_Clean.l0 k1 l0 y274 (wrap64 (x4_1 + 1))) = some r := by first | (rw [hy274]; with_reducible exact H) | (have H2_ := (Option.bind_some _ _).symm.trans H; rw [hy274]; with_reducible exact H2_) | (have H2_ := (Option.bind_some _ _).symm.trans H; with_reducible exact H2_) | with_reducible exact H | (rw [hy274]; exact H) | exact H
         have Ny274 := Aside0.mk hy274
         clear hy274
         have H' := Aside0.mk H
         clear H
         have p256 : 0 ≤ (x4_1 : Int) := of_decide_eq_true (by first | (with_reducible assumption) | assumption)
         have q256 : x4_1 < (l0.length : Int) := of_decide_eq_true (by first | (with_reducible assumption) | assumption)
         obtain ⟨ad256, e256, hx256_0, hx256_1⟩ := at_T44 HR0.out x4_1 p256 q256
         cases e256
         replace hx256_0 := (HB.out.cell (World.block_lt_of_cell? w _ hx256_0)).trans hx256_0
         replace hx256_1 := (HB.out.cell (World.block_lt_of_cell? w _ hx256_1)).trans hx256_1
         replace p256 := eq_true p256
         replace q256 := eq_true q256
         go_wp2_with (first | ((with_reducible refine gate_callee (f := 59) rfl ?_); refine goesL_ (some 17) rfl rfl Tryd.func59 (by kernel_rfl) rfl #[.int .i32 ((rd_T44 l0 x4_1).f0)] rfl (by (try simp only [List.map_toArray, List.map_cons, List.map_nil]); first | done | rfl | (simp only [List.length_drop, List.length_take]; rfl)) ?_; (with_reducible refine (flongref02_Safe.calls ((rd_T44 l0 x4_1).f0) t257 _ A4.out).mono ?_); rintro e w' ⟨rfl, ⟨nd, rfl⟩⟩; refine ⟨_, rfl, ?_⟩; have p258 : 0 ≤ (x4_1 : Int) := of_decide_eq_true (by first | (with_reducible assumption) | assumption); have q258 : x4_1 < (l0.length : Int) := of_decide_eq_true (by first | (with_reducible assumption) | assumption); obtain ⟨ad258, e258, hx258_0, hx258_1⟩ := at_T44 HR0.out x4_1 p258 q258; obtain rfl : ad256 = ad258 := (by injection e258); replace hx258_0 := (HB.out.cell (World.block_lt_of_cell? w _ hx258_0)).trans hx258_0; replace hx258_1 := (HB.out.cell (World.block_lt_of_cell? w _ hx258_1)).trans hx258_1; replace p258 := eq_true p258; replace q258 := eq_true q258; obtain ⟨Ao25, co25, eo25⟩ := Kd.R_slice HO_3.out; subst eo25) | (go_at_call 43; (with_reducible refine (flongref02_Width.calls k1 t257 t272 _ A22.out).mono ?_); rintro e w26 ⟨rfl, hb⟩; have n0_ := Aside0.mk (Kd.R_below (by (with_reducible repeat (first | apply Kd.R_alloc | apply Kd.R_drewN | apply Kd.R_drew)); exact HO_3.out) hb); have n1_ := Aside0.mk (below_step (by repeat (first | (with_reducible first | exact HB.out | apply below_alloc | apply pw_below_drewN | apply below_drew1) | exact HB.out)) hb); clear HO_3; clear HB; have HO_3 := n0_; have HB := n1_; clear n0_ n1_; (try clear hb); (try clear hb2); (try clear hk); (try clear hi); have p273 : 0 ≤ (x4_1 : Int) := of_decide_eq_true (by first | (with_reducible assumption) | assumption); have q273 : x4_1 < (l0.length : Int) := of_decide_eq_true (by first | (with_reducible assumption) | assumption); obtain ⟨ad273, e273, hx273_0, hx273_1⟩ := at_T44 HR0.out x4_1 p273 q273; obtain rfl : ad256 = ad273 := (by injection e273); replace hx273_0 := (HB.out.cell (World.block_lt_of_cell? w _ hx273_0)).trans hx273_0; replace hx273_1 := (HB.out.cell (World.block_lt_of_cell? w _ hx273_1)).trans hx273_1; replace p273 := eq_true p273; replace q273 := eq_true q273) | ((with_reducible refine gate_builtin (b := .append) (xs := #[.tmp 32, .tmp 41]) rfl ?_); at_builtin; refine Kd.R_append k44 (w0 := w) w.heap.size rfl (.tmp 32) (.tmp 41) 33 44 (.agg #[(.int .i32 0), (.int .u8 0)]) 8 rfl Tryd.underlying33 info44 rfl (by decide) (by omega) (.slice Ao25 x3_1.length co25) x3_1 (⟨t257, Int.tmod ((rd_T44 l0 x4_1).f1) 4⟩ : S44) [.int .i32 t257, .int .u8 (Int.tmod ((rd_T44 l0 x4_1).f1) 4)] (fun _ => True) (fun _ => False) rfl rfl ?aP (fun _ hk => hk.elim) ?aF ?aO ?aB ?aS ?aL ?_; (case aP => exact k44_mkM _ _ _ (⟨t257, Int.tmod ((rd_T44 l0 x4_1).f1) 4⟩ : S44)); (case aB => exact (by repeat (first | (with_reducible first | exact HB.out | apply below_alloc | apply pw_below_drewN | apply below_drew1) | exact HB.out))); (case aF => exact (fun _ _ => trivial)); (case aO => exact (by (with_reducible repeat (first | apply Kd.R_alloc | apply Kd.R_drewN | apply Kd.R_drew)); exact HO_3.out)); (case aS => exact (below_size (by repeat (first | (with_reducible first | exact HB.out | apply below_alloc | apply pw_below_drewN | apply below_drew1) | exact HB.out)))); (case aL => have := LMc24.out; omega); intro v275 w27 ho hb hg hat; rw [← Ny274.out] at ho; have n0_ := Aside0.mk (hb); have n1_ := Aside0.mk (ho); clear HB; clear HO_3; have HB := n0_; have HO276 := n1_; clear n0_ n1_; clear ho hb hg hat))
         go_roundg k1
         case measure => have := HK1.out; omega
         case rel => exact ⟨(y274), (wrap64 (x4_1 + 1)), (by first | rfl | (simp; done) | (simp [*]; done)), H', ⟨by have := HK1.out; omega⟩, ⟨by (with_reducible repeat (first | apply Kd.R_alloc | apply Kd.R_drewN | apply Kd.R_drew)); exact HO276.out⟩, ⟨by repeat (first | (with_reducible first | exact HB.out | apply below_alloc | apply pw_below_drewN | apply below_drew1) | exact HB.out)⟩⟩
        ·rw [if_neg c24] at H
         exact absurd H (by simp)
       ·rw [if_neg c23] at H
        have c23b0 : decide (0 < t272) = false := decide_eq_false c23
        clear c23
        have H' := Aside0.mk H
        clear H
        have p256 : 0 ≤ (x4_1 : Int) := of_decide_eq_true (by first | (with_reducible assumption) | assumption)
        have q256 : x4_1 < (l0.length : Int) := of_decide_eq_true (by first | (with_reducible assumption) | assumption)
        obtain ⟨ad256, e256, hx256_0, hx256_1⟩ := at_T44 HR0.out x4_1 p256 q256
        cases e256
        replace hx256_0 := (HB.out.cell (World.block_lt_of_cell? w _ hx256_0)).trans hx256_0
        replace hx256_1 := (HB.out.cell (World.block_lt_of_cell? w _ hx256_1)).trans hx256_1
        replace p256 := eq_true p256
        replace q256 := eq_true q256
        go_wp2_with (first | ((with_reducible refine gate_callee (f := 59) rfl ?_); refine goesL_ (some 17) rfl rfl Tryd.func59 (by kernel_rfl) rfl #[.int .i32 ((rd_T44 l0 x4_1).f0)] rfl (by (try simp only [List.map_toArray, List.map_cons, List.map_nil]); first | done | rfl | (simp only [List.length_drop, List.length_take]; rfl)) ?_; (with_reducible refine (flongref02_Safe.calls ((rd_T44 l0 x4_1).f0) t257 _ A4.out).mono ?_); rintro e w' ⟨rfl, ⟨nd, rfl⟩⟩; refine ⟨_, rfl, ?_⟩; have p258 : 0 ≤ (x4_1 : Int) := of_decide_eq_true (by first | (with_reducible assumption) | assumption); have q258 : x4_1 < (l0.length : Int) := of_decide_eq_true (by first | (with_reducible assumption) | assumption); obtain ⟨ad258, e258, hx258_0, hx258_1⟩ := at_T44 HR0.out x4_1 p258 q258; obtain rfl : ad256 = ad258 := (by injection e258); replace hx258_0 := (HB.out.cell (World.block_lt_of_cell? w _ hx258_0)).trans hx258_0; replace hx258_1 := (HB.out.cell (World.block_lt_of_cell? w _ hx258_1)).trans hx258_1; replace p258 := eq_true p258; replace q258 := eq_true q258; obtain ⟨Ao28, co28, eo28⟩ := Kd.R_slice HO_3.out; subst eo28) | (go_at_call 43; (with_reducible refine (flongref02_Width.calls k1 t257 t272 _ A22.out).mono ?_); rintro e w29 ⟨rfl, hb⟩; have n0_ := Aside0.mk (Kd.R_below (by (with_reducible repeat (first | apply Kd.R_alloc | apply Kd.R_drewN | apply Kd.R_drew)); exact HO_3.out) hb); have n1_ := Aside0.mk (below_step (by repeat (first | (with_reducible first | exact HB.out | apply below_alloc | apply pw_below_drewN | apply below_drew1) | exact HB.out)) hb); clear HO_3; clear HB; have HO_3 := n0_; have HB := n1_; clear n0_ n1_; (try clear hb); (try clear hb2); (try clear hk); (try clear hi)))
        go_roundg k1
        case measure => have := HK1.out; omega
        case rel => exact ⟨(x3_1), (wrap64 (x4_1 + 1)), (by first | rfl | (simp; done) | (simp [*]; done)), H', ⟨by have := HK1.out; omega⟩, ⟨by (with_reducible repeat (first | apply Kd.R_alloc | apply Kd.R_drewN | apply Kd.R_drew)); exact HO_3.out⟩, ⟨by repeat (first | (with_reducible first | exact HB.out | apply below_alloc | apply pw_below_drewN | apply below_drew1) | exact HB.out)⟩⟩
    ·rw [if_neg c3] at H
     exact absurd H (by simp)
   ·rw [if_neg c2] at H
    have c2b0 : decide (x4_1 < (l0.length : Int)) = false := decide_eq_false c2
    clear c2
    obtain rfl := Option.some.inj H
    go_wp2
    go_ret
    exact ⟨_, by first | rfl | (simp [errW_none, errW_some] <;> rfl) | (simp [*, errW_none, errW_some] <;> rfl), by (with_reducible repeat (first | apply Kd.R_alloc | apply Kd.R_drewN | apply Kd.R_drew)); exact HO_3.out, by repeat (first | (with_reducible first | exact HB.out | apply below_alloc | apply pw_below_drewN | apply below_drew1) | exact HB.out)⟩

/-! ### flongref17_Normal: function 25 -/
mutual
def flongref17_Normal.l0 : Nat → List (S44) → List (S44) → Int → Option ((List (S44)))
 | 0, _, _, _ => none
 | k + 1, x3, x4, x5 => if x5 < (x3.length : Int) then (if 0 ≤ x5 then (if x5 > 0 then ((flongref02_Width.f k ((rd_T44 x3 x5).f0)).bind fun t285 => (flongref17_Normal.j1 k x3 x4 x5 (t285 == 0) ((rd_T44 x3 x5).f0) ((rd_T44 x3 x5).f1))) else (flongref17_Normal.j1 k x3 x4 x5 false ((rd_T44 x3 x5).f0) ((rd_T44 x3 x5).f1))) else (none)) else (some x4)
def flongref17_Normal.j1 : Nat → List (S44) → List (S44) → Int → Bool → Int → Int → Option ((List (S44)))
 | 0, _, _, _, _, _, _ => none
 | k + 1, x3, x4, x5, x27, x285000, x285001 => if x27 = true then (if 0 ≤ (wrap64 (x5 - 1)) then (if (wrap64 (x5 - 1)) < (x4.length : Int) then (if x285000 = 32 then (if x4.length < 17592186044416 then (flongref17_Normal.l0 k x3 (x4 ++ [(⟨x285000, 0⟩ : S44)]) (wrap64 (x5 + 1))) else (none)) else (if x4.length < 17592186044416 then (flongref17_Normal.l0 k x3 (x4 ++ [(⟨x285000, (rd_T44 x4 (wrap64 (x5 - 1))).f1⟩ : S44)]) (wrap64 (x5 + 1))) else (none))) else (none)) else (none)) else (if x285000 = 32 then (if x4.length < 17592186044416 then (flongref17_Normal.l0 k x3 (x4 ++ [(⟨x285000, 0⟩ : S44)]) (wrap64 (x5 + 1))) else (none)) else (if x4.length < 17592186044416 then (flongref17_Normal.l0 k x3 (x4 ++ [(⟨x285000, x285001⟩ : S44)]) (wrap64 (x5 + 1))) else (none)))
end
def flongref17_Normal.f (k : Nat) (l0 : List (S44)) : Option ((List (S44))) := (flongref03_Clean.f k l0).bind fun t277 => ((flongref03_Trim.f k t277).bind fun t280 => (flongref17_Normal.l0 k t280 ([] : List (S44)) 0))
theorem flongref17_Normal.mono_l : ∀ k, (∀ y0 y1 y2, LeO (flongref17_Normal.l0 k y0 y1 y2) (flongref17_Normal.l0 (k + 1) y0 y1 y2)) ∧ (∀ y0 y1 y2 y3 y4 y5, LeO (flongref17_Normal.j1 k y0 y1 y2 y3 y4 y5) (flongref17_Normal.j1 (k + 1) y0 y1 y2 y3 y4 y5))
 | 0 => ⟨fun _ _ _ r h => by simp [flongref17_Normal.l0] at h, fun _ _ _ _ _ _ r h => by simp [flongref17_Normal.j1] at h⟩
 | k + 1 => by
  obtain ⟨ih0, ih1⟩ := flongref17_Normal.mono_l k
  refine ⟨?_, ?_⟩
  ·intro y0 y1 y2
   unfold flongref17_Normal.l0
   repeat' first
   | (with_reducible exact ih0 _ _ _)
   | (with_reducible exact ih1 _ _ _ _ _ _)
   | (with_reducible exact flongref02_Width.mono _ _)
   | (with_reducible exact flongref03_Clean.mono _ _)
   | (with_reducible exact flongref03_Trim.mono _ _)
   | (with_reducible exact LeO.refl _)
   | (with_reducible exact LeO.none _)
   | (with_reducible refine LeO.ite ?_ ?_)
   | (with_reducible refine LeO.bind ?_ (fun _ => ?_))
  ·intro y0 y1 y2 y3 y4 y5
   unfold flongref17_Normal.j1
   repeat' first
   | (with_reducible exact ih0 _ _ _)
   | (with_reducible exact ih1 _ _ _ _ _ _)
   | (with_reducible exact flongref02_Width.mono _ _)
   | (with_reducible exact flongref03_Clean.mono _ _)
   | (with_reducible exact flongref03_Trim.mono _ _)
   | (with_reducible exact LeO.refl _)
   | (with_reducible exact LeO.none _)
   | (with_reducible refine LeO.ite ?_ ?_)
   | (with_reducible refine LeO.bind ?_ (fun _ => ?_))
theorem flongref17_Normal.mono : ∀ a0 k, LeO (flongref17_Normal.f k a0) (flongref17_Normal.f (k + 1) a0) := by
 intro a0 k
 obtain ⟨ih0, ih1⟩ := flongref17_Normal.mono_l k
 unfold flongref17_Normal.f
 repeat' first
   | (with_reducible exact ih0 _ _ _)
   | (with_reducible exact ih1 _ _ _ _ _ _)
   | (with_reducible exact flongref02_Width.mono _ _)
   | (with_reducible exact flongref03_Clean.mono _ _)
   | (with_reducible exact flongref03_Trim.mono _ _)
   | (with_reducible exact LeO.refl _)
   | (with_reducible exact LeO.none _)
   | (with_reducible refine LeO.ite ?_ ?_)
   | (with_reducible refine LeO.bind ?_ (fun _ => ?_))
theorem flongref17_Normal.calls (k : Nat) (A0 : Option Addr) (c0 : Nat) (l0 : List (S44)) (r : List (S44)) (w : World) (hr0 : Kd.C k44 w A0 l0.length l0) (hc0 : l0.length ≤ c0) (h : flongref17_Normal.f k l0 = some r) :
  Calls Tryd.prog 25 #[.slice A0 l0.length c0] w fun e w' => ∃ v0_ : Value, e = .returned (v0_) ∧ Kd.R k44 44 w' w.heap.size (fun _ => True) v0_ r ∧ Below w.heap.size w w' := by
 have hu44 := Tryd.underlying44
 have HR0 := Aside0.mk hr0
 have HC0 := Aside0.mk hc0
 clear hr0 hc0
 have HB := Aside0.mk (Below.refl w.heap.size w)
 have H : ((flongref03_Clean.f k l0).bind fun t277 => ((flongref03_Trim.f k t277).bind fun t280 => (flongref17_Normal.l0 k t280 ([] : List (S44)) 0))) = some r := h
 clear h
 replace H := Option.bind_eq_some_iff.mp H
 obtain ⟨t277, A20, H⟩ := H
 replace H : ((flongref03_Trim.f k t277).bind fun t280 => (flongref17_Normal.l0 k t280 ([] : List (S44)) 0)) = some r := H
 have A2 := Aside0.mk A20
 clear A20
 replace H := Option.bind_eq_some_iff.mp H
 obtain ⟨t280, A30, H⟩ := H
 replace H : (flongref17_Normal.l0 k t280 ([] : List (S44)) 0) = some r := H
 have A3 := Aside0.mk A30
 clear A30
 have H' := Aside0.mk H
 clear H
 go_enter Tryd.func25, Tryd.ntmps25
 go_wp2_with (first | ((with_reducible refine gate_callee (f := 42) rfl ?_); refine goesL_ (some 8) rfl rfl Tryd.func42 (by kernel_rfl) rfl #[.slice A0 l0.length c0] rfl (by (try simp only [List.map_toArray, List.map_cons, List.map_nil]); first | done | rfl | (simp only [List.length_drop, List.length_take]; rfl)) ?_; (with_reducible refine (flongref03_Clean.calls k _ _ l0 t277 _ ?side1 ?side2 A2.out).mono ?_); (case side1 => repeat (first | exact HR0.out | (with_reducible refine Kd.C_alloc ?_ _) | (with_reducible refine Kd.C_drewN ?_ _) | (with_reducible refine Kd.C_drew ?_))); (case side2 => exact HC0.out); rintro e w4 ⟨v278, rfl, ho0, hb⟩; refine ⟨_, rfl, ?_⟩; have n0_ := Aside0.mk (Kd.R_lower ho0 (below_size (by repeat (first | (with_reducible first | exact HB.out | apply below_alloc | apply pw_below_drewN | apply below_drew1) | exact HB.out)))); have n1_ := Aside0.mk (below_step (by repeat (first | (with_reducible first | exact HB.out | apply below_alloc | apply pw_below_drewN | apply below_drew1) | exact HB.out)) hb); clear HB; have HO279 := n0_; have HB := n1_; clear n0_ n1_; (try clear hb); (try clear hb2); (try clear hk); (try clear hi); (try clear ho0); obtain ⟨Ao5, co5, eo5⟩ := Kd.R_slice HO279.out; subst eo5) | ((with_reducible refine gate_callee (f := 41) rfl ?_); refine goesL_ (some 9) rfl rfl Tryd.func41 (by kernel_rfl) rfl #[.slice Ao5 t277.length co5] rfl (by (try simp only [List.map_toArray, List.map_cons, List.map_nil]); first | done | rfl | (simp only [List.length_drop, List.length_take]; rfl)) ?_; (with_reducible refine (flongref03_Trim.calls k (fun k_ => some k_ = (.slice Ao5 t277.length co5 : Value).ownBlock) _ _ t277 t280 _ ?side1 A3.out).mono ?_); (case side1 => exact Kd.R_V (Kd.R_tight rfl (HO279.out))); rintro e w6 ⟨v281, rfl, ho0, hb⟩; refine ⟨_, rfl, ?_⟩; have n0_ := Aside0.mk (Kd.R_below (by (with_reducible repeat (first | apply Kd.R_alloc | apply Kd.R_drewN | apply Kd.R_drew)); exact HO279.out) hb); have n1_ := Aside0.mk (Kd.V_lower (Kd.V_mono (ok' := fun k_ => True) ho0 (fun k_ hk_ => trivial)) (below_size (by repeat (first | (with_reducible first | exact HB.out | apply below_alloc | apply pw_below_drewN | apply below_drew1) | exact HB.out)))); have n2_ := Aside0.mk (below_step (by repeat (first | (with_reducible first | exact HB.out | apply below_alloc | apply pw_below_drewN | apply below_drew1) | exact HB.out)) hb); clear HO279; clear HB; have HO279 := n0_; have HO282 := n1_; have HB := n2_; clear n0_ n1_ n2_; (try clear hb); (try clear hb2); (try clear hk); (try clear hi); (try clear ho0)))
 go_loopg [4, 5] k (fun kq v4 v5 w' => ∃ (x4_1 : List (S44)) (x5_1 : Int), v5 = .int .i64 x5_1 ∧ Aside0 (flongref17_Normal.l0 kq t280 x4_1 x5_1 = some r) ∧ Aside0 (kq ≤ k) ∧ Aside0 (Kd.V k44 44 w' w.heap.size (fun k_ => some k_ ≠ (v4 : Value).ownBlock) v281 t280) ∧ Aside0 (Kd.R k44 44 w' w.heap.size (fun _ => True) v4 x4_1) ∧ Aside0 (Below w.heap.size w w'))
 case atStart => exact ⟨(([] : List (S44))), (0), (by first | rfl | (simp; done) | (simp [*]; done)), H', ⟨Nat.le_refl _⟩, ⟨by (with_reducible repeat (first | apply Kd.V_alloc | apply Kd.V_drewN | apply Kd.V_drew)); exact Kd.V_mono HO282.out (fun _ hk => (by simp [Value.ownBlock]))⟩, ⟨by first | exact Kd.R_nil _ _ _ _ _ | exact Kd.N_nil _ _ _ _ _ | exact Kd.V_nil _ _ _ _ _ | exact Kd.Q_nil _ _ _ _ _ | exact Kd.S_nil _ _ _ _ _⟩, ⟨by repeat (first | (with_reducible first | exact HB.out | apply below_alloc | apply pw_below_drewN | apply below_drew1) | exact HB.out)⟩⟩
 case round =>
  clear H'
  try clear c2
  try clear p2
  try clear c4
  obtain ⟨x4_1, x5_1, rfl, HA, HK1, HO_3, HO_4, HB⟩ := hrel
  cases gk with
  | zero => exact absurd HA.out (by simp [flongref17_Normal.l0])
  | succ k1 =>
   have H := HA.out
   clear HA
   simp only [flongref17_Normal.l0] at H
   by_cases c7 : x5_1 < (t280.length : Int)
   ·rw [if_pos c7] at H
    have c7b0 : decide (x5_1 < (t280.length : Int)) = true := decide_eq_true c7
    clear c7
    by_cases c8 : 0 ≤ x5_1
    ·rw [if_pos c8] at H
     have c8b0 : decide (0 ≤ x5_1) = true := decide_eq_true c8
     clear c8
     have HC9 := Aside0.mk H
     clear H
     obtain ⟨Ao10, co10, eo10⟩ := Kd.V_slice HO_3.out
     subst eo10
     have p283 : 0 ≤ (x5_1 : Int) := of_decide_eq_true (by first | (with_reducible assumption) | assumption)
     have q283 : x5_1 < (t280.length : Int) := of_decide_eq_true (by first | (with_reducible assumption) | assumption)
     obtain ⟨ad283, e283, hx283_0, hx283_1⟩ := at_T44 (Kd.V_reads' HO_3.out).2.2 x5_1 p283 q283
     cases e283
     replace p283 := eq_true p283
     replace q283 := eq_true q283
     go_upto_region 7 with (first | ((with_reducible refine gate_dst (N := 6) rfl ?_); refine box_event ?hg (N := 6) ?hd (cs := #[.int .i32 0, .int .u8 0]) (t := 44) ?hr ?_; (case hd => rfl); (case hg => rfl); (case hr => first | (go_simp; done) | (go_simp; rfl)); intro gb284 hg w11 hbox hb; have n0_ := Aside0.mk (Kd.V_below (Kd.V_elderB (by (with_reducible repeat (first | apply Kd.V_alloc | apply Kd.V_drewN | apply Kd.V_drew)); exact HO_3.out) gb284 (Nat.le_of_eq hg.symm)) hb); have n1_ := Aside0.mk (Kd.R_below (Kd.R_elderB (by (with_reducible repeat (first | apply Kd.R_alloc | apply Kd.R_drewN | apply Kd.R_drew)); exact HO_4.out) gb284 (Nat.le_of_eq hg.symm)) hb); have n2_ := Aside0.mk (below_step (by repeat (first | (with_reducible first | exact HB.out | apply below_alloc | apply pw_below_drewN | apply below_drew1) | exact HB.out)) hb); have n3_ := Aside0.mk (hbox); have n4_ := Aside0.mk ((by rw [hg]; exact (below_size (by repeat (first | (with_reducible first | exact HB.out | apply below_alloc | apply pw_below_drewN | apply below_drew1) | exact HB.out))) : w.heap.size ≤ gb284)); have n5_ := Aside0.mk ((by rw [hg]; exact (below_size (by repeat (first | (with_reducible first | exact HB.out | apply below_alloc | apply pw_below_drewN | apply below_drew1) | exact HB.out))) : w.heap.size ≤ gb284)); clear HO_3; clear HO_4; clear HB; have HO_3 := n0_; have HO_4 := n1_; have HB := n2_; have BK284 := n3_; have GW284 := n4_; have GE284 := n5_; clear n0_ n1_ n2_ n3_ n4_ n5_; clear hb hbox hg; have hcz12_0 : w11.cell? ⟨gb284, 0, none⟩ = some (.int .i32 0) := (blk_cell BK284.out 0).trans rfl; have hcz12_1 : w11.cell? ⟨gb284, 1, none⟩ = some (.int .u8 0) := (blk_cell BK284.out 1).trans rfl; have hfz12_0 := blk_frozen BK284.out 0; have hfz12_1 := blk_frozen BK284.out 1))
     (try simp only [Act.put, List.setIfInBounds_toArray, List.set_cons_zero, List.set_cons_succ])
     go_cut [27] (fun v27 wc => ∃ (kq : Nat) (x27_8 : Bool), v27 = .bool x27_8 ∧ Aside0 (flongref17_Normal.j1 kq t280 x4_1 x5_1 x27_8 ((rd_T44 t280 x5_1).f0) ((rd_T44 t280 x5_1).f1) = some r) ∧ Aside0 (kq ≤ k1) ∧ Aside0 (Kd.V k44 44 wc w.heap.size (fun k_ => some k_ ≠ (u4 : Value).ownBlock ∧ k_ ≠ gb284) (.slice (some ad283) t280.length co10) t280) ∧ Aside0 (Kd.R k44 44 wc w.heap.size (fun k_ => k_ ≠ gb284) u4 x4_1) ∧ Aside0 (wc.heap[gb284]? = some (.cells #[.int .i32 ((rd_T44 t280 x5_1).f0), .int .u8 ((rd_T44 t280 x5_1).f1)] 44 (0, 0))) ∧ Aside0 (Below w.heap.size w wc))
     case first =>
      have H := HC9.out
      clear HC9
      by_cases c13 : x5_1 > 0
      ·rw [if_pos c13] at H
       have c13b0 : decide (0 < x5_1) = true := decide_eq_true c13
       clear c13
       (first | rw [c13b0] | (simp only [i64_w, i32_w]; rw [c13b0]) | skip)
       replace H := Option.bind_eq_some_iff.mp H
       obtain ⟨t285, A140, H⟩ := H
       replace H : (flongref17_Normal.j1 k1 t280 x4_1 x5_1 (t285 == 0) ((rd_T44 t280 x5_1).f0) ((rd_T44 t280 x5_1).f1)) = some r := H
       have A14 := Aside0.mk A140
       clear A140
       have H' := Aside0.mk H
       clear H
       have hcz15_0 : w11.cell? ⟨gb284, 0, none⟩ = some (.int .i32 0) := (blk_cell BK284.out 0).trans rfl
       have hcz15_1 : w11.cell? ⟨gb284, 1, none⟩ = some (.int .u8 0) := (blk_cell BK284.out 1).trans rfl
       have hfz15_0 := blk_frozen BK284.out 0
       have hfz15_1 := blk_frozen BK284.out 1
       go_wp2_with (first | (go_at_call 43; (with_reducible refine (flongref02_Width.calls k1 ((rd_T44 t280 x5_1).f0) t285 _ A14.out).mono ?_); rintro e w16 ⟨rfl, hb⟩; have n0_ := Aside0.mk (Kd.V_below (by (with_reducible repeat (first | apply Kd.V_alloc | apply Kd.V_drewN | apply Kd.V_drew)); exact (Kd.V_mono (Kd.V_far (p := ⟨gb284, 1, none⟩) (Kd.V_far (p := ⟨gb284, 0, none⟩) (Kd.V_mono HO_3.out (fun k_ hk => (⟨hk, hk.2⟩ : _ ∧ k_ ≠ gb284))) (fun _ hk => hk.2) (.int .i32 ((rd_T44 t280 x5_1).f0))) (fun _ hk => hk.2) (.int .u8 ((rd_T44 t280 x5_1).f1))) (fun _ h_ => h_.1))) hb); have n1_ := Aside0.mk (Kd.R_below (by (with_reducible repeat (first | apply Kd.R_alloc | apply Kd.R_drewN | apply Kd.R_drew)); exact (Kd.R_mono (Kd.R_far (p := ⟨gb284, 1, none⟩) (Kd.R_far (p := ⟨gb284, 0, none⟩) (Kd.R_mono HO_4.out (fun k_ hk => (⟨hk, hk.2⟩ : _ ∧ k_ ≠ gb284))) (fun _ hk => hk.2) (.int .i32 ((rd_T44 t280 x5_1).f0))) (fun _ hk => hk.2) (.int .u8 ((rd_T44 t280 x5_1).f1))) (fun _ h_ => h_.1))) hb); have n2_ := Aside0.mk (blk_below (g := gb284) (o := .cells #[.int .i32 ((rd_T44 t280 x5_1).f0), .int .u8 ((rd_T44 t280 x5_1).f1)] 44 (0, 0)) (by (with_reducible repeat (first | refine blk_drewN ?_ _ | refine blk_drew ?_ | refine blk_alloc ?_ _)); refine blk_put (cs := #[.int .i32 ((rd_T44 t280 x5_1).f0), .int .u8 0]) ?_ 1 _ rfl; (with_reducible repeat (first | refine blk_drewN ?_ _ | refine blk_drew ?_ | refine blk_alloc ?_ _)); refine blk_put (cs := #[.int .i32 0, .int .u8 0]) ?_ 0 _ rfl; (with_reducible repeat (first | refine blk_drewN ?_ _ | refine blk_drew ?_ | refine blk_alloc ?_ _)); exact BK284.out) hb); have n3_ := Aside0.mk (below_step (by repeat (first | (with_reducible first | exact HB.out | apply below_alloc | apply pw_below_drewN | apply below_drew1 | refine below_set ?_ GE284.out) | exact HB.out)) hb); clear HO_3; clear HO_4; clear BK284; clear HB; have HO_3 := n0_; have HO_4 := n1_; have BK284 := n2_; have HB := n3_; clear n0_ n1_ n2_ n3_; (try clear hb); (try clear hb2); (try clear hk); (try clear hi)))
       go_meet
       case rel => exact ⟨_, ((t285 == 0)), (by first | rfl | (simp; done) | (simp [*]; done)), H', ⟨by have := HK1.out; first | omega | exact Nat.le_refl _⟩, ⟨by (with_reducible repeat (first | apply Kd.V_alloc | apply Kd.V_drewN | apply Kd.V_drew)); exact HO_3.out⟩, ⟨by (with_reducible repeat (first | apply Kd.R_alloc | apply Kd.R_drewN | apply Kd.R_drew)); exact Kd.R_mono HO_4.out (fun _ hk => hk.2)⟩, ⟨by (with_reducible repeat (first | refine blk_drewN ?_ _ | refine blk_drew ?_ | refine blk_alloc ?_ _)); exact BK284.out⟩, ⟨by repeat (first | (with_reducible first | exact HB.out | apply below_alloc | apply pw_below_drewN | apply below_drew1 | refine below_set ?_ GE284.out) | exact HB.out)⟩⟩
      ·rw [if_neg c13] at H
       have c13b0 : decide (0 < x5_1) = false := decide_eq_false c13
       clear c13
       (first | rw [c13b0] | (simp only [i64_w, i32_w]; rw [c13b0]) | skip)
       have H' := Aside0.mk H
       clear H
       go_wp2
       go_meet
       case rel => exact ⟨_, (false), (by first | rfl | (simp; done) | (simp [*]; done)), H', ⟨by have := HK1.out; first | omega | exact Nat.le_refl _⟩, ⟨by (with_reducible repeat (first | apply Kd.V_alloc | apply Kd.V_drewN | apply Kd.V_drew)); exact Kd.V_mono (Kd.V_far (p := ⟨gb284, 1, none⟩) (Kd.V_far (p := ⟨gb284, 0, none⟩) (Kd.V_mono HO_3.out (fun k_ hk => (⟨hk, hk.2⟩ : _ ∧ k_ ≠ gb284))) (fun _ hk => hk.2) (.int .i32 ((rd_T44 t280 x5_1).f0))) (fun _ hk => hk.2) (.int .u8 ((rd_T44 t280 x5_1).f1))) (fun _ hk => ⟨hk.1.1, hk.1.2⟩)⟩, ⟨by (with_reducible repeat (first | apply Kd.R_alloc | apply Kd.R_drewN | apply Kd.R_drew)); exact Kd.R_mono (Kd.R_far (p := ⟨gb284, 1, none⟩) (Kd.R_far (p := ⟨gb284, 0, none⟩) (Kd.R_mono HO_4.out (fun k_ hk => (⟨hk, hk.2⟩ : _ ∧ k_ ≠ gb284))) (fun _ hk => hk.2) (.int .i32 ((rd_T44 t280 x5_1).f0))) (fun _ hk => hk.2) (.int .u8 ((rd_T44 t280 x5_1).f1))) (fun _ hk => hk.1.2)⟩, ⟨by (with_reducible repeat (first | refine blk_drewN ?_ _ | refine blk_drew ?_ | refine blk_alloc ?_ _)); refine blk_put (cs := #[.int .i32 ((rd_T44 t280 x5_1).f0), .int .u8 0]) ?_ 1 _ rfl; (with_reducible repeat (first | refine blk_drewN ?_ _ | refine blk_drew ?_ | refine blk_alloc ?_ _)); refine blk_put (cs := #[.int .i32 0, .int .u8 0]) ?_ 0 _ rfl; (with_reducible repeat (first | refine blk_drewN ?_ _ | refine blk_drew ?_ | refine blk_alloc ?_ _)); exact BK284.out⟩, ⟨by repeat (first | (with_reducible first | exact HB.out | apply below_alloc | apply pw_below_drewN | apply below_drew1 | refine below_set ?_ GE284.out) | exact HB.out)⟩⟩
     case rest =>
      clear HC9
      try clear c1
      try clear c2
      try clear p2
      try clear q2
      try clear hx2
      try clear c4
      try clear c7
      try clear c7b0
      try clear c8
      try clear c8b0
      try clear c13
      try clear c13b0
      try clear hcz12_0
      try clear hcz12_1
      try clear hcz15_0
      try clear hcz15_1
      try clear hfz12_0
      try clear hfz12_1
      try clear hfz15_0
      try clear hfz15_1
      try clear hx283_0
      try clear hx283_1
      try clear p2
      try clear p283
      try clear q283
      obtain ⟨kq, x27_8, rfl, HA, HJ8, HO_3, HO_4, BK284, HB⟩ := hcut
      cases kq with
      | zero => exact absurd HA.out (by simp [flongref17_Normal.j1])
      | succ kj8 =>
       have H := HA.out
       clear HA
       simp only [flongref17_Normal.j1] at H
       by_cases c17 : x27_8 = true
       ·subst c17
        have H1 : (if 0 ≤ (wrap64 (x5_1 - 1)) then (if (wrap64 (x5_1 - 1)) < (x4_1.length : Int) then (if ((rd_T44 t280 x5_1).f0) = 32 then (if x4_1.length < 17592186044416 then (flongref17_Normal.l0 kj8 t280 (x4_1 ++ [(⟨((rd_T44 t280 x5_1).f0), 0⟩ : S44)]) (wrap64 (x5_1 + 1))) else (none)) else (if x4_1.length < 17592186044416 then (flongref17_Normal.l0 kj8 t280 (x4_1 ++ [(⟨((rd_T44 t280 x5_1).f0), (rd_T44 x4_1 (wrap64 (x5_1 - 1))).f1⟩ : S44)]) (wrap64 (x5_1 + 1))) else (none))) else (none)) else (none)) = some r := by rw [if_pos rfl] at H; exact H
        clear H
        have H := H1
        clear H1
        obtain ⟨ji18, hji18⟩ : ∃ j_ : Int, (wrap64 (x5_1 - 1)) = j_ := ⟨_, rfl⟩
        replace H : (if 0 ≤ (ji18) then (if (ji18) < (x4_1.length : Int) then (if ((rd_T44 t280 x5_1).f0) = 32 then (if x4_1.length < 17592186044416 then (flongref17_Normal.l0 kj8 t280 (x4_1 ++ [(⟨((rd_T44 t280 x5_1).f0), 0⟩ : S44)]) (wrap64 (x5_1 + 1))) else (none)) else (if x4_1.length < 17592186044416 then (flongref17_Normal.l0 kj8 t280 (x4_1 ++ [(⟨((rd_T44 t280 x5_1).f0), (rd_T44 x4_1 (ji18)).f1⟩ : S44)]) (wrap64 (x5_1 + 1))) else (none))) else (none)) else (none)) = some r := by first | (rw [hji18] at H; exact H) | (simp only [hji18] at H ⊢; exact H)
        have hji18w : (IntKind.i64.wrap (x5_1 - 1)) = ji18 := (i64_w _).trans hji18
        by_cases c19 : 0 ≤ (ji18)
        ·rw [if_pos c19] at H
         have c19b0 : decide (0 ≤ (ji18)) = true := decide_eq_true c19
         clear c19
         by_cases c20 : (ji18) < (x4_1.length : Int)
         ·rw [if_pos c20] at H
          have c20b0 : decide ((ji18) < (x4_1.length : Int)) = true := decide_eq_true c20
          clear c20
          by_cases c21 : ((rd_T44 t280 x5_1).f0) = 32
          ·rw [if_pos c21] at H
           have c21b0 : (((rd_T44 t280 x5_1).f0) == 32) = true := beq_iff_eq.mpr c21
           have c21b1 : (((rd_T44 t280 x5_1).f0) != 32) = false := bne_eq_false_iff_eq.mpr c21
           clear c21
           by_cases c22 : x4_1.length < 17592186044416
           ·rw [if_pos c22] at H
            have LMc22 := Aside0.mk c22
            clear c22
            obtain ⟨y287, hy287⟩ : ∃ y_ : List (S44), y_ = (x4_1 ++ [(⟨((rd_T44 t280 x5_1).f0), 0⟩ : S44)]) := ⟨_, rfl⟩
            replace H : (flongref17_Normal.l0 kj8 t280 y287 (wrap64 (x5_1 + 1))) = some r := by first | (rw [hy287]; with_reducible exact H) | (have H2_ := (Option.bind_some _ _).symm.trans H; rw [hy287]; with_reducible exact H2_) | (have H2_ := (Option.bind_some _ _).symm.trans H; with_reducible exact H2_) | with_reducible exact H | (rw [hy287]; exact H) | exact H
            have Ny287 := Aside0.mk hy287
            clear hy287
            have H' := Aside0.mk H
            clear H
            obtain ⟨Ao23, co23, eo23⟩ := Kd.R_slice HO_4.out
            subst eo23
            have p286 : 0 ≤ ((ji18) : Int) := of_decide_eq_true (by first | (with_reducible assumption) | assumption)
            have q286 : (ji18) < (x4_1.length : Int) := of_decide_eq_true (by first | (with_reducible assumption) | assumption)
            obtain ⟨ad286, e286, hx286_0, hx286_1⟩ := at_T44 (Kd.R_reads' HO_4.out).2.2 (ji18) p286 q286
            cases e286
            replace p286 := eq_true p286
            replace q286 := eq_true q286
            have hcz24_0 : wc.cell? ⟨gb284, 0, none⟩ = some (.int .i32 ((rd_T44 t280 x5_1).f0)) := (blk_cell BK284.out 0).trans rfl
            have hcz24_1 : wc.cell? ⟨gb284, 1, none⟩ = some (.int .u8 ((rd_T44 t280 x5_1).f1)) := (blk_cell BK284.out 1).trans rfl
            have hfz24_0 := blk_frozen BK284.out 0
            have hfz24_1 := blk_frozen BK284.out 1
            go_wp2_with (first | ((with_reducible refine gate_builtin (b := .append) (xs := #[.tmp 39, .tmp 41]) rfl ?_); at_builtin; refine Kd.R_append k44 (w0 := w) w.heap.size rfl (.tmp 39) (.tmp 41) 33 44 (.agg #[(.int .i32 0), (.int .u8 0)]) 8 rfl Tryd.underlying33 info44 rfl (by decide) (by omega) (.slice (some ad286) x4_1.length co23) x4_1 (⟨((rd_T44 t280 x5_1).f0), 0⟩ : S44) [.int .i32 ((rd_T44 t280 x5_1).f0), .int .u8 0] (fun k_ => k_ ≠ gb284) (fun _ => False) rfl (by first | (go_simp; done) | (go_simp; rfl)) ?aP (fun _ hk => hk.elim) ?aF ?aO ?aB ?aS ?aL ?_; (case aP => exact k44_mkM _ _ _ (⟨((rd_T44 t280 x5_1).f0), 0⟩ : S44)); (case aB => exact (by repeat (first | (with_reducible first | exact HB.out | apply below_alloc | apply pw_below_drewN | apply below_drew1 | refine below_set ?_ GE284.out) | exact HB.out))); (case aF => exact (fun k_ hk => Kd.freshB (g := gb284) (o := .cells #[.int .i32 ((rd_T44 t280 x5_1).f0), .int .u8 0] 44 (0, 0)) (by (with_reducible repeat (first | refine blk_drewN ?_ _ | refine blk_drew ?_ | refine blk_alloc ?_ _)); refine blk_put (cs := #[.int .i32 ((rd_T44 t280 x5_1).f0), .int .u8 ((rd_T44 x4_1 (ji18)).f1)]) ?_ 1 _ rfl; (with_reducible repeat (first | refine blk_drewN ?_ _ | refine blk_drew ?_ | refine blk_alloc ?_ _)); refine blk_put (cs := #[.int .i32 ((rd_T44 t280 x5_1).f0), .int .u8 ((rd_T44 t280 x5_1).f1)]) ?_ 1 _ rfl; (with_reducible repeat (first | refine blk_drewN ?_ _ | refine blk_drew ?_ | refine blk_alloc ?_ _)); exact BK284.out) k_ hk)); (case aO => exact (by (with_reducible repeat (first | apply Kd.R_alloc | apply Kd.R_drewN | apply Kd.R_drew)); exact Kd.R_mono (Kd.R_far (p := ⟨gb284, 1, none⟩) (Kd.R_far (p := ⟨gb284, 1, none⟩) (Kd.R_mono HO_4.out (fun k_ hk => (⟨hk, hk⟩ : _ ∧ k_ ≠ gb284))) (fun _ hk => hk.2) (.int .u8 ((rd_T44 x4_1 (ji18)).f1))) (fun _ hk => hk.2) (.int .u8 0)) (fun _ hk => hk.1))); (case aS => exact (below_size (by repeat (first | (with_reducible first | exact HB.out | apply below_alloc | apply pw_below_drewN | apply below_drew1 | refine below_set ?_ GE284.out) | exact HB.out)))); (case aL => have := LMc22.out; omega); intro v288 w25 ho hb hg hat; rw [← Ny287.out] at ho; have n0_ := Aside0.mk (Kd.V_afterv (ok := (fun k_ => k_ ≠ gb284)) (by (with_reducible repeat (first | apply Kd.V_alloc | apply Kd.V_drewN | apply Kd.V_drew)); exact Kd.V_mono (Kd.V_far (p := ⟨gb284, 1, none⟩) (Kd.V_far (p := ⟨gb284, 1, none⟩) (Kd.V_mono HO_3.out (fun k_ hk => (⟨hk, hk.2⟩ : _ ∧ k_ ≠ gb284))) (fun _ hk => hk.2) (.int .u8 ((rd_T44 x4_1 (ji18)).f1))) (fun _ hk => hk.2) (.int .u8 0)) (fun _ hk => ⟨hk.1.2, hk.1.1⟩)) hg hat); have n1_ := Aside0.mk (blk_grown (g := gb284) (o := .cells #[.int .i32 ((rd_T44 t280 x5_1).f0), .int .u8 0] 44 (0, 0)) (by (with_reducible repeat (first | refine blk_drewN ?_ _ | refine blk_drew ?_ | refine blk_alloc ?_ _)); refine blk_put (cs := #[.int .i32 ((rd_T44 t280 x5_1).f0), .int .u8 ((rd_T44 x4_1 (ji18)).f1)]) ?_ 1 _ rfl; (with_reducible repeat (first | refine blk_drewN ?_ _ | refine blk_drew ?_ | refine blk_alloc ?_ _)); refine blk_put (cs := #[.int .i32 ((rd_T44 t280 x5_1).f0), .int .u8 ((rd_T44 t280 x5_1).f1)]) ?_ 1 _ rfl; (with_reducible repeat (first | refine blk_drewN ?_ _ | refine blk_drew ?_ | refine blk_alloc ?_ _)); exact BK284.out) hg (Kd.R_away HO_4.out (fun _ hk => hk))); have n2_ := Aside0.mk (hb); have n3_ := Aside0.mk (ho); clear HO_3; clear BK284; clear HB; clear HO_4; have HO_3 := n0_; have BK284 := n1_; have HB := n2_; have HO289 := n3_; clear n0_ n1_ n2_ n3_; clear ho hb hg hat))
            go_roundg kj8
            case measure => have := HK1.out; have := HJ8.out; omega
            case rel => exact ⟨(y287), (wrap64 (x5_1 + 1)), (by first | rfl | (simp; done) | (simp [*]; done)), H', ⟨by have := HK1.out; have := HJ8.out; omega⟩, ⟨by (with_reducible repeat (first | apply Kd.V_alloc | apply Kd.V_drewN | apply Kd.V_drew)); exact Kd.V_mono HO_3.out (fun _ hk => hk.2)⟩, ⟨by (with_reducible repeat (first | apply Kd.R_alloc | apply Kd.R_drewN | apply Kd.R_drew)); exact Kd.R_mono HO289.out (fun _ hk => trivial)⟩, ⟨by repeat (first | (with_reducible first | exact HB.out | apply below_alloc | apply pw_below_drewN | apply below_drew1 | refine below_set ?_ GE284.out) | exact HB.out)⟩⟩
           ·rw [if_neg c22] at H
            exact absurd H (by simp)
          ·rw [if_neg c21] at H
           have c21b0 : (((rd_T44 t280 x5_1).f0) == 32) = false := beq_eq_false_iff_ne.mpr c21
           have c21b1 : (((rd_T44 t280 x5_1).f0) != 32) = true := bne_iff_ne.mpr c21
           by_cases c26 : x4_1.length < 17592186044416
           ·rw [if_pos c26] at H
            have LMc26 := Aside0.mk c26
            clear c26
            obtain ⟨y290, hy290⟩ : ∃ y_ : List (S44), y_ = (x4_1 ++ [(⟨((rd_T44 t280 x5_1).f0), (rd_T44 x4_1 (ji18)).f1⟩ : S44)]) := ⟨_, rfl⟩
            replace H : (flongref17_Normal.l0 kj8 t280 y290 (wrap64 (x5_1 + 1))) = some r := by first | (rw [hy290]; with_reducible exact H) | (have H2_ := (Option.bind_some _ _).symm.trans H; rw [hy290]; with_reducible exact H2_) | (have H2_ := (Option.bind_some _ _).symm.trans H; with_reducible exact H2_) | with_reducible exact H | (rw [hy290]; exact H) | exact H
            have Ny290 := Aside0.mk hy290
            clear hy290
            have H' := Aside0.mk H
            clear H
            obtain ⟨Ao27, co27, eo27⟩ := Kd.R_slice HO_4.out
            subst eo27
            have p286 : 0 ≤ ((ji18) : Int) := of_decide_eq_true (by first | (with_reducible assumption) | assumption)
            have q286 : (ji18) < (x4_1.length : Int) := of_decide_eq_true (by first | (with_reducible assumption) | assumption)
            obtain ⟨ad286, e286, hx286_0, hx286_1⟩ := at_T44 (Kd.R_reads' HO_4.out).2.2 (ji18) p286 q286
            cases e286
            replace p286 := eq_true p286
            replace q286 := eq_true q286
            have hcz28_0 : wc.cell? ⟨gb284, 0, none⟩ = some (.int .i32 ((rd_T44 t280 x5_1).f0)) := (blk_cell BK284.out 0).trans rfl
            have hcz28_1 : wc.cell? ⟨gb284, 1, none⟩ = some (.int .u8 ((rd_T44 t280 x5_1).f1)) := (blk_cell BK284.out 1).trans rfl
            have hfz28_0 := blk_frozen BK284.out 0
            have hfz28_1 := blk_frozen BK284.out 1
            go_wp2_with (first | ((with_reducible refine gate_builtin (b := .append) (xs := #[.tmp 39, .tmp 41]) rfl ?_); at_builtin; refine Kd.R_append k44 (w0 := w) w.heap.size rfl (.tmp 39) (.tmp 41) 33 44 (.agg #[(.int .i32 0), (.int .u8 0)]) 8 rfl Tryd.underlying33 info44 rfl (by decide) (by omega) (.slice (some ad286) x4_1.length co27) x4_1 (⟨((rd_T44 t280 x5_1).f0), (rd_T44 x4_1 (ji18)).f1⟩ : S44) [.int .i32 ((rd_T44 t280 x5_1).f0), .int .u8 ((rd_T44 x4_1 (ji18)).f1)] (fun k_ => k_ ≠ gb284) (fun _ => False) rfl (by first | (go_simp; done) | (go_simp; rfl)) ?aP (fun _ hk => hk.elim) ?aF ?aO ?aB ?aS ?aL ?_; (case aP => exact k44_mkM _ _ _ (⟨((rd_T44 t280 x5_1).f0), (rd_T44 x4_1 (ji18)).f1⟩ : S44)); (case aB => exact (by repeat (first | (with_reducible first | exact HB.out | apply below_alloc | apply pw_below_drewN | apply below_drew1 | refine below_set ?_ GE284.out) | exact HB.out))); (case aF => exact (fun k_ hk => Kd.freshB (g := gb284) (o := .cells #[.int .i32 ((rd_T44 t280 x5_1).f0), .int .u8 ((rd_T44 x4_1 (ji18)).f1)] 44 (0, 0)) (by (with_reducible repeat (first | refine blk_drewN ?_ _ | refine blk_drew ?_ | refine blk_alloc ?_ _)); refine blk_put (cs := #[.int .i32 ((rd_T44 t280 x5_1).f0), .int .u8 ((rd_T44 t280 x5_1).f1)]) ?_ 1 _ rfl; (with_reducible repeat (first | refine blk_drewN ?_ _ | refine blk_drew ?_ | refine blk_alloc ?_ _)); exact BK284.out) k_ hk)); (case aO => exact (by (with_reducible repeat (first | apply Kd.R_alloc | apply Kd.R_drewN | apply Kd.R_drew)); exact Kd.R_mono (Kd.R_far (p := ⟨gb284, 1, none⟩) (Kd.R_mono HO_4.out (fun k_ hk => (⟨hk, hk⟩ : _ ∧ k_ ≠ gb284))) (fun _ hk => hk.2) (.int .u8 ((rd_T44 x4_1 (ji18)).f1))) (fun _ hk => hk.1))); (case aS => exact (below_size (by repeat (first | (with_reducible first | exact HB.out | apply below_alloc | apply pw_below_drewN | apply below_drew1 | refine below_set ?_ GE284.out) | exact HB.out)))); (case aL => have := LMc26.out; omega); intro v291 w29 ho hb hg hat; rw [← Ny290.out] at ho; have n0_ := Aside0.mk (Kd.V_afterv (ok := (fun k_ => k_ ≠ gb284)) (by (with_reducible repeat (first | apply Kd.V_alloc | apply Kd.V_drewN | apply Kd.V_drew)); exact Kd.V_mono (Kd.V_far (p := ⟨gb284, 1, none⟩) (Kd.V_mono HO_3.out (fun k_ hk => (⟨hk, hk.2⟩ : _ ∧ k_ ≠ gb284))) (fun _ hk => hk.2) (.int .u8 ((rd_T44 x4_1 (ji18)).f1))) (fun _ hk => ⟨hk.1.2, hk.1.1⟩)) hg hat); have n1_ := Aside0.mk (blk_grown (g := gb284) (o := .cells #[.int .i32 ((rd_T44 t280 x5_1).f0), .int .u8 ((rd_T44 x4_1 (ji18)).f1)] 44 (0, 0)) (by (with_reducible repeat (first | refine blk_drewN ?_ _ | refine blk_drew ?_ | refine blk_alloc ?_ _)); refine blk_put (cs := #[.int .i32 ((rd_T44 t280 x5_1).f0), .int .u8 ((rd_T44 t280 x5_1).f1)]) ?_ 1 _ rfl; (with_reducible repeat (first | refine blk_drewN ?_ _ | refine blk_drew ?_ | refine blk_alloc ?_ _)); exact BK284.out) hg (Kd.R_away HO_4.out (fun _ hk => hk))); have n2_ := Aside0.mk (hb); have n3_ := Aside0.mk (ho); clear HO_3; clear BK284; clear HB; clear HO_4; have HO_3 := n0_; have BK284 := n1_; have HB := n2_; have HO292 := n3_; clear n0_ n1_ n2_ n3_; clear ho hb hg hat))
            go_roundg kj8
            case measure => have := HK1.out; have := HJ8.out; omega
            case rel => exact ⟨(y290), (wrap64 (x5_1 + 1)), (by first | rfl | (simp; done) | (simp [*]; done)), H', ⟨by have := HK1.out; have := HJ8.out; omega⟩, ⟨by (with_reducible repeat (first | apply Kd.V_alloc | apply Kd.V_drewN | apply Kd.V_drew)); exact Kd.V_mono HO_3.out (fun _ hk => hk.2)⟩, ⟨by (with_reducible repeat (first | apply Kd.R_alloc | apply Kd.R_drewN | apply Kd.R_drew)); exact Kd.R_mono HO292.out (fun _ hk => trivial)⟩, ⟨by repeat (first | (with_reducible first | exact HB.out | apply below_alloc | apply pw_below_drewN | apply below_drew1 | refine below_set ?_ GE284.out) | exact HB.out)⟩⟩
           ·rw [if_neg c26] at H
            exact absurd H (by simp)
         ·rw [if_neg c20] at H
          exact absurd H (by simp)
        ·rw [if_neg c19] at H
         exact absurd H (by simp)
       ·replace c17 := Bool.eq_false_iff.mpr c17
        subst c17
        have H1 : (if ((rd_T44 t280 x5_1).f0) = 32 then (if x4_1.length < 17592186044416 then (flongref17_Normal.l0 kj8 t280 (x4_1 ++ [(⟨((rd_T44 t280 x5_1).f0), 0⟩ : S44)]) (wrap64 (x5_1 + 1))) else (none)) else (if x4_1.length < 17592186044416 then (flongref17_Normal.l0 kj8 t280 (x4_1 ++ [(⟨((rd_T44 t280 x5_1).f0), ((rd_T44 t280 x5_1).f1)⟩ : S44)]) (wrap64 (x5_1 + 1))) else (none))) = some r := by rw [if_neg (show ¬ (false = true) by decide)] at H; exact H
        clear H
        have H := H1
        clear H1
        by_cases c30 : ((rd_T44 t280 x5_1).f0) = 32
        ·rw [if_pos c30] at H
         have c30b0 : (((rd_T44 t280 x5_1).f0) == 32) = true := beq_iff_eq.mpr c30
         have c30b1 : (((rd_T44 t280 x5_1).f0) != 32) = false := bne_eq_false_iff_eq.mpr c30
         clear c30
         by_cases c31 : x4_1.length < 17592186044416
         ·rw [if_pos c31] at H
          have LMc31 := Aside0.mk c31
          clear c31
          obtain ⟨y293, hy293⟩ : ∃ y_ : List (S44), y_ = (x4_1 ++ [(⟨((rd_T44 t280 x5_1).f0), 0⟩ : S44)]) := ⟨_, rfl⟩
          replace H : (flongref17_Normal.l0 kj8 t280 y293 (wrap64 (x5_1 + 1))) = some r := by first | (rw [hy293]; with_reducible exact H) | (have H2_ := (Option.bind_some _ _).symm.trans H; rw [hy293]; with_reducible exact H2_) | (have H2_ := (Option.bind_some _ _).symm.trans H; with_reducible exact H2_) | with_reducible exact H | (rw [hy293]; exact H) | exact H
          have Ny293 := Aside0.mk hy293
          clear hy293
          have H' := Aside0.mk H
          clear H
          have hcz32_0 : wc.cell? ⟨gb284, 0, none⟩ = some (.int .i32 ((rd_T44 t280 x5_1).f0)) := (blk_cell BK284.out 0).trans rfl
          have hcz32_1 : wc.cell? ⟨gb284, 1, none⟩ = some (.int .u8 ((rd_T44 t280 x5_1).f1)) := (blk_cell BK284.out 1).trans rfl
          have hfz32_0 := blk_frozen BK284.out 0
          have hfz32_1 := blk_frozen BK284.out 1
          go_wp2_with (first | ((with_reducible refine gate_builtin (b := .append) (xs := #[.tmp 39, .tmp 41]) rfl ?_); at_builtin; refine Kd.R_append k44 (w0 := w) w.heap.size rfl (.tmp 39) (.tmp 41) 33 44 (.agg #[(.int .i32 0), (.int .u8 0)]) 8 rfl Tryd.underlying33 info44 rfl (by decide) (by omega) u4 x4_1 (⟨((rd_T44 t280 x5_1).f0), 0⟩ : S44) [.int .i32 ((rd_T44 t280 x5_1).f0), .int .u8 0] (fun k_ => k_ ≠ gb284) (fun _ => False) rfl (by first | (go_simp; done) | (go_simp; rfl)) ?aP (fun _ hk => hk.elim) ?aF ?aO ?aB ?aS ?aL ?_; (case aP => exact k44_mkM _ _ _ (⟨((rd_T44 t280 x5_1).f0), 0⟩ : S44)); (case aB => exact (by repeat (first | (with_reducible first | exact HB.out | apply below_alloc | apply pw_below_drewN | apply below_drew1 | refine below_set ?_ GE284.out) | exact HB.out))); (case aF => exact (fun k_ hk => Kd.freshB (g := gb284) (o := .cells #[.int .i32 ((rd_T44 t280 x5_1).f0), .int .u8 0] 44 (0, 0)) (by (with_reducible repeat (first | refine blk_drewN ?_ _ | refine blk_drew ?_ | refine blk_alloc ?_ _)); refine blk_put (cs := #[.int .i32 ((rd_T44 t280 x5_1).f0), .int .u8 ((rd_T44 t280 x5_1).f1)]) ?_ 1 _ rfl; (with_reducible repeat (first | refine blk_drewN ?_ _ | refine blk_drew ?_ | refine blk_alloc ?_ _)); exact BK284.out) k_ hk)); (case aO => exact (by (with_reducible repeat (first | apply Kd.R_alloc | apply Kd.R_drewN | apply Kd.R_drew)); exact Kd.R_mono (Kd.R_far (p := ⟨gb284, 1, none⟩) (Kd.R_mono HO_4.out (fun k_ hk => (⟨hk, hk⟩ : _ ∧ k_ ≠ gb284))) (fun _ hk => hk.2) (.int .u8 0)) (fun _ hk => hk.1))); (case aS => exact (below_size (by repeat (first | (with_reducible first | exact HB.out | apply below_alloc | apply pw_below_drewN | apply below_drew1 | refine below_set ?_ GE284.out) | exact HB.out)))); (case aL => have := LMc31.out; omega); intro v294 w33 ho hb hg hat; rw [← Ny293.out] at ho; have n0_ := Aside0.mk (Kd.V_afterv (ok := (fun k_ => k_ ≠ gb284)) (by (with_reducible repeat (first | apply Kd.V_alloc | apply Kd.V_drewN | apply Kd.V_drew)); exact Kd.V_mono (Kd.V_far (p := ⟨gb284, 1, none⟩) (Kd.V_mono HO_3.out (fun k_ hk => (⟨hk, hk.2⟩ : _ ∧ k_ ≠ gb284))) (fun _ hk => hk.2) (.int .u8 0)) (fun _ hk => ⟨hk.1.2, hk.1.1⟩)) hg hat); have n1_ := Aside0.mk (blk_grown (g := gb284) (o := .cells #[.int .i32 ((rd_T44 t280 x5_1).f0), .int .u8 0] 44 (0, 0)) (by (with_reducible repeat (first | refine blk_drewN ?_ _ | refine blk_drew ?_ | refine blk_alloc ?_ _)); refine blk_put (cs := #[.int .i32 ((rd_T44 t280 x5_1).f0), .int .u8 ((rd_T44 t280 x5_1).f1)]) ?_ 1 _ rfl; (with_reducible repeat (first | refine blk_drewN ?_ _ | refine blk_drew ?_ | refine blk_alloc ?_ _)); exact BK284.out) hg (Kd.R_away HO_4.out (fun _ hk => hk))); have n2_ := Aside0.mk (hb); have n3_ := Aside0.mk (ho); clear HO_3; clear BK284; clear HB; clear HO_4; have HO_3 := n0_; have BK284 := n1_; have HB := n2_; have HO295 := n3_; clear n0_ n1_ n2_ n3_; clear ho hb hg hat))
          go_roundg kj8
          case measure => have := HK1.out; have := HJ8.out; omega
          case rel => exact ⟨(y293), (wrap64 (x5_1 + 1)), (by first | rfl | (simp; done) | (simp [*]; done)), H', ⟨by have := HK1.out; have := HJ8.out; omega⟩, ⟨by (with_reducible repeat (first | apply Kd.V_alloc | apply Kd.V_drewN | apply Kd.V_drew)); exact Kd.V_mono HO_3.out (fun _ hk => hk.2)⟩, ⟨by (with_reducible repeat (first | apply Kd.R_alloc | apply Kd.R_drewN | apply Kd.R_drew)); exact Kd.R_mono HO295.out (fun _ hk => trivial)⟩, ⟨by repeat (first | (with_reducible first | exact HB.out | apply below_alloc | apply pw_below_drewN | apply below_drew1 | refine below_set ?_ GE284.out) | exact HB.out)⟩⟩
         ·rw [if_neg c31] at H
          exact absurd H (by simp)
        ·rw [if_neg c30] at H
         have c30b0 : (((rd_T44 t280 x5_1).f0) == 32) = false := beq_eq_false_iff_ne.mpr c30
         have c30b1 : (((rd_T44 t280 x5_1).f0) != 32) = true := bne_iff_ne.mpr c30
         by_cases c34 : x4_1.length < 17592186044416
         ·rw [if_pos c34] at H
          have LMc34 := Aside0.mk c34
          clear c34
          obtain ⟨y296, hy296⟩ : ∃ y_ : List (S44), y_ = (x4_1 ++ [(⟨((rd_T44 t280 x5_1).f0), ((rd_T44 t280 x5_1).f1)⟩ : S44)]) := ⟨_, rfl⟩
          replace H : (flongref17_Normal.l0 kj8 t280 y296 (wrap64 (x5_1 + 1))) = some r := by first | (rw [hy296]; with_reducible exact H) | (have H2_ := (Option.bind_some _ _).symm.trans H; rw [hy296]; with_reducible exact H2_) | (have H2_ := (Option.bind_some _ _).symm.trans H; with_reducible exact H2_) | with_reducible exact H | (rw [hy296]; exact H) | exact H
          have Ny296 := Aside0.mk hy296
          clear hy296
          have H' := Aside0.mk H
          clear H
          have hcz35_0 : wc.cell? ⟨gb284, 0, none⟩ = some (.int .i32 ((rd_T44 t280 x5_1).f0)) := (blk_cell BK284.out 0).trans rfl
          have hcz35_1 : wc.cell? ⟨gb284, 1, none⟩ = some (.int .u8 ((rd_T44 t280 x5_1).f1)) := (blk_cell BK284.out 1).trans rfl
          have hfz35_0 := blk_frozen BK284.out 0
          have hfz35_1 := blk_frozen BK284.out 1
          go_wp2_with (first | ((with_reducible refine gate_builtin (b := .append) (xs := #[.tmp 39, .tmp 41]) rfl ?_); at_builtin; refine Kd.R_append k44 (w0 := w) w.heap.size rfl (.tmp 39) (.tmp 41) 33 44 (.agg #[(.int .i32 0), (.int .u8 0)]) 8 rfl Tryd.underlying33 info44 rfl (by decide) (by omega) u4 x4_1 (⟨((rd_T44 t280 x5_1).f0), ((rd_T44 t280 x5_1).f1)⟩ : S44) [.int .i32 ((rd_T44 t280 x5_1).f0), .int .u8 ((rd_T44 t280 x5_1).f1)] (fun k_ => k_ ≠ gb284) (fun _ => False) rfl rfl ?aP (fun _ hk => hk.elim) ?aF ?aO ?aB ?aS ?aL ?_; (case aP => exact k44_mkM _ _ _ (⟨((rd_T44 t280 x5_1).f0), ((rd_T44 t280 x5_1).f1)⟩ : S44)); (case aB => exact (by repeat (first | (with_reducible first | exact HB.out | apply below_alloc | apply pw_below_drewN | apply below_drew1 | refine below_set ?_ GE284.out) | exact HB.out))); (case aF => exact (fun k_ hk => Kd.freshB (g := gb284) (o := .cells #[.int .i32 ((rd_T44 t280 x5_1).f0), .int .u8 ((rd_T44 t280 x5_1).f1)] 44 (0, 0)) (by (with_reducible repeat (first | refine blk_drewN ?_ _ | refine blk_drew ?_ | refine blk_alloc ?_ _)); exact BK284.out) k_ hk)); (case aO => exact (by (with_reducible repeat (first | apply Kd.R_alloc | apply Kd.R_drewN | apply Kd.R_drew)); exact HO_4.out)); (case aS => exact (below_size (by repeat (first | (with_reducible first | exact HB.out | apply below_alloc | apply pw_below_drewN | apply below_drew1 | refine below_set ?_ GE284.out) | exact HB.out)))); (case aL => have := LMc34.out; omega); intro v297 w36 ho hb hg hat; rw [← Ny296.out] at ho; have n0_ := Aside0.mk (Kd.V_afterv (ok := (fun k_ => k_ ≠ gb284)) (by (with_reducible repeat (first | apply Kd.V_alloc | apply Kd.V_drewN | apply Kd.V_drew)); exact Kd.V_mono HO_3.out (fun _ hk => ⟨hk.2, hk.1⟩)) hg hat); have n1_ := Aside0.mk (blk_grown (g := gb284) (o := .cells #[.int .i32 ((rd_T44 t280 x5_1).f0), .int .u8 ((rd_T44 t280 x5_1).f1)] 44 (0, 0)) (by (with_reducible repeat (first | refine blk_drewN ?_ _ | refine blk_drew ?_ | refine blk_alloc ?_ _)); exact BK284.out) hg (Kd.R_away HO_4.out (fun _ hk => hk))); have n2_ := Aside0.mk (hb); have n3_ := Aside0.mk (ho); clear HO_3; clear BK284; clear HB; clear HO_4; have HO_3 := n0_; have BK284 := n1_; have HB := n2_; have HO298 := n3_; clear n0_ n1_ n2_ n3_; clear ho hb hg hat))
          go_roundg kj8
          case measure => have := HK1.out; have := HJ8.out; omega
          case rel => exact ⟨(y296), (wrap64 (x5_1 + 1)), (by first | rfl | (simp; done) | (simp [*]; done)), H', ⟨by have := HK1.out; have := HJ8.out; omega⟩, ⟨by (with_reducible repeat (first | apply Kd.V_alloc | apply Kd.V_drewN | apply Kd.V_drew)); exact Kd.V_mono HO_3.out (fun _ hk => hk.2)⟩, ⟨by (with_reducible repeat (first | apply Kd.R_alloc | apply Kd.R_drewN | apply Kd.R_drew)); exact Kd.R_mono HO298.out (fun _ hk => trivial)⟩, ⟨by repeat (first | (with_reducible first | exact HB.out | apply below_alloc | apply pw_below_drewN | apply below_drew1 | refine below_set ?_ GE284.out) | exact HB.out)⟩⟩
         ·rw [if_neg c34] at H
          exact absurd H (by simp)
    ·rw [if_neg c8] at H
     exact absurd H (by simp)
   ·rw [if_neg c7] at H
    have c7b0 : decide (x5_1 < (t280.length : Int)) = false := decide_eq_false c7
    clear c7
    obtain rfl := Option.some.inj H
    obtain ⟨Ao37, co37, eo37⟩ := Kd.V_slice HO_3.out
    subst eo37
    go_wp2
    go_ret
    exact ⟨_, by first | rfl | (simp [errW_none, errW_some] <;> rfl) | (simp [*, errW_none, errW_some] <;> rfl), by (with_reducible repeat (first | apply Kd.R_alloc | apply Kd.R_drewN | apply Kd.R_drew)); exact HO_4.out, by repeat (first | (with_reducible first | exact HB.out | apply below_alloc | apply pw_below_drewN | apply below_drew1) | exact HB.out)⟩

/-! ### flongref03_Join: function 56 -/
def flongref03_Join.f (l0 : List (S44)) (l1 : List (S44)) : Option ((List (S44))) := if ([] : List (S44)).length + l0.length < 17592186044416 then ((some (([] : List (S44)) ++ l0 : List (S44))).bind fun y299 => (if y299.length + l1.length < 17592186044416 then (some (y299 ++ l1)) else (none))) else (none)
theorem flongref03_Join.calls (A0 : Option Addr) (c0 : Nat) (l0 : List (S44)) (A1 : Option Addr) (c1 : Nat) (l1 : List (S44)) (r : List (S44)) (w : World) (hr0 : Kd.C k44 w A0 l0.length l0) (hc0 : l0.length ≤ c0) (hr1 : Kd.C k44 w A1 l1.length l1) (hc1 : l1.length ≤ c1) (h : flongref03_Join.f l0 l1 = some r) :
  Calls Tryd.prog 56 #[.slice A0 l0.length c0, .slice A1 l1.length c1] w fun e w' => ∃ v0_ : Value, e = .returned (v0_) ∧ Kd.R k44 44 w' w.heap.size (fun _ => True) v0_ r ∧ Below w.heap.size w w' := by
 have HR0 := Aside0.mk hr0
 have HC0 := Aside0.mk hc0
 clear hr0 hc0
 have HR1 := Aside0.mk hr1
 have HC1 := Aside0.mk hc1
 clear hr1 hc1
 have HB := Aside0.mk (Below.refl w.heap.size w)
 have H : (if ([] : List (S44)).length + l0.length < 17592186044416 then ((some (([] : List (S44)) ++ l0 : List (S44))).bind fun y299 => (if y299.length + l1.length < 17592186044416 then (some (y299 ++ l1)) else (none))) else (none)) = some r := h
 clear h
 by_cases c3 : ([] : List (S44)).length + l0.length < 17592186044416
 ·rw [if_pos c3] at H
  have LMc3 := Aside0.mk c3
  clear c3
  obtain ⟨y299, hy299⟩ : ∃ y_ : List (S44), y_ = (([] : List (S44)) ++ l0) := ⟨_, rfl⟩
  replace H : (if y299.length + l1.length < 17592186044416 then (some (y299 ++ l1)) else (none)) = some r := by first | (rw [hy299]; with_reducible exact H) | (have H2_ := (Option.bind_some _ _).symm.trans H; rw [hy299]; with_reducible exact H2_) | (have H2_ := (Option.bind_some _ _).symm.trans H; with_reducible exact H2_) | with_reducible exact H | (rw [hy299]; exact H) | exact H
  have Ny299 := Aside0.mk hy299
  clear hy299
  by_cases c4 : y299.length + l1.length < 17592186044416
  ·rw [if_pos c4] at H
   have LMc4 := Aside0.mk c4
   clear c4
   obtain ⟨y302, hy302⟩ : ∃ y_ : List (S44), y_ = (y299 ++ l1) := ⟨_, rfl⟩
   replace H : (some y302) = some r := by first | (rw [hy302]; with_reducible exact H) | (have H2_ := (Option.bind_some _ _).symm.trans H; rw [hy302]; with_reducible exact H2_) | (have H2_ := (Option.bind_some _ _).symm.trans H; with_reducible exact H2_) | with_reducible exact H | (rw [hy302]; exact H) | exact H
   have Ny302 := Aside0.mk hy302
   clear hy302
   obtain rfl := Option.some.inj H
   go_enter Tryd.func56, Tryd.ntmps56
   go_wp2_with (first | ((with_reducible refine gate_builtin (b := .append) (xs := #[.tmp 6, .tmp 7]) rfl ?_); at_builtin; refine Kd.R_append_rows k44 (w0 := w) w.heap.size rfl (.tmp 6) (.tmp 7) 33 44 (.agg #[(.int .i32 0), (.int .u8 0)]) 8 rfl Tryd.underlying33 info44 rfl (by decide) (by omega) (.slice none 0 0) ([] : List (S44)) l0 _ _ _ (fun _ => True) (fun _ => False) rfl rfl ?aO ?aR (fun _ _ h => h) (fun _ h => h.elim) ?aF ?aB ?aS ?aL ?_; (case aR => repeat (first | exact HR0.out | (with_reducible refine Kd.C_alloc ?_ _) | (with_reducible refine Kd.C_drewN ?_ _) | (with_reducible refine Kd.C_drew ?_))); (case aB => exact (by repeat (first | (with_reducible first | exact HB.out | apply below_alloc | apply pw_below_drewN | apply below_drew1) | exact HB.out))); (case aF => exact (fun _ _ => trivial)); (case aO => exact ((Kd.R_nil _ _ _ _ (fun _ => True)))); (case aS => exact (below_size (by repeat (first | (with_reducible first | exact HB.out | apply below_alloc | apply pw_below_drewN | apply below_drew1) | exact HB.out)))); (case aL => have := LMc3.out; omega); intro v300 w5 ho hb hg hat; rw [← Ny299.out] at ho; have n0_ := Aside0.mk (hb); have n1_ := Aside0.mk (ho); clear HB; have HB := n0_; have HO301 := n1_; clear n0_ n1_; clear ho hb hg hat) | ((with_reducible refine gate_builtin (b := .append) (xs := #[.tmp 9, .tmp 10]) rfl ?_); at_builtin; refine Kd.R_append_rows k44 (w0 := w) w.heap.size rfl (.tmp 9) (.tmp 10) 33 44 (.agg #[(.int .i32 0), (.int .u8 0)]) 8 rfl Tryd.underlying33 info44 rfl (by decide) (by omega) v300 y299 l1 _ _ _ (fun _ => True) (fun _ => False) rfl rfl ?aO ?aR (fun _ _ h => h) (fun _ h => h.elim) ?aF ?aB ?aS ?aL ?_; (case aR => repeat (first | exact (Kd.C_below HR1.out HB.out) | (with_reducible refine Kd.C_alloc ?_ _) | (with_reducible refine Kd.C_drewN ?_ _) | (with_reducible refine Kd.C_drew ?_))); (case aB => exact (by repeat (first | (with_reducible first | exact HB.out | apply below_alloc | apply pw_below_drewN | apply below_drew1) | exact HB.out))); (case aF => exact (fun _ _ => trivial)); (case aO => exact (by (with_reducible repeat (first | apply Kd.R_alloc | apply Kd.R_drewN | apply Kd.R_drew)); exact HO301.out)); (case aS => exact (below_size (by repeat (first | (with_reducible first | exact HB.out | apply below_alloc | apply pw_below_drewN | apply below_drew1) | exact HB.out)))); (case aL => have := LMc4.out; omega); intro v303 w6 ho hb hg hat; rw [← Ny302.out] at ho; have n0_ := Aside0.mk (hb); have n1_ := Aside0.mk (ho); clear HB; clear HO301; have HB := n0_; have HO304 := n1_; clear n0_ n1_; clear ho hb hg hat))
   go_ret
   exact ⟨_, by first | rfl | (simp [errW_none, errW_some] <;> rfl) | (simp [*, errW_none, errW_some] <;> rfl), by (with_reducible repeat (first | apply Kd.R_alloc | apply Kd.R_drewN | apply Kd.R_drew)); exact HO304.out, by repeat (first | (with_reducible first | exact HB.out | apply below_alloc | apply pw_below_drewN | apply below_drew1) | exact HB.out)⟩
  ·rw [if_neg c4] at H
   exact absurd H (by simp)
 ·rw [if_neg c3] at H
  exact absurd H (by simp)

/-! ### flongref03_Blank: function 57 -/
def flongref03_Blank.l0 : Nat → Int → List (S44) → Int → Option ((List (S44)))
 | 0, _, _, _ => none
 | k + 1, x0, x3, x4 => if x4 < x0 then (if x4 < 65535 then (if x3.length < 17592186044416 then (flongref03_Blank.l0 k x0 (x3 ++ [(⟨32, 0⟩ : S44)]) (wrap64 (x4 + 1))) else (none)) else (some x3)) else (some x3)
def flongref03_Blank.f (k : Nat) (a0 : Int) : Option ((List (S44))) := flongref03_Blank.l0 k a0 ([] : List (S44)) 0
theorem flongref03_Blank.mono_l : ∀ k, (∀ y0 y1 y2, LeO (flongref03_Blank.l0 k y0 y1 y2) (flongref03_Blank.l0 (k + 1) y0 y1 y2))
 | 0 => fun _ _ _ r h => by simp [flongref03_Blank.l0] at h
 | k + 1 => by
  have ih0 := flongref03_Blank.mono_l k
  ·intro y0 y1 y2
   unfold flongref03_Blank.l0
   repeat' first
   | (with_reducible exact ih0 _ _ _)
   | (with_reducible exact LeO.refl _)
   | (with_reducible exact LeO.none _)
   | (with_reducible refine LeO.ite ?_ ?_)
   | (with_reducible refine LeO.bind ?_ (fun _ => ?_))
theorem flongref03_Blank.mono : ∀ a0 k, LeO (flongref03_Blank.f k a0) (flongref03_Blank.f (k + 1) a0) := by
 intro a0 k
 have ih0 := flongref03_Blank.mono_l k
 unfold flongref03_Blank.f
 repeat' first
   | (with_reducible exact ih0 _ _ _)
   | (with_reducible exact LeO.refl _)
   | (with_reducible exact LeO.none _)
   | (with_reducible refine LeO.ite ?_ ?_)
   | (with_reducible refine LeO.bind ?_ (fun _ => ?_))
theorem flongref03_Blank.calls (k : Nat) (a0 : Int) (r : List (S44)) (w : World) (h : flongref03_Blank.f k a0 = some r) :
  Calls Tryd.prog 57 #[.int .i64 a0] w fun e w' => ∃ v0_ : Value, e = .returned (v0_) ∧ Kd.R k44 44 w' w.heap.size (fun _ => True) v0_ r ∧ Below w.heap.size w w' := by
 have hu44 := Tryd.underlying44
 have HB := Aside0.mk (Below.refl w.heap.size w)
 have H : (flongref03_Blank.l0 k a0 ([] : List (S44)) 0) = some r := h
 clear h
 have H' := Aside0.mk H
 clear H
 go_enter Tryd.func57, Tryd.ntmps57
 go_wp2
 go_loopg [3, 4] k (fun kq v3 v4 w' => ∃ (x3_1 : List (S44)) (x4_1 : Int), v4 = .int .i64 x4_1 ∧ Aside0 (flongref03_Blank.l0 kq a0 x3_1 x4_1 = some r) ∧ Aside0 (kq ≤ k) ∧ Aside0 (Kd.R k44 44 w' w.heap.size (fun _ => True) v3 x3_1) ∧ Aside0 (Below w.heap.size w w'))
 case atStart => exact ⟨(([] : List (S44))), (0), (by first | rfl | (simp; done) | (simp [*]; done)), H', ⟨Nat.le_refl _⟩, ⟨by first | exact Kd.R_nil _ _ _ _ _ | exact Kd.N_nil _ _ _ _ _ | exact Kd.V_nil _ _ _ _ _ | exact Kd.Q_nil _ _ _ _ _ | exact Kd.S_nil _ _ _ _ _⟩, ⟨by repeat (first | (with_reducible first | exact HB.out | apply below_alloc | apply pw_below_drewN | apply below_drew1) | exact HB.out)⟩⟩
 case round =>
  clear H'
  obtain ⟨x3_1, x4_1, rfl, HA, HK1, HO_3, HB⟩ := hrel
  cases gk with
  | zero => exact absurd HA.out (by simp [flongref03_Blank.l0])
  | succ k1 =>
   have H := HA.out
   clear HA
   simp only [flongref03_Blank.l0] at H
   by_cases c2 : x4_1 < a0
   ·rw [if_pos c2] at H
    have c2b0 : decide (x4_1 < a0) = true := decide_eq_true c2
    clear c2
    by_cases c3 : x4_1 < 65535
    ·rw [if_pos c3] at H
     have c3b0 : decide (x4_1 < 65535) = true := decide_eq_true c3
     clear c3
     by_cases c4 : x3_1.length < 17592186044416
     ·rw [if_pos c4] at H
      have LMc4 := Aside0.mk c4
      clear c4
      obtain ⟨y305, hy305⟩ : ∃ y_ : List (S44), y_ = (x3_1 ++ [(⟨32, 0⟩ : S44)]) := ⟨_, rfl⟩
      replace H : (flongref03_Blank.l0 k1 a0 y305 (wrap64 (x4_1 + 1))) = some r := by first | (rw [hy305]; with_reducible exact H) | (have H2_ := (Option.bind_some _ _).symm.trans H; rw [hy305]; with_reducible exact H2_) | (have H2_ := (Option.bind_some _ _).symm.trans H; with_reducible exact H2_) | with_reducible exact H | (rw [hy305]; exact H) | exact H
      have Ny305 := Aside0.mk hy305
      clear hy305
      have H' := Aside0.mk H
      clear H
      go_wp2_with (first | ((with_reducible refine gate_builtin (b := .append) (xs := #[.tmp 14, .tmp 16]) rfl ?_); at_builtin; refine Kd.R_append k44 (w0 := w) w.heap.size rfl (.tmp 14) (.tmp 16) 33 44 (.agg #[(.int .i32 0), (.int .u8 0)]) 8 rfl Tryd.underlying33 info44 rfl (by decide) (by omega) u3 x3_1 (⟨32, 0⟩ : S44) [.int .i32 32, .int .u8 0] (fun _ => True) (fun _ => False) rfl rfl ?aP (fun _ hk => hk.elim) ?aF ?aO ?aB ?aS ?aL ?_; (case aP => exact k44_mkM _ _ _ (⟨32, 0⟩ : S44)); (case aB => exact (by repeat (first | (with_reducible first | exact HB.out | apply below_alloc | apply pw_below_drewN | apply below_drew1) | exact HB.out))); (case aF => exact (fun _ _ => trivial)); (case aO => exact (by (with_reducible repeat (first | apply Kd.R_alloc | apply Kd.R_drewN | apply Kd.R_drew)); exact HO_3.out)); (case aS => exact (below_size (by repeat (first | (with_reducible first | exact HB.out | apply below_alloc | apply pw_below_drewN | apply below_drew1) | exact HB.out)))); (case aL => have := LMc4.out; omega); intro v306 w5 ho hb hg hat; rw [← Ny305.out] at ho; have n0_ := Aside0.mk (hb); have n1_ := Aside0.mk (ho); clear HB; clear HO_3; have HB := n0_; have HO307 := n1_; clear n0_ n1_; clear ho hb hg hat))
      go_roundg k1
      case measure => have := HK1.out; omega
      case rel => exact ⟨(y305), (wrap64 (x4_1 + 1)), (by first | rfl | (simp; done) | (simp [*]; done)), H', ⟨by have := HK1.out; omega⟩, ⟨by (with_reducible repeat (first | apply Kd.R_alloc | apply Kd.R_drewN | apply Kd.R_drew)); exact HO307.out⟩, ⟨by repeat (first | (with_reducible first | exact HB.out | apply below_alloc | apply pw_below_drewN | apply below_drew1) | exact HB.out)⟩⟩
     ·rw [if_neg c4] at H
      exact absurd H (by simp)
    ·rw [if_neg c3] at H
     have c3b0 : decide (x4_1 < 65535) = false := decide_eq_false c3
     clear c3
     obtain rfl := Option.some.inj H
     go_wp2
     go_ret
     exact ⟨_, by first | rfl | (simp [errW_none, errW_some] <;> rfl) | (simp [*, errW_none, errW_some] <;> rfl), by (with_reducible repeat (first | apply Kd.R_alloc | apply Kd.R_drewN | apply Kd.R_drew)); exact HO_3.out, by repeat (first | (with_reducible first | exact HB.out | apply below_alloc | apply pw_below_drewN | apply below_drew1) | exact HB.out)⟩
   ·rw [if_neg c2] at H
    have c2b0 : decide (x4_1 < a0) = false := decide_eq_false c2
    clear c2
    obtain rfl := Option.some.inj H
    go_wp2
    go_ret
    exact ⟨_, by first | rfl | (simp [errW_none, errW_some] <;> rfl) | (simp [*, errW_none, errW_some] <;> rfl), by (with_reducible repeat (first | apply Kd.R_alloc | apply Kd.R_drewN | apply Kd.R_drew)); exact HO_3.out, by repeat (first | (with_reducible first | exact HB.out | apply below_alloc | apply pw_below_drewN | apply below_drew1) | exact HB.out)⟩

/-! ### flongref16_Flat: function 39 -/
def flongref16_Flat.f (k : Nat) (a0_0 : Int) (l0_1 : List (S44)) (a0_2 : Bool) : Option ((List (S44))) := if (l0_1.length : Int) = 0 then (some ([] : List (S44))) else ((flongref03_Blank.f k a0_0).bind fun t309 => ((flongref03_Join.f t309 l0_1).bind fun t312 => (some t312)))
theorem flongref16_Flat.mono : ∀ a0 a1 a2 k, LeO (flongref16_Flat.f k a0 a1 a2) (flongref16_Flat.f (k + 1) a0 a1 a2) := by
 intro a0 a1 a2 k
 unfold flongref16_Flat.f
 repeat' first
   | (with_reducible exact flongref03_Blank.mono _ _)
   | (with_reducible exact LeO.refl _)
   | (with_reducible exact LeO.none _)
   | (with_reducible refine LeO.ite ?_ ?_)
   | (with_reducible refine LeO.bind ?_ (fun _ => ?_))
theorem flongref16_Flat.calls (k : Nat) (a0_0 : Int) (A0_1 : Option Addr) (c0_1 : Nat) (l0_1 : List (S44)) (a0_2 : Bool) (r : List (S44)) (w : World) (hr0_1 : Kd.C k44 w A0_1 l0_1.length l0_1) (hc0_1 : l0_1.length ≤ c0_1) (h : flongref16_Flat.f k a0_0 l0_1 a0_2 = some r) :
  Calls Tryd.prog 39 #[.agg #[.int .i64 a0_0, .slice A0_1 l0_1.length c0_1, .bool a0_2]] w fun e w' => ∃ v0_ : Value, e = .returned (v0_) ∧ Kd.R k44 44 w' w.heap.size (fun _ => True) v0_ r ∧ Below w.heap.size w w' := by
 have hu35 := Tryd.underlying35
 have HR0_1 := Aside0.mk hr0_1
 have HC0_1 := Aside0.mk hc0_1
 clear hr0_1 hc0_1
 have HB := Aside0.mk (Below.refl w.heap.size w)
 have H : (if (l0_1.length : Int) = 0 then (some ([] : List (S44))) else ((flongref03_Blank.f k a0_0).bind fun t309 => ((flongref03_Join.f t309 l0_1).bind fun t312 => (some t312)))) = some r := h
 clear h
 by_cases c2 : (l0_1.length : Int) = 0
 ·rw [if_pos c2] at H
  have c2b0 : ((l0_1.length : Int) == 0) = true := beq_iff_eq.mpr c2
  have c2b1 : ((l0_1.length : Int) != 0) = false := bne_eq_false_iff_eq.mpr c2
  clear c2
  obtain rfl := Option.some.inj H
  go_enter Tryd.func39, Tryd.ntmps39
  go_wp2_with (first | ((with_reducible refine gate_dst (N := 1) rfl ?_); refine box_event ?hg (N := 1) ?hd (cs := #[.int .i64 a0_0, .slice A0_1 l0_1.length c0_1, .bool a0_2]) (t := 35) ?hr ?_; (case hd => rfl); (case hg => rfl); (case hr => first | (go_simp; done) | (go_simp; rfl)); intro gb308 hg w3 hbox hb; have n0_ := Aside0.mk (below_step (by repeat (first | (with_reducible first | exact HB.out | apply below_alloc | apply pw_below_drewN | apply below_drew1) | exact HB.out)) hb); have n1_ := Aside0.mk (hbox); have n2_ := Aside0.mk ((by rw [hg]; exact (below_size (by repeat (first | (with_reducible first | exact HB.out | apply below_alloc | apply pw_below_drewN | apply below_drew1) | exact HB.out))) : w.heap.size ≤ gb308)); have n3_ := Aside0.mk ((by rw [hg]; exact (below_size (by repeat (first | (with_reducible first | exact HB.out | apply below_alloc | apply pw_below_drewN | apply below_drew1) | exact HB.out))) : w.heap.size ≤ gb308)); clear HB; have HB := n0_; have BK308 := n1_; have GW308 := n2_; have GE308 := n3_; clear n0_ n1_ n2_ n3_; clear hb hbox hg; have hcz4_0 : w3.cell? ⟨gb308, 0, none⟩ = some (.int .i64 a0_0) := (blk_cell BK308.out 0).trans rfl; have hcz4_1 : w3.cell? ⟨gb308, 1, none⟩ = some (.slice A0_1 l0_1.length c0_1) := (blk_cell BK308.out 1).trans rfl; have hcz4_2 : w3.cell? ⟨gb308, 2, none⟩ = some (.bool a0_2) := (blk_cell BK308.out 2).trans rfl; have hfz4_0 := blk_frozen BK308.out 0; have hfz4_1 := blk_frozen BK308.out 1; have hfz4_2 := blk_frozen BK308.out 2))
  go_ret
  exact ⟨_, by first | rfl | (simp [errW_none, errW_some] <;> rfl) | (simp [*, errW_none, errW_some] <;> rfl), by first | exact Kd.R_nil _ _ _ _ _ | exact Kd.N_nil _ _ _ _ _ | exact Kd.V_nil _ _ _ _ _ | exact Kd.Q_nil _ _ _ _ _ | exact Kd.S_nil _ _ _ _ _, by repeat (first | (with_reducible first | exact HB.out | apply below_alloc | apply pw_below_drewN | apply below_drew1 | refine below_set ?_ GE308.out) | exact HB.out)⟩
 ·rw [if_neg c2] at H
  have c2b0 : ((l0_1.length : Int) == 0) = false := beq_eq_false_iff_ne.mpr c2
  have c2b1 : ((l0_1.length : Int) != 0) = true := bne_iff_ne.mpr c2
  have c2b2 : ¬ (l0_1 = []) := fun h_ => c2 (by rw [h_]; rfl)
  replace H := Option.bind_eq_some_iff.mp H
  obtain ⟨t309, A50, H⟩ := H
  replace H : ((flongref03_Join.f t309 l0_1).bind fun t312 => (some t312)) = some r := H
  have A5 := Aside0.mk A50
  clear A50
  replace H := Option.bind_eq_some_iff.mp H
  obtain ⟨t312, A60, H⟩ := H
  replace H : (some t312) = some r := H
  have A6 := Aside0.mk A60
  clear A60
  obtain rfl := Option.some.inj H
  go_enter Tryd.func39, Tryd.ntmps39
  try go_wp2_with (first | ((with_reducible refine gate_dst (N := 1) rfl ?_); refine box_event ?hg (N := 1) ?hd (cs := #[.int .i64 a0_0, .slice A0_1 l0_1.length c0_1, .bool a0_2]) (t := 35) ?hr ?_; (case hd => rfl); (case hg => rfl); (case hr => first | (go_simp; done) | (go_simp; rfl)); intro gb308 hg w7 hbox hb; have n0_ := Aside0.mk (below_step (by repeat (first | (with_reducible first | exact HB.out | apply below_alloc | apply pw_below_drewN | apply below_drew1) | exact HB.out)) hb); have n1_ := Aside0.mk (hbox); have n2_ := Aside0.mk ((by rw [hg]; exact (below_size (by repeat (first | (with_reducible first | exact HB.out | apply below_alloc | apply pw_below_drewN | apply below_drew1) | exact HB.out))) : w.heap.size ≤ gb308)); have n3_ := Aside0.mk ((by rw [hg]; exact (below_size (by repeat (first | (with_reducible first | exact HB.out | apply below_alloc | apply pw_below_drewN | apply below_drew1) | exact HB.out))) : w.heap.size ≤ gb308)); clear HB; have HB := n0_; have BK308 := n1_; have GW308 := n2_; have GE308 := n3_; clear n0_ n1_ n2_ n3_; clear hb hbox hg; have hcz8_0 : w7.cell? ⟨gb308, 0, none⟩ = some (.int .i64 a0_0) := (blk_cell BK308.out 0).trans rfl; have hcz8_1 : w7.cell? ⟨gb308, 1, none⟩ = some (.slice A0_1 l0_1.length c0_1) := (blk_cell BK308.out 1).trans rfl; have hcz8_2 : w7.cell? ⟨gb308, 2, none⟩ = some (.bool a0_2) := (blk_cell BK308.out 2).trans rfl; have hfz8_0 := blk_frozen BK308.out 0; have hfz8_1 := blk_frozen BK308.out 1; have hfz8_2 := blk_frozen BK308.out 2))
  have n0_ := Aside0.mk (blk_drew BK308.out)
  have n1_ := Aside0.mk (below_drew1 HB.out)
  clear BK308
  clear HB
  have BK308 := n0_
  have HB := n1_
  clear n0_ n1_
  refine start_ (n := 7) (S := fun w' => w'.cell? ⟨gb308, 0, none⟩ = some (.int .i64 a0_0) ∧ w'.cell? ⟨gb308, 1, none⟩ = some (.slice A0_1 l0_1.length c0_1) ∧ w'.cell? ⟨gb308, 2, none⟩ = some (.bool a0_2)) (ds := []) #[false, false, false, false, false, false, false] (by kernel_rfl) rfl rfl ⟨(blk_cell BK308.out 0).trans rfl, (blk_cell BK308.out 1).trans rfl, (blk_cell BK308.out 2).trans rfl⟩ (fun hHeld => ?_)
  generalize w7.drew = w9 at BK308 HB hHeld ⊢
  refine pure_ (i := 0) (N := some 7) (v := ?_) (a' := ?_) #[true, false, false, false, false, false, false] rfl rfl (by kernel_rfl) (fun _ _ _ h => h) (Or.inl ⟨by rfl, ?_⟩) ?_ ?_
  rotate_left
  ·intro w'
   go_simp
   with_reducible rfl
  rotate_left
  ·simp only [Act.put, List.setIfInBounds_toArray, List.set_cons_zero, List.set_cons_succ, i64_w, i32_w]
   rfl
  refine pure_ (i := 3) (N := some 10) (v := ?_) (a' := ?_) #[true, false, false, true, false, false, false] rfl rfl (by kernel_rfl) (fun _ _ _ h => h) (Or.inl ⟨by rfl, ?_⟩) ?_ ?_
  rotate_left
  ·intro w'
   go_simp
   with_reducible rfl
  rotate_left
  ·simp only [Act.put, List.setIfInBounds_toArray, List.set_cons_zero, List.set_cons_succ, i64_w, i32_w]
   rfl
  refine take_ (i := 1) (N := some 8) (v := ?_) (a' := ?_) #[true, true, false, true, false, false, false] rfl rfl (by kernel_rfl) (fun _ _ _ h => h) (Or.inl ⟨by rfl, ?_⟩) hHeld ?_ ?_
  rotate_left
  ·rintro w' ⟨s0, s1, s2⟩
   go_simp
   with_reducible rfl
  rotate_left
  ·simp only [Act.put, List.setIfInBounds_toArray, List.set_cons_zero, List.set_cons_succ, i64_w, i32_w]
   rfl
  refine take_ (i := 4) (N := some 11) (v := ?_) (a' := ?_) #[true, true, false, true, true, false, false] rfl rfl (by kernel_rfl) (fun _ _ _ h => h) (Or.inl ⟨by rfl, ?_⟩) hHeld ?_ ?_
  rotate_left
  ·rintro w' ⟨s0, s1, s2⟩
   go_simp
   with_reducible rfl
  rotate_left
  ·simp only [Act.put, List.setIfInBounds_toArray, List.set_cons_zero, List.set_cons_succ, i64_w, i32_w]
   rfl
  refine one_ (i := 2) (N := some 9) #[true, true, true, true, true, false, false] rfl rfl (by kernel_rfl) (by decide) (fun K hK => ?_)
  refine goes_ Tryd.func57 (by kernel_rfl) rfl #[.int .i64 a0_0] (by rfl) rfl rfl (by (try simp only [List.map_toArray, List.map_cons, List.map_nil]); first | done | rfl | (simp only [List.length_drop, List.length_take]; rfl)) ?_
  with_reducible refine (flongref03_Blank.calls k a0_0 t309 _ A5.out).mono ?_
  rintro e w10 ⟨v310, rfl, ho0, hb⟩
  refine ⟨_, rfl, ?_⟩
  have n0_ := Aside0.mk (Kd.R_lower ho0 (below_size (by repeat (first | (with_reducible first | exact HB.out | apply below_alloc | apply pw_below_drewN | apply below_drew1 | refine below_set ?_ GE308.out) | exact HB.out))))
  have n1_ := Aside0.mk (blk_below (g := gb308) (o := .cells #[.int .i64 a0_0, .slice A0_1 l0_1.length c0_1, .bool a0_2] 35 (0, 0)) (by (with_reducible repeat (first | refine blk_drewN ?_ _ | refine blk_drew ?_ | refine blk_alloc ?_ _)); exact BK308.out) hb)
  have n2_ := Aside0.mk (below_step (by repeat (first | (with_reducible first | exact HB.out | apply below_alloc | apply pw_below_drewN | apply below_drew1 | refine below_set ?_ GE308.out) | exact HB.out)) hb)
  clear BK308
  clear HB
  have HO311 := n0_
  have BK308 := n1_
  have HB := n2_
  clear n0_ n1_ n2_
  (try clear hb)
  (try clear hb2)
  (try clear hk)
  (try clear hi)
  (try clear ho0)
  obtain ⟨Ao11, co11, eo11⟩ := Kd.R_slice HO311.out
  (first | subst eo11 | (injection eo11 with f1_ f2_ f3_; have f4_ := f1_.symm; have f5_ := f3_.symm; clear f1_ f2_ f3_; subst f4_; subst f5_))
  refine hK.out _ _ ⟨(blk_cell BK308.out 0).trans rfl, (blk_cell BK308.out 1).trans rfl, (blk_cell BK308.out 2).trans rfl⟩ (fun hHeld => ?_)
  clear hK K
  refine norm_ (a' := ?_) ?_ ?_
  rotate_left
  ·show Act.put _ (some 9) _ = _
   simp only [Act.put, List.setIfInBounds_toArray, List.set_cons_zero, List.set_cons_succ, i64_w, i32_w]
   rfl
  refine one_ (i := 5) (N := some 12) #[true, true, true, true, true, true, false] rfl rfl (by kernel_rfl) (by decide) (fun K hK => ?_)
  refine goes_ Tryd.func56 (by kernel_rfl) rfl #[.slice Ao11 t309.length co11, .slice A0_1 l0_1.length c0_1] (by rfl) rfl rfl (by (try simp only [List.map_toArray, List.map_cons, List.map_nil]); first | done | rfl | (simp only [List.length_drop, List.length_take]; rfl)) ?_
  with_reducible refine (flongref03_Join.calls _ _ t309 _ _ l0_1 t312 _ ?side1 ?side2 ?side3 ?side4 A6.out).mono ?_
  (case side1 => repeat (first | exact (Kd.R_reads' HO311.out).2.2 | (with_reducible refine Kd.C_alloc ?_ _) | (with_reducible refine Kd.C_drewN ?_ _) | (with_reducible refine Kd.C_drew ?_)))
  (case side2 => exact (Kd.R_reads' HO311.out).2.1)
  (case side3 => repeat (first | exact (Kd.C_below HR0_1.out HB.out) | (with_reducible refine Kd.C_alloc ?_ _) | (with_reducible refine Kd.C_drewN ?_ _) | (with_reducible refine Kd.C_drew ?_)))
  (case side4 => exact HC0_1.out)
  rintro e w12 ⟨v313, rfl, ho0, hb⟩
  refine ⟨_, rfl, ?_⟩
  have n0_ := Aside0.mk (Kd.R_elder' (by (with_reducible repeat (first | apply Kd.R_alloc | apply Kd.R_drewN | apply Kd.R_drew)); exact HO311.out) (Kd.R_base ho0) hb)
  have n1_ := Aside0.mk (Kd.R_lower (Kd.R_new' ho0 (Kd.R_lt (by (with_reducible repeat (first | apply Kd.R_alloc | apply Kd.R_drewN | apply Kd.R_drew)); exact HO311.out))) (below_size (by repeat (first | (with_reducible first | exact HB.out | apply below_alloc | apply pw_below_drewN | apply below_drew1 | refine below_set ?_ GE308.out) | exact HB.out))))
  have n2_ := Aside0.mk (blk_below (g := gb308) (o := .cells #[.int .i64 a0_0, .slice A0_1 l0_1.length c0_1, .bool a0_2] 35 (0, 0)) (by (with_reducible repeat (first | refine blk_drewN ?_ _ | refine blk_drew ?_ | refine blk_alloc ?_ _)); exact BK308.out) hb)
  have n3_ := Aside0.mk (below_step (by repeat (first | (with_reducible first | exact HB.out | apply below_alloc | apply pw_below_drewN | apply below_drew1 | refine below_set ?_ GE308.out) | exact HB.out)) hb)
  clear HO311
  clear BK308
  clear HB
  have HO311 := n0_
  have HO314 := n1_
  have BK308 := n2_
  have HB := n3_
  clear n0_ n1_ n2_ n3_
  (try clear hb)
  (try clear hb2)
  (try clear hk)
  (try clear hi)
  (try clear ho0)
  refine hK.out _ _ ⟨(blk_cell BK308.out 0).trans rfl, (blk_cell BK308.out 1).trans rfl, (blk_cell BK308.out 2).trans rfl⟩ (fun hHeld => ?_)
  clear hK K
  refine norm_ (a' := ?_) ?_ ?_
  rotate_left
  ·show Act.put _ (some 12) _ = _
   simp only [Act.put, List.setIfInBounds_toArray, List.set_cons_zero, List.set_cons_succ, i64_w, i32_w]
   rfl
  refine pure_ (i := 6) (N := some 2) (v := ?_) (a' := ?_) #[true, true, true, true, true, true, true] rfl rfl (by kernel_rfl) (fun _ _ _ h => h) (Or.inl ⟨by rfl, ?_⟩) ?_ ?_
  rotate_left
  ·intro w'
   go_simp
   with_reducible rfl
  rotate_left
  ·simp only [Act.put, List.setIfInBounds_toArray, List.set_cons_zero, List.set_cons_succ, i64_w, i32_w]
   rfl
  refine done_ (by kernel_rfl) ?_
  try go_wp2
  go_ret
  exact ⟨_, by first | rfl | (simp [errW_none, errW_some] <;> rfl) | (simp [*, errW_none, errW_some] <;> rfl), by (with_reducible repeat (first | apply Kd.R_alloc | apply Kd.R_drewN | apply Kd.R_drew)); exact Kd.R_mono HO314.out (fun _ hk => trivial), by repeat (first | (with_reducible first | exact HB.out | apply below_alloc | apply pw_below_drewN | apply below_drew1 | refine below_set ?_ GE308.out) | exact HB.out)⟩

/-! ### flongref17_Rows: function 21 -/
def flongref17_Rows.l0 : Nat → List (S35) → List (List (S44)) → Int → Option ((List (List (S44))))
 | 0, _, _, _ => none
 | k + 1, x0, x3, x4 => if x4 < (x0.length : Int) then (if 0 ≤ x4 then ((flongref16_Flat.f k ((rd_T35 x0 x4).f0) ((rd_T35 x0 x4).f1) ((rd_T35 x0 x4).f2)).bind fun t316 => ((flongref17_Normal.f k t316).bind fun t319 => (if x3.length < 5864062014805 then (flongref17_Rows.l0 k x0 (x3 ++ [t319]) (wrap64 (x4 + 1))) else (none)))) else (none)) else (some x3)
def flongref17_Rows.f (k : Nat) (l0 : List (S35)) : Option ((List (List (S44)))) := flongref17_Rows.l0 k l0 ([] : List (List (S44))) 0
theorem flongref17_Rows.mono_l : ∀ k, (∀ y0 y1 y2, LeO (flongref17_Rows.l0 k y0 y1 y2) (flongref17_Rows.l0 (k + 1) y0 y1 y2))
 | 0 => fun _ _ _ r h => by simp [flongref17_Rows.l0] at h
 | k + 1 => by
  have ih0 := flongref17_Rows.mono_l k
  ·intro y0 y1 y2
   unfold flongref17_Rows.l0
   repeat' first
   | (with_reducible exact ih0 _ _ _)
   | (with_reducible exact flongref16_Flat.mono _ _ _ _)
   | (with_reducible exact flongref17_Normal.mono _ _)
   | (with_reducible exact LeO.refl _)
   | (with_reducible exact LeO.none _)
   | (with_reducible refine LeO.ite ?_ ?_)
   | (with_reducible refine LeO.bind ?_ (fun _ => ?_))
theorem flongref17_Rows.mono : ∀ a0 k, LeO (flongref17_Rows.f k a0) (flongref17_Rows.f (k + 1) a0) := by
 intro a0 k
 have ih0 := flongref17_Rows.mono_l k
 unfold flongref17_Rows.f
 repeat' first
   | (with_reducible exact ih0 _ _ _)
   | (with_reducible exact flongref16_Flat.mono _ _ _ _)
   | (with_reducible exact flongref17_Normal.mono _ _)
   | (with_reducible exact LeO.refl _)
   | (with_reducible exact LeO.none _)
   | (with_reducible refine LeO.ite ?_ ?_)
   | (with_reducible refine LeO.bind ?_ (fun _ => ?_))
theorem flongref17_Rows.calls (k : Nat) (A0 : Option Addr) (c0 : Nat) (l0 : List (S35)) (r : List (List (S44))) (w : World) (hr0 : Kd.C k35 w A0 l0.length l0) (hc0 : l0.length ≤ c0) (h : flongref17_Rows.f k l0 = some r) :
  Calls Tryd.prog 21 #[.slice A0 l0.length c0] w fun e w' => ∃ v0_ : Value, e = .returned (v0_) ∧ Kd.S (Kd.slice 44 k44) 33 w' w.heap.size (fun _ => True) v0_ r ∧ Below w.heap.size w w' := by
 have hu35 := Tryd.underlying35
 have HR0 := Aside0.mk hr0
 have HC0 := Aside0.mk hc0
 clear hr0 hc0
 have HB := Aside0.mk (Below.refl w.heap.size w)
 have H : (flongref17_Rows.l0 k l0 ([] : List (List (S44))) 0) = some r := h
 clear h
 have H' := Aside0.mk H
 clear H
 go_enter Tryd.func21, Tryd.ntmps21
 go_wp2
 go_loopg [3, 4] k (fun kq v3 v4 w' => ∃ (x3_1 : List (List (S44))) (x4_1 : Int), v4 = .int .i64 x4_1 ∧ Aside0 (flongref17_Rows.l0 kq l0 x3_1 x4_1 = some r) ∧ Aside0 (kq ≤ k) ∧ Aside0 (Kd.S (Kd.slice 44 k44) 33 w' w.heap.size (fun _ => True) v3 x3_1) ∧ Aside0 (Below w.heap.size w w'))
 case atStart => exact ⟨(([] : List (List (S44)))), (0), (by first | rfl | (simp; done) | (simp [*]; done)), H', ⟨Nat.le_refl _⟩, ⟨by first | exact Kd.S_nil _ _ _ _ _ | exact Kd.N_nil _ _ _ _ _ | exact Kd.V_nil _ _ _ _ _ | exact Kd.Q_nil _ _ _ _ _ | exact Kd.R_nil _ _ _ _ _⟩, ⟨by repeat (first | (with_reducible first | exact HB.out | apply below_alloc | apply pw_below_drewN | apply below_drew1) | exact HB.out)⟩⟩
 case round =>
  clear H'
  obtain ⟨x3_1, x4_1, rfl, HA, HK1, HO_3, HB⟩ := hrel
  cases gk with
  | zero => exact absurd HA.out (by simp [flongref17_Rows.l0])
  | succ k1 =>
   have H := HA.out
   clear HA
   simp only [flongref17_Rows.l0] at H
   by_cases c2 : x4_1 < (l0.length : Int)
   ·rw [if_pos c2] at H
    have c2b0 : decide (x4_1 < (l0.length : Int)) = true := decide_eq_true c2
    clear c2
    by_cases c3 : 0 ≤ x4_1
    ·rw [if_pos c3] at H
     have c3b0 : decide (0 ≤ x4_1) = true := decide_eq_true c3
     clear c3
     replace H := Option.bind_eq_some_iff.mp H
     obtain ⟨t316, A40, H⟩ := H
     replace H : ((flongref17_Normal.f k1 t316).bind fun t319 => (if x3_1.length < 5864062014805 then (flongref17_Rows.l0 k1 l0 (x3_1 ++ [t319]) (wrap64 (x4_1 + 1))) else (none))) = some r := H
     have A4 := Aside0.mk A40
     clear A40
     replace H := Option.bind_eq_some_iff.mp H
     obtain ⟨t319, A50, H⟩ := H
     replace H : (if x3_1.length < 5864062014805 then (flongref17_Rows.l0 k1 l0 (x3_1 ++ [t319]) (wrap64 (x4_1 + 1))) else (none)) = some r := H
     have A5 := Aside0.mk A50
     clear A50
     by_cases c6 : x3_1.length < 5864062014805
     ·rw [if_pos c6] at H
      have LMc6 := Aside0.mk c6
      clear c6
      obtain ⟨y322, hy322⟩ : ∃ y_ : List (List (S44)), y_ = (x3_1 ++ [t319]) := ⟨_, rfl⟩
      replace H : (flongref17_Rows.l0 k1 l0 y322 (wrap64 (x4_1 + 1))) = some r := by first | (rw [hy322]; with_reducible exact H) | (have H2_ := (Option.bind_some _ _).symm.trans H; rw [hy322]; with_reducible exact H2_) | (have H2_ := (Option.bind_some _ _).symm.trans H; with_reducible exact H2_) | with_reducible exact H | (rw [hy322]; exact H) | exact H
      have Ny322 := Aside0.mk hy322
      clear hy322
      have H' := Aside0.mk H
      clear H
      have p315 : 0 ≤ (x4_1 : Int) := of_decide_eq_true (by first | (with_reducible assumption) | assumption)
      have q315 : x4_1 < (l0.length : Int) := of_decide_eq_true (by first | (with_reducible assumption) | assumption)
      obtain ⟨ad315, A315_1, c315_1, e315, hx315_0, hx315_1, hx315_2, hl315_1, hi315_1⟩ := at_T35 HR0.out x4_1 p315 q315
      cases e315
      replace hx315_0 := (HB.out.cell (World.block_lt_of_cell? w _ hx315_0)).trans hx315_0
      replace hx315_1 := (HB.out.cell (World.block_lt_of_cell? w _ hx315_1)).trans hx315_1
      replace hx315_2 := (HB.out.cell (World.block_lt_of_cell? w _ hx315_2)).trans hx315_2
      have HR315_1 := Aside0.mk hi315_1
      have HC315_1 := Aside0.mk hl315_1
      clear hi315_1 hl315_1
      replace p315 := eq_true p315
      replace q315 := eq_true q315
      go_wp2_with (first | ((with_reducible refine gate_callee (f := 39) rfl ?_); refine goesL_ (some 16) rfl rfl Tryd.func39 (by kernel_rfl) rfl #[.agg #[.int .i64 ((rd_T35 l0 x4_1).f0), .slice A315_1 ((rd_T35 l0 x4_1).f1).length c315_1, .bool ((rd_T35 l0 x4_1).f2)]] rfl (by (try simp only [List.map_toArray, List.map_cons, List.map_nil]); first | done | rfl | (simp only [List.length_drop, List.length_take]; rfl)) ?_; (with_reducible refine (flongref16_Flat.calls k1 ((rd_T35 l0 x4_1).f0) _ _ ((rd_T35 l0 x4_1).f1) ((rd_T35 l0 x4_1).f2) t316 _ ?side1 ?side2 A4.out).mono ?_); (case side1 => repeat (first | exact (Kd.C_below HR315_1.out HB.out) | (with_reducible refine Kd.C_alloc ?_ _) | (with_reducible refine Kd.C_drewN ?_ _) | (with_reducible refine Kd.C_drew ?_))); (case side2 => exact HC315_1.out); rintro e w7 ⟨v317, rfl, ho0, hb⟩; refine ⟨_, rfl, ?_⟩; have n0_ := Aside0.mk (Kd.S_elder' (by (with_reducible repeat (first | apply Kd.S_alloc | apply Kd.S_drewN | apply Kd.S_drew)); exact HO_3.out) (Kd.R_base ho0) hb); have n1_ := Aside0.mk (Kd.R_lower ho0 (below_size (by repeat (first | (with_reducible first | exact HB.out | apply below_alloc | apply pw_below_drewN | apply below_drew1) | exact HB.out)))); have n2_ := Aside0.mk (below_step (by repeat (first | (with_reducible first | exact HB.out | apply below_alloc | apply pw_below_drewN | apply below_drew1) | exact HB.out)) hb); clear HO_3; clear HB; have HO_3 := n0_; have HO318 := n1_; have HB := n2_; clear n0_ n1_ n2_; (try clear hb); (try clear hb2); (try clear hk); (try clear hi); (try clear ho0); obtain ⟨Ao8, co8, eo8⟩ := Kd.R_slice HO318.out; subst eo8) | ((with_reducible refine gate_callee (f := 25) rfl ?_); refine goesL_ (some 17) rfl rfl Tryd.func25 (by kernel_rfl) rfl #[.slice Ao8 t316.length co8] rfl (by (try simp only [List.map_toArray, List.map_cons, List.map_nil]); first | done | rfl | (simp only [List.length_drop, List.length_take]; rfl)) ?_; (with_reducible refine (flongref17_Normal.calls k1 _ _ t316 t319 _ ?side1 ?side2 A5.out).mono ?_); (case side1 => repeat (first | exact (Kd.R_reads' HO318.out).2.2 | (with_reducible refine Kd.C_alloc ?_ _) | (with_reducible refine Kd.C_drewN ?_ _) | (with_reducible refine Kd.C_drew ?_))); (case side2 => exact (Kd.R_reads' HO318.out).2.1); rintro e w9 ⟨v320, rfl, ho0, hb⟩; refine ⟨_, rfl, ?_⟩; have n0_ := Aside0.mk (Kd.S_elder' (by (with_reducible repeat (first | apply Kd.S_alloc | apply Kd.S_drewN | apply Kd.S_drew)); exact HO_3.out) (Kd.R_base ho0) hb); have n1_ := Aside0.mk (Kd.R_elder' (by (with_reducible repeat (first | apply Kd.R_alloc | apply Kd.R_drewN | apply Kd.R_drew)); exact HO318.out) (Kd.R_base ho0) hb); have n2_ := Aside0.mk (Kd.R_lower (Kd.R_new' ho0 (Kd.R_lt (by (with_reducible repeat (first | apply Kd.R_alloc | apply Kd.R_drewN | apply Kd.R_drew)); exact HO318.out))) (below_size (by repeat (first | (with_reducible first | exact HB.out | apply below_alloc | apply pw_below_drewN | apply below_drew1) | exact HB.out)))); have n3_ := Aside0.mk (below_step (by repeat (first | (with_reducible first | exact HB.out | apply below_alloc | apply pw_below_drewN | apply below_drew1) | exact HB.out)) hb); clear HO_3; clear HO318; clear HB; have HO_3 := n0_; have HO318 := n1_; have HO321 := n2_; have HB := n3_; clear n0_ n1_ n2_ n3_; (try clear hb); (try clear hb2); (try clear hk); (try clear hi); (try clear ho0); obtain ⟨Ao11, co11, eo11⟩ := Kd.R_slice HO321.out; subst eo11) | ((with_reducible refine gate_builtin (b := .append) (xs := #[.tmp 11, .tmp 18]) rfl ?_); at_builtin; refine Kd.S_append (Kd.slice 44 k44) (w0 := w) w.heap.size rfl (.tmp 11) (.tmp 18) 40 33 (.slice none 0 0) 24 rfl Tryd.underlying40 info33 rfl (by decide) (by omega) u3 x3_1 t319 [.slice Ao11 t319.length co11] (fun k_ => some k_ ≠ (.slice Ao8 t316.length co8 : Value).ownBlock) (fun k_ => some k_ = (.slice Ao11 t319.length co11 : Value).ownBlock) rfl rfl ?aP (fun k_ hk_ => ((Kd.R_mono (ok' := fun k_ => ((fun k_ => some k_ ≠ (.slice Ao8 t316.length co8 : Value).ownBlock)) k_ ∧ some k_ ≠ (u3 : Value).ownBlock) (Kd.R_apart' (HO321.out) (Kd.S_typed HO_3.out) (by decide)) (fun k_ hk => ⟨hk.1.2, hk.2⟩))).1 k_ hk_.symm) ?aF ?aO ?aB ?aS ?aL ?_; (case aP => exact Kd.M_row (Kd.R_mono (Kd.R_tight rfl (Kd.R_mono (ok' := fun k_ => ((fun k_ => some k_ ≠ (.slice Ao8 t316.length co8 : Value).ownBlock)) k_ ∧ some k_ ≠ (u3 : Value).ownBlock) (Kd.R_apart' (HO321.out) (Kd.S_typed HO_3.out) (by decide)) (fun k_ hk => ⟨hk.1.2, hk.2⟩))) (fun _ h_ => h_))); (case aB => exact (by repeat (first | (with_reducible first | exact HB.out | apply below_alloc | apply pw_below_drewN | apply below_drew1) | exact HB.out))); (case aF => exact (fun k_ hk => Kd.fresh' (Kd.R_lt (by (with_reducible repeat (first | apply Kd.R_alloc | apply Kd.R_drewN | apply Kd.R_drew)); exact HO318.out)) k_ hk)); (case aO => exact (by (with_reducible repeat (first | apply Kd.S_alloc | apply Kd.S_drewN | apply Kd.S_drew)); exact Kd.S_mono HO_3.out (fun k_ hk => ⟨hk.1.2, fun e_ => hk.2 e_⟩))); (case aS => exact (below_size (by repeat (first | (with_reducible first | exact HB.out | apply below_alloc | apply pw_below_drewN | apply below_drew1) | exact HB.out)))); (case aL => have := LMc6.out; omega); intro v323 w10 ho hb hg hat; rw [← Ny322.out] at ho; have n0_ := Aside0.mk (Kd.R_over' (by (with_reducible repeat (first | apply Kd.R_alloc | apply Kd.R_drewN | apply Kd.R_drew)); exact HO318.out) (Kd.S_typed (by (with_reducible repeat (first | apply Kd.S_alloc | apply Kd.S_drewN | apply Kd.S_drew)); exact HO_3.out)) (by decide) hg); have n1_ := Aside0.mk (hb); have n2_ := Aside0.mk (ho); clear HO318; clear HB; clear HO_3; clear HO321; have HO318 := n0_; have HB := n1_; have HO324 := n2_; clear n0_ n1_ n2_; clear ho hb hg hat))
      go_roundg k1
      case measure => have := HK1.out; omega
      case rel => exact ⟨(y322), (wrap64 (x4_1 + 1)), (by first | rfl | (simp; done) | (simp [*]; done)), H', ⟨by have := HK1.out; omega⟩, ⟨by (with_reducible repeat (first | apply Kd.S_alloc | apply Kd.S_drewN | apply Kd.S_drew)); exact Kd.S_mono HO324.out (fun _ hk => trivial)⟩, ⟨by repeat (first | (with_reducible first | exact HB.out | apply below_alloc | apply pw_below_drewN | apply below_drew1) | exact HB.out)⟩⟩
     ·rw [if_neg c6] at H
      exact absurd H (by simp)
    ·rw [if_neg c3] at H
     exact absurd H (by simp)
   ·rw [if_neg c2] at H
    have c2b0 : decide (x4_1 < (l0.length : Int)) = false := decide_eq_false c2
    clear c2
    obtain rfl := Option.some.inj H
    go_wp2
    go_ret
    exact ⟨_, by first | rfl | (simp [errW_none, errW_some] <;> rfl) | (simp [*, errW_none, errW_some] <;> rfl), by (with_reducible repeat (first | apply Kd.S_alloc | apply Kd.S_drewN | apply Kd.S_drew)); exact HO_3.out, by repeat (first | (with_reducible first | exact HB.out | apply below_alloc | apply pw_below_drewN | apply below_drew1) | exact HB.out)⟩

-- NOT PRINTED: function 82 (utf8_RuneCountInString)

-- NOT PRINTED: function 87 (utf8_decodeRuneInStringSlow)

-- NOT PRINTED: function 83 (utf8_DecodeRuneInString)

-- NOT PRINTED: function 73 (strings_explode)

-- NOT PRINTED: function 94 (bytealg_IndexByteString)

-- NOT PRINTED: function 88 (stringslite_IndexByte)

-- NOT PRINTED: function 89 (bytealg_IndexString)

-- NOT PRINTED: function 85 (stringslite_Index)

-- NOT PRINTED: function 75 (strings_Index)

-- NOT PRINTED: function 84 (bytealg_CountString)

-- NOT PRINTED: function 74 (strings_Count)

-- NOT PRINTED: function 62 (strings_genSplit)

end Go.Proofs.YtdjepocklmlnbaaDoor.X
