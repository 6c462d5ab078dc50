-- Written by this session's xprint.py (a variant of the kit's printer). Not trusted: Lean checks it.
import Derived.Test.YtdjepocklmlnbaaDoorX0
import Derived.Test.YtdjepocklmlnbaaDoorX4
namespace Go.Proofs.YtdjepocklmlnbaaDoor.X
open Go.RowKit Go.Proofs.YtdjepocklmlnbaaDoorW.PrintWords Go.Proofs.YtdjepocklmlnbaaDoorW.PrintLast Go.Proofs.YtdjepocklmlnbaaDoorW.PrintMore
attribute [local go_sem] max2_int min2_int max_two min_two max_three min_three max_four min_four   -- for this text's walks alone
set_option linter.unusedVariables false
set_option maxHeartbeats 8000000
set_option maxRecDepth 100000
set_option linter.unusedSimpArgs false

/-! ### flongref02_Control: function 60 -/
def flongref02_Control.f (a0 : Int) : Option (Bool) := if a0 ≥ 0 then (if a0 ≤ 31 then (some true) else (if a0 ≥ 127 then (if a0 ≤ 159 then (some true) else (if a0 = 8232 then (some true) else (some (a0 == 8233)))) else (if a0 = 8232 then (some true) else (some (a0 == 8233))))) else (if a0 ≥ 127 then (if a0 ≤ 159 then (some true) else (if a0 = 8232 then (some true) else (some (a0 == 8233)))) else (if a0 = 8232 then (some true) else (some (a0 == 8233))))
theorem flongref02_Control.calls (a0 : Int) (r : Bool) (w : World) (h : flongref02_Control.f a0 = some r) :
  Calls Tryd.prog 60 #[.int .i32 a0] w fun e w' => e = .returned (.bool r) ∧ Drawn0 w w' := by
 have H : (if a0 ≥ 0 then (if a0 ≤ 31 then (some true) else (if a0 ≥ 127 then (if a0 ≤ 159 then (some true) else (if a0 = 8232 then (some true) else (some (a0 == 8233)))) else (if a0 = 8232 then (some true) else (some (a0 == 8233))))) else (if a0 ≥ 127 then (if a0 ≤ 159 then (some true) else (if a0 = 8232 then (some true) else (some (a0 == 8233)))) else (if a0 = 8232 then (some true) else (some (a0 == 8233))))) = some r := h
 clear h
 by_cases c2 : a0 ≥ 0
 ·rw [if_pos c2] at H
  have c2b0 : decide (0 ≤ a0) = true := decide_eq_true c2
  clear c2
  by_cases c3 : a0 ≤ 31
  ·rw [if_pos c3] at H
   have c3b0 : decide (a0 ≤ 31) = true := decide_eq_true c3
   clear c3
   obtain rfl := Option.some.inj H
   go_enter Tryd.func60, Tryd.ntmps60
   go_wp2
   go_ret
   exact ⟨by first | rfl | (simp; done) | (simp [*]; done), by repeat (first | exact Drawn0.refl _ | apply Drawn0.step)⟩
  ·rw [if_neg c3] at H
   have c3b0 : decide (a0 ≤ 31) = false := decide_eq_false c3
   clear c3
   by_cases c4 : a0 ≥ 127
   ·rw [if_pos c4] at H
    have c4b0 : decide (127 ≤ a0) = true := decide_eq_true c4
    clear c4
    by_cases c5 : a0 ≤ 159
    ·rw [if_pos c5] at H
     have c5b0 : decide (a0 ≤ 159) = true := decide_eq_true c5
     clear c5
     obtain rfl := Option.some.inj H
     go_enter Tryd.func60, Tryd.ntmps60
     go_wp2
     go_ret
     exact ⟨by first | rfl | (simp; done) | (simp [*]; done), by repeat (first | exact Drawn0.refl _ | apply Drawn0.step)⟩
    ·rw [if_neg c5] at H
     have c5b0 : decide (a0 ≤ 159) = false := decide_eq_false c5
     clear c5
     by_cases c6 : a0 = 8232
     ·rw [if_pos c6] at H
      have c6b0 : (a0 == 8232) = true := beq_iff_eq.mpr c6
      have c6b1 : (a0 != 8232) = false := bne_eq_false_iff_eq.mpr c6
      clear c6
      obtain rfl := Option.some.inj H
      go_enter Tryd.func60, Tryd.ntmps60
      go_wp2
      go_ret
      exact ⟨by first | rfl | (simp; done) | (simp [*]; done), by repeat (first | exact Drawn0.refl _ | apply Drawn0.step)⟩
     ·rw [if_neg c6] at H
      have c6b0 : (a0 == 8232) = false := beq_eq_false_iff_ne.mpr c6
      have c6b1 : (a0 != 8232) = true := bne_iff_ne.mpr c6
      obtain rfl := Option.some.inj H
      go_enter Tryd.func60, Tryd.ntmps60
      go_wp2
      go_ret
      exact ⟨by first | rfl | (simp; done) | (simp [*]; done), by repeat (first | exact Drawn0.refl _ | apply Drawn0.step)⟩
   ·rw [if_neg c4] at H
    have c4b0 : decide (127 ≤ a0) = false := decide_eq_false c4
    clear c4
    by_cases c7 : a0 = 8232
    ·rw [if_pos c7] at H
     have c7b0 : (a0 == 8232) = true := beq_iff_eq.mpr c7
     have c7b1 : (a0 != 8232) = false := bne_eq_false_iff_eq.mpr c7
     clear c7
     obtain rfl := Option.some.inj H
     go_enter Tryd.func60, Tryd.ntmps60
     go_wp2
     go_ret
     exact ⟨by first | rfl | (simp; done) | (simp [*]; done), by repeat (first | exact Drawn0.refl _ | apply Drawn0.step)⟩
    ·rw [if_neg c7] at H
     have c7b0 : (a0 == 8232) = false := beq_eq_false_iff_ne.mpr c7
     have c7b1 : (a0 != 8232) = true := bne_iff_ne.mpr c7
     obtain rfl := Option.some.inj H
     go_enter Tryd.func60, Tryd.ntmps60
     go_wp2
     go_ret
     exact ⟨by first | rfl | (simp; done) | (simp [*]; done), by repeat (first | exact Drawn0.refl _ | apply Drawn0.step)⟩
 ·rw [if_neg c2] at H
  have c2b0 : decide (0 ≤ a0) = false := decide_eq_false c2
  clear c2
  by_cases c8 : a0 ≥ 127
  ·rw [if_pos c8] at H
   have c8b0 : decide (127 ≤ a0) = true := decide_eq_true c8
   clear c8
   by_cases c9 : a0 ≤ 159
   ·rw [if_pos c9] at H
    have c9b0 : decide (a0 ≤ 159) = true := decide_eq_true c9
    clear c9
    obtain rfl := Option.some.inj H
    go_enter Tryd.func60, Tryd.ntmps60
    go_wp2
    go_ret
    exact ⟨by first | rfl | (simp; done) | (simp [*]; done), by repeat (first | exact Drawn0.refl _ | apply Drawn0.step)⟩
   ·rw [if_neg c9] at H
    have c9b0 : decide (a0 ≤ 159) = false := decide_eq_false c9
    clear c9
    by_cases c10 : a0 = 8232
    ·rw [if_pos c10] at H
     have c10b0 : (a0 == 8232) = true := beq_iff_eq.mpr c10
     have c10b1 : (a0 != 8232) = false := bne_eq_false_iff_eq.mpr c10
     clear c10
     obtain rfl := Option.some.inj H
     go_enter Tryd.func60, Tryd.ntmps60
     go_wp2
     go_ret
     exact ⟨by first | rfl | (simp; done) | (simp [*]; done), by repeat (first | exact Drawn0.refl _ | apply Drawn0.step)⟩
    ·rw [if_neg c10] at H
     have c10b0 : (a0 == 8232) = false := beq_eq_false_iff_ne.mpr c10
     have c10b1 : (a0 != 8232) = true := bne_iff_ne.mpr c10
     obtain rfl := Option.some.inj H
     go_enter Tryd.func60, Tryd.ntmps60
     go_wp2
     go_ret
     exact ⟨by first | rfl | (simp; done) | (simp [*]; done), by repeat (first | exact Drawn0.refl _ | apply Drawn0.step)⟩
  ·rw [if_neg c8] at H
   have c8b0 : decide (127 ≤ a0) = false := decide_eq_false c8
   clear c8
   by_cases c11 : a0 = 8232
   ·rw [if_pos c11] at H
    have c11b0 : (a0 == 8232) = true := beq_iff_eq.mpr c11
    have c11b1 : (a0 != 8232) = false := bne_eq_false_iff_eq.mpr c11
    clear c11
    obtain rfl := Option.some.inj H
    go_enter Tryd.func60, Tryd.ntmps60
    go_wp2
    go_ret
    exact ⟨by first | rfl | (simp; done) | (simp [*]; done), by repeat (first | exact Drawn0.refl _ | apply Drawn0.step)⟩
   ·rw [if_neg c11] at H
    have c11b0 : (a0 == 8232) = false := beq_eq_false_iff_ne.mpr c11
    have c11b1 : (a0 != 8232) = true := bne_iff_ne.mpr c11
    obtain rfl := Option.some.inj H
    go_enter Tryd.func60, Tryd.ntmps60
    go_wp2
    go_ret
    exact ⟨by first | rfl | (simp; done) | (simp [*]; done), by repeat (first | exact Drawn0.refl _ | apply Drawn0.step)⟩

/-! ### flongref02_within: function 61 -/
def flongref02_within.l0 : Nat → Int → List Int → Int → Option (Bool)
 | 0, _, _, _ => none
 | k + 1, x0, x1, x5 => if (wrap64 (x5 + 1)) < (x1.length : Int) then (if 0 ≤ x5 then (if x5 < (x1.length : Int) then (if x0 ≥ (rd x1 x5) then (if 0 ≤ (wrap64 (x5 + 1)) then (if x0 ≤ (rd x1 (wrap64 (x5 + 1))) then (some true) else (flongref02_within.l0 k x0 x1 (wrap64 (x5 + 2)))) else (none)) else (flongref02_within.l0 k x0 x1 (wrap64 (x5 + 2)))) else (none)) else (none)) else (some false)
def flongref02_within.f (k : Nat) (a0 : Int) (l1 : List Int) : Option (Bool) := flongref02_within.l0 k a0 l1 0
theorem flongref02_within.mono_l : ∀ k, (∀ y0 y1 y2, LeO (flongref02_within.l0 k y0 y1 y2) (flongref02_within.l0 (k + 1) y0 y1 y2))
 | 0 => fun _ _ _ r h => by simp [flongref02_within.l0] at h
 | k + 1 => by
  have ih0 := flongref02_within.mono_l k
  ·intro y0 y1 y2
   unfold flongref02_within.l0
   repeat' first
   | (with_reducible exact ih0 _ _ _)
   | (with_reducible exact LeO.refl _)
   | (with_reducible exact LeO.none _)
   | (with_reducible refine LeO.ite ?_ ?_)
   | (with_reducible refine LeO.bind ?_ (fun _ => ?_))
theorem flongref02_within.mono : ∀ a0 a1 k, LeO (flongref02_within.f k a0 a1) (flongref02_within.f (k + 1) a0 a1) := by
 intro a0 a1 k
 have ih0 := flongref02_within.mono_l k
 unfold flongref02_within.f
 repeat' first
   | (with_reducible exact ih0 _ _ _)
   | (with_reducible exact LeO.refl _)
   | (with_reducible exact LeO.none _)
   | (with_reducible refine LeO.ite ?_ ?_)
   | (with_reducible refine LeO.bind ?_ (fun _ => ?_))
theorem flongref02_within.calls (k : Nat) (a0 : Int) (A1 : Option Addr) (c1 : Nat) (l1 : List Int) (r : Bool) (w : World) (hr1 : Kd.C (Kd.int .i32) w A1 l1.length l1) (hc1 : l1.length ≤ c1) (h : flongref02_within.f k a0 l1 = some r) :
  Calls Tryd.prog 61 #[.int .i32 a0, .slice A1 l1.length c1] w fun e w' => e = .returned (.bool r) ∧ Drawn0 w w' := by
 have HR1 := Aside0.mk hr1
 have HC1 := Aside0.mk hc1
 clear hr1 hc1
 have H : (flongref02_within.l0 k a0 l1 0) = some r := h
 clear h
 have H' := Aside0.mk H
 clear H
 go_enter Tryd.func61, Tryd.ntmps61
 go_wp2
 go_loopg [5] k (fun kq v5 w' => ∃ (x5_1 : Int), v5 = .int .i64 x5_1 ∧ Aside0 (flongref02_within.l0 kq a0 l1 x5_1 = some r) ∧ Aside0 (kq ≤ k) ∧ Drawn0 w w')
 case atStart => exact ⟨(0), (by first | rfl | (simp; done) | (simp [*]; done)), H', ⟨Nat.le_refl _⟩, by repeat (first | exact Drawn0.refl _ | apply Drawn0.step)⟩
 case round =>
  clear H'
  try clear c1
  try clear p2
  obtain ⟨x5_1, rfl, HA, HK1, ⟨m1, rfl⟩⟩ := hrel
  cases gk with
  | zero => exact absurd HA.out (by simp [flongref02_within.l0])
  | succ k1 =>
   have H := HA.out
   clear HA
   simp only [flongref02_within.l0] at H
   by_cases c3 : (wrap64 (x5_1 + 1)) < (l1.length : Int)
   ·rw [if_pos c3] at H
    have c3b0 : decide ((wrap64 (x5_1 + 1)) < (l1.length : Int)) = true := decide_eq_true c3
    clear c3
    by_cases c4 : 0 ≤ x5_1
    ·rw [if_pos c4] at H
     have c4b0 : decide (0 ≤ x5_1) = true := decide_eq_true c4
     clear c4
     by_cases c5 : x5_1 < (l1.length : Int)
     ·rw [if_pos c5] at H
      have c5b0 : decide (x5_1 < (l1.length : Int)) = true := decide_eq_true c5
      clear c5
      by_cases c6 : a0 ≥ (rd l1 x5_1)
      ·rw [if_pos c6] at H
       have c6b0 : decide ((rd l1 x5_1) ≤ a0) = true := decide_eq_true c6
       clear c6
       obtain ⟨ji7, hji7⟩ : ∃ j_ : Int, (wrap64 (x5_1 + 1)) = j_ := ⟨_, rfl⟩
       replace H : (if 0 ≤ (ji7) then (if a0 ≤ (rd l1 (ji7)) then (some true) else (flongref02_within.l0 k1 a0 l1 (wrap64 (x5_1 + 2)))) else (none)) = some r := by first | (rw [hji7] at H; exact H) | (simp only [hji7] at H ⊢; exact H)
       (try rw [hji7] at c3b0)
       have hji7w : (IntKind.i64.wrap (x5_1 + 1)) = ji7 := (i64_w _).trans hji7
       by_cases c8 : 0 ≤ (ji7)
       ·rw [if_pos c8] at H
        have c8b0 : decide (0 ≤ (ji7)) = true := decide_eq_true c8
        clear c8
        by_cases c9 : a0 ≤ (rd l1 (ji7))
        ·rw [if_pos c9] at H
         have c9b0 : decide (a0 ≤ (rd l1 (ji7))) = true := decide_eq_true c9
         clear c9
         obtain rfl := Option.some.inj H
         have p203 : 0 ≤ (x5_1 : Int) := of_decide_eq_true (by first | (with_reducible assumption) | assumption)
         have q203 : x5_1 < (l1.length : Int) := of_decide_eq_true (by first | (with_reducible assumption) | assumption)
         obtain ⟨ad203, e203, hx203_0⟩ := Kd.at_int HR1.out x5_1 p203 q203
         cases e203
         replace p203 := eq_true p203
         replace q203 := eq_true q203
         have p204 : 0 ≤ ((ji7) : Int) := of_decide_eq_true (by first | (with_reducible assumption) | assumption)
         have q204 : (ji7) < (l1.length : Int) := of_decide_eq_true (by first | (with_reducible assumption) | assumption)
         obtain ⟨ad204, e204, hx204_0⟩ := Kd.at_int HR1.out (ji7) p204 q204
         obtain rfl : ad203 = ad204 := (by injection e204)
         replace p204 := eq_true p204
         replace q204 := eq_true q204
         go_wp2
         go_ret
         exact ⟨by first | rfl | (simp; done) | (simp only [← hji7] <;> (first | rfl | simp)) | (simp [*]; done), by repeat (first | exact Drawn0.refl _ | apply Drawn0.step)⟩
        ·rw [if_neg c9] at H
         have c9b0 : decide (a0 ≤ (rd l1 (ji7))) = false := decide_eq_false c9
         clear c9
         have H' := Aside0.mk H
         clear H
         have p203 : 0 ≤ (x5_1 : Int) := of_decide_eq_true (by first | (with_reducible assumption) | assumption)
         have q203 : x5_1 < (l1.length : Int) := of_decide_eq_true (by first | (with_reducible assumption) | assumption)
         obtain ⟨ad203, e203, hx203_0⟩ := Kd.at_int HR1.out x5_1 p203 q203
         cases e203
         replace p203 := eq_true p203
         replace q203 := eq_true q203
         have p204 : 0 ≤ ((ji7) : Int) := of_decide_eq_true (by first | (with_reducible assumption) | assumption)
         have q204 : (ji7) < (l1.length : Int) := of_decide_eq_true (by first | (with_reducible assumption) | assumption)
         obtain ⟨ad204, e204, hx204_0⟩ := Kd.at_int HR1.out (ji7) p204 q204
         obtain rfl : ad203 = ad204 := (by injection e204)
         replace p204 := eq_true p204
         replace q204 := eq_true q204
         go_wp2
         go_roundg k1
         case measure => have := HK1.out; omega
         case rel => exact ⟨(wrap64 (x5_1 + 2)), (by first | rfl | (simp; done) | (simp [*]; done)), H', ⟨by have := HK1.out; omega⟩, by repeat (first | exact Drawn0.refl _ | apply Drawn0.step)⟩
       ·rw [if_neg c8] at H
        exact absurd H (by simp)
      ·rw [if_neg c6] at H
       have c6b0 : decide ((rd l1 x5_1) ≤ a0) = false := decide_eq_false c6
       clear c6
       have H' := Aside0.mk H
       clear H
       have p203 : 0 ≤ (x5_1 : Int) := of_decide_eq_true (by first | (with_reducible assumption) | assumption)
       have q203 : x5_1 < (l1.length : Int) := of_decide_eq_true (by first | (with_reducible assumption) | assumption)
       obtain ⟨ad203, e203, hx203_0⟩ := Kd.at_int HR1.out x5_1 p203 q203
       cases e203
       replace p203 := eq_true p203
       replace q203 := eq_true q203
       go_wp2
       go_roundg k1
       case measure => have := HK1.out; omega
       case rel => exact ⟨(wrap64 (x5_1 + 2)), (by first | rfl | (simp; done) | (simp [*]; done)), H', ⟨by have := HK1.out; omega⟩, by repeat (first | exact Drawn0.refl _ | apply Drawn0.step)⟩
     ·rw [if_neg c5] at H
      exact absurd H (by simp)
    ·rw [if_neg c4] at H
     exact absurd H (by simp)
   ·rw [if_neg c3] at H
    have c3b0 : decide ((wrap64 (x5_1 + 1)) < (l1.length : Int)) = false := decide_eq_false c3
    clear c3
    obtain rfl := Option.some.inj H
    go_wp2
    go_ret
    exact ⟨by first | rfl | (simp; done) | (simp [*]; done), by repeat (first | exact Drawn0.refl _ | apply Drawn0.step)⟩

/-! ### flongref02_Width: function 43 -/
def flongref02_Width.j0 : Nat → Int → Bool → Option (Int)
 | 0, _, _ => none
 | k + 1, x0, x9 => if x9 = true then (some 0) else ((flongref02_within.f k x0 (([768, 879, 1155, 1161, 1425, 1469, 1552, 1562, 1611, 1631, 6832, 6911, 7616, 7679, 8203, 8207, 8400, 8447, 65024, 65039, 65056, 65071, 917760, 917999] : List Int))).bind fun t210 => (if t210 = true then (some 0) else ((flongref02_within.f k x0 (([4352, 4447, 9001, 9002, 11904, 12350, 12353, 13311, 13312, 19903, 19968, 42191, 43360, 43391, 44032, 55203, 63744, 64255, 65072, 65135, 65280, 65376, 65504, 65510, 127744, 128591, 129280, 129535, 131072, 196605, 196608, 262141] : List Int))).bind fun t214 => (if t214 = true then (some 2) else (some 1)))))
def flongref02_Width.f (k : Nat) (a0 : Int) : Option (Int) := (flongref02_Valid.f a0).bind fun t205 => (if t205 = true then ((flongref02_Control.f a0).bind fun t206 => (flongref02_Width.j0 k a0 t206)) else (flongref02_Width.j0 k a0 true))
theorem flongref02_Width.mono_l : ∀ k, (∀ y0 y1, LeO (flongref02_Width.j0 k y0 y1) (flongref02_Width.j0 (k + 1) y0 y1))
 | 0 => fun _ _ r h => by simp [flongref02_Width.j0] at h
 | k + 1 => by
  have ih0 := flongref02_Width.mono_l k
  ·intro y0 y1
   unfold flongref02_Width.j0
   repeat' first
   | (with_reducible exact ih0 _ _)
   | (with_reducible exact flongref02_within.mono _ _ _)
   | (with_reducible exact LeO.refl _)
   | (with_reducible exact LeO.none _)
   | (with_reducible refine LeO.ite ?_ ?_)
   | (with_reducible refine LeO.bind ?_ (fun _ => ?_))
theorem flongref02_Width.mono : ∀ a0 k, LeO (flongref02_Width.f k a0) (flongref02_Width.f (k + 1) a0) := by
 intro a0 k
 have ih0 := flongref02_Width.mono_l k
 unfold flongref02_Width.f
 repeat' first
   | (with_reducible exact ih0 _ _)
   | (with_reducible exact flongref02_within.mono _ _ _)
   | (with_reducible exact LeO.refl _)
   | (with_reducible exact LeO.none _)
   | (with_reducible refine LeO.ite ?_ ?_)
   | (with_reducible refine LeO.bind ?_ (fun _ => ?_))
theorem flongref02_Width.calls (k : Nat) (a0 : Int) (r : Int) (w : World) (h : flongref02_Width.f k a0 = some r) :
  Calls Tryd.prog 43 #[.int .i32 a0] w fun e w' => e = .returned (.int .i64 r) ∧ Below w.heap.size w w' := by
 have HB := Aside0.mk (Below.refl w.heap.size w)
 have H : ((flongref02_Valid.f a0).bind fun t205 => (if t205 = true then ((flongref02_Control.f a0).bind fun t206 => (flongref02_Width.j0 k a0 t206)) else (flongref02_Width.j0 k a0 true))) = some r := h
 clear h
 have HC2 := Aside0.mk H
 clear H
 go_enter Tryd.func43, Tryd.ntmps43
 go_upto_region 1 with (fail)
 go_cut [9] (fun v9 wc => ∃ (kq : Nat) (x9_1 : Bool), v9 = .bool x9_1 ∧ Aside0 (flongref02_Width.j0 kq a0 x9_1 = some r) ∧ Aside0 (kq ≤ k) ∧ Aside0 (Below w.heap.size w wc))
 case first =>
  have H := HC2.out
  clear HC2
  replace H := Option.bind_eq_some_iff.mp H
  obtain ⟨t205, A30, H⟩ := H
  replace H : (if t205 = true then ((flongref02_Control.f a0).bind fun t206 => (flongref02_Width.j0 k a0 t206)) else (flongref02_Width.j0 k a0 true)) = some r := H
  have A3 := Aside0.mk A30
  clear A30
  by_cases c4 : t205 = true
  ·subst c4
   have H1 : ((flongref02_Control.f a0).bind fun t206 => (flongref02_Width.j0 k a0 t206)) = some r := by rw [if_pos rfl] at H; exact H
   clear H
   have H := H1
   clear H1
   replace H := Option.bind_eq_some_iff.mp H
   obtain ⟨t206, A50, H⟩ := H
   replace H : (flongref02_Width.j0 k a0 t206) = some r := H
   have A5 := Aside0.mk A50
   clear A50
   have H' := Aside0.mk H
   clear H
   go_wp2_with (first | ((with_reducible refine gate_callee (f := 58) rfl ?_); refine goesL_ (some 4) rfl rfl Tryd.func58 (by kernel_rfl) rfl #[.int .i32 a0] rfl (by (try simp only [List.map_toArray, List.map_cons, List.map_nil]); first | done | rfl | (simp only [List.length_drop, List.length_take]; rfl)) ?_; (with_reducible refine (flongref02_Valid.calls a0 true _ A3.out).mono ?_); rintro e w' ⟨rfl, ⟨nd, rfl⟩⟩; refine ⟨_, rfl, ?_⟩) | (go_at_call 60; (with_reducible refine (flongref02_Control.calls a0 t206 _ A5.out).mono ?_); rintro e w' ⟨rfl, ⟨nd, rfl⟩⟩))
   go_meet
   case rel => exact ⟨_, (t206), (by first | rfl | (simp; done) | (simp [*]; done)), H', ⟨by first | omega | exact Nat.le_refl _⟩, ⟨by repeat (first | (with_reducible first | exact HB.out | apply below_alloc | apply pw_below_drewN | apply below_drew1) | exact HB.out)⟩⟩
  ·replace c4 := Bool.eq_false_iff.mpr c4
   subst c4
   have H1 : (flongref02_Width.j0 k a0 true) = some r := by rw [if_neg (show ¬ (false = true) by decide)] at H; exact H
   clear H
   have H := H1
   clear H1
   have H' := Aside0.mk H
   clear H
   go_wp2_with (first | ((with_reducible refine gate_callee (f := 58) rfl ?_); refine goesL_ (some 4) rfl rfl Tryd.func58 (by kernel_rfl) rfl #[.int .i32 a0] rfl (by (try simp only [List.map_toArray, List.map_cons, List.map_nil]); first | done | rfl | (simp only [List.length_drop, List.length_take]; rfl)) ?_; (with_reducible refine (flongref02_Valid.calls a0 false _ A3.out).mono ?_); rintro e w' ⟨rfl, ⟨nd, rfl⟩⟩; refine ⟨_, rfl, ?_⟩))
   go_meet
   case rel => exact ⟨_, (true), (by first | rfl | (simp; done) | (simp [*]; done)), H', ⟨by first | omega | exact Nat.le_refl _⟩, ⟨by repeat (first | (with_reducible first | exact HB.out | apply below_alloc | apply pw_below_drewN | apply below_drew1) | exact HB.out)⟩⟩
 case rest =>
  clear HC2
  try clear p2
  try clear c4
  try clear c5
  obtain ⟨kq, x9_1, rfl, HA, HJ1, HB⟩ := hcut
  cases kq with
  | zero => exact absurd HA.out (by simp [flongref02_Width.j0])
  | succ kj1 =>
   have H := HA.out
   clear HA
   simp only [flongref02_Width.j0] at H
   by_cases c6 : x9_1 = true
   ·subst c6
    have H1 : (some 0) = some r := by rw [if_pos rfl] at H; exact H
    clear H
    have H := H1
    clear H1
    obtain rfl := Option.some.inj H
    go_wp2
    go_ret
    exact ⟨by first | rfl | (simp [errW_none, errW_some] <;> rfl) | (simp [*, errW_none, errW_some] <;> rfl), by repeat (first | (with_reducible first | exact HB.out | apply below_alloc | apply pw_below_drewN | apply below_drew1) | exact HB.out)⟩
   ·replace c6 := Bool.eq_false_iff.mpr c6
    subst c6
    have H1 : ((flongref02_within.f kj1 a0 (([768, 879, 1155, 1161, 1425, 1469, 1552, 1562, 1611, 1631, 6832, 6911, 7616, 7679, 8203, 8207, 8400, 8447, 65024, 65039, 65056, 65071, 917760, 917999] : List Int))).bind fun t210 => (if t210 = true then (some 0) else ((flongref02_within.f kj1 a0 (([4352, 4447, 9001, 9002, 11904, 12350, 12353, 13311, 13312, 19903, 19968, 42191, 43360, 43391, 44032, 55203, 63744, 64255, 65072, 65135, 65280, 65376, 65504, 65510, 127744, 128591, 129280, 129535, 131072, 196605, 196608, 262141] : List Int))).bind fun t214 => (if t214 = true then (some 2) else (some 1))))) = some r := by rw [if_neg (show ¬ (false = true) by decide)] at H; exact H
    clear H
    have H := H1
    clear H1
    obtain ⟨y207, hy207⟩ : ∃ y_ : List Int, y_ = (([768, 879, 1155, 1161, 1425, 1469, 1552, 1562, 1611, 1631, 6832, 6911, 7616, 7679, 8203, 8207, 8400, 8447, 65024, 65039, 65056, 65071, 917760, 917999] : List Int)) := ⟨_, rfl⟩
    replace H : ((flongref02_within.f kj1 a0 y207).bind fun t210 => (if t210 = true then (some 0) else ((flongref02_within.f kj1 a0 (([4352, 4447, 9001, 9002, 11904, 12350, 12353, 13311, 13312, 19903, 19968, 42191, 43360, 43391, 44032, 55203, 63744, 64255, 65072, 65135, 65280, 65376, 65504, 65510, 127744, 128591, 129280, 129535, 131072, 196605, 196608, 262141] : List Int))).bind fun t214 => (if t214 = true then (some 2) else (some 1))))) = some r := by first | (rw [hy207]; with_reducible exact H) | (have H2_ := (Option.bind_some _ _).symm.trans H; rw [hy207]; with_reducible exact H2_) | (have H2_ := (Option.bind_some _ _).symm.trans H; with_reducible exact H2_) | with_reducible exact H | (rw [hy207]; exact H) | exact H
    have Ny207 := Aside0.mk hy207
    clear hy207
    replace H := Option.bind_eq_some_iff.mp H
    obtain ⟨t210, A70, H⟩ := H
    replace H : (if t210 = true then (some 0) else ((flongref02_within.f kj1 a0 (([4352, 4447, 9001, 9002, 11904, 12350, 12353, 13311, 13312, 19903, 19968, 42191, 43360, 43391, 44032, 55203, 63744, 64255, 65072, 65135, 65280, 65376, 65504, 65510, 127744, 128591, 129280, 129535, 131072, 196605, 196608, 262141] : List Int))).bind fun t214 => (if t214 = true then (some 2) else (some 1)))) = some r := H
    have A7 := Aside0.mk A70
    clear A70
    by_cases c8 : t210 = true
    ·subst c8
     have H1 : (some 0) = some r := by rw [if_pos rfl] at H; exact H
     clear H
     have H := H1
     clear H1
     obtain rfl := Option.some.inj H
     go_wp2_with (first | ((with_reducible refine gate_dst (N := 11) rfl ?_); refine Kd.R_lit (Kd.int .i32) _ 21 ?hg (N := 11) ?hd (xs := ([768, 879, 1155, 1161, 1425, 1469, 1552, 1562, 1611, 1631, 6832, 6911, 7616, 7679, 8203, 8207, 8400, 8447, 65024, 65039, 65056, 65071, 917760, 917999] : List Int)) (inner := [.int .i32 768, .int .i32 879, .int .i32 1155, .int .i32 1161, .int .i32 1425, .int .i32 1469, .int .i32 1552, .int .i32 1562, .int .i32 1611, .int .i32 1631, .int .i32 6832, .int .i32 6911, .int .i32 7616, .int .i32 7679, .int .i32 8203, .int .i32 8207, .int .i32 8400, .int .i32 8447, .int .i32 65024, .int .i32 65039, .int .i32 65056, .int .i32 65071, .int .i32 917760, .int .i32 917999]) (ok := fun _ => True) (okp := fun _ => True) ?hr ?hp (fun _ hk => hk) trivial (Below.refl _ _) (Nat.le_refl _) (by simp) ?_; (case hd => rfl); (case hg => rfl); (case hr => first | (go_simp; done) | (go_simp; rfl)); (case hp => exact (Reps.one (show Kd.M (Kd.int .i32) _ _ _ 768 [.int .i32 768] from rfl) (Reps.one (show Kd.M (Kd.int .i32) _ _ _ 879 [.int .i32 879] from rfl) (Reps.one (show Kd.M (Kd.int .i32) _ _ _ 1155 [.int .i32 1155] from rfl) (Reps.one (show Kd.M (Kd.int .i32) _ _ _ 1161 [.int .i32 1161] from rfl) (Reps.one (show Kd.M (Kd.int .i32) _ _ _ 1425 [.int .i32 1425] from rfl) (Reps.one (show Kd.M (Kd.int .i32) _ _ _ 1469 [.int .i32 1469] from rfl) (Reps.one (show Kd.M (Kd.int .i32) _ _ _ 1552 [.int .i32 1552] from rfl) (Reps.one (show Kd.M (Kd.int .i32) _ _ _ 1562 [.int .i32 1562] from rfl) (Reps.one (show Kd.M (Kd.int .i32) _ _ _ 1611 [.int .i32 1611] from rfl) (Reps.one (show Kd.M (Kd.int .i32) _ _ _ 1631 [.int .i32 1631] from rfl) (Reps.one (show Kd.M (Kd.int .i32) _ _ _ 6832 [.int .i32 6832] from rfl) (Reps.one (show Kd.M (Kd.int .i32) _ _ _ 6911 [.int .i32 6911] from rfl) (Reps.one (show Kd.M (Kd.int .i32) _ _ _ 7616 [.int .i32 7616] from rfl) (Reps.one (show Kd.M (Kd.int .i32) _ _ _ 7679 [.int .i32 7679] from rfl) (Reps.one (show Kd.M (Kd.int .i32) _ _ _ 8203 [.int .i32 8203] from rfl) (Reps.one (show Kd.M (Kd.int .i32) _ _ _ 8207 [.int .i32 8207] from rfl) (Reps.one (show Kd.M (Kd.int .i32) _ _ _ 8400 [.int .i32 8400] from rfl) (Reps.one (show Kd.M (Kd.int .i32) _ _ _ 8447 [.int .i32 8447] from rfl) (Reps.one (show Kd.M (Kd.int .i32) _ _ _ 65024 [.int .i32 65024] from rfl) (Reps.one (show Kd.M (Kd.int .i32) _ _ _ 65039 [.int .i32 65039] from rfl) (Reps.one (show Kd.M (Kd.int .i32) _ _ _ 65056 [.int .i32 65056] from rfl) (Reps.one (show Kd.M (Kd.int .i32) _ _ _ 65071 [.int .i32 65071] from rfl) (Reps.one (show Kd.M (Kd.int .i32) _ _ _ 917760 [.int .i32 917760] from rfl) (Reps.one (show Kd.M (Kd.int .i32) _ _ _ 917999 [.int .i32 917999] from rfl) (Reps.none _ _)))))))))))))))))))))))))); intro v208 w9 ho10 hb hg_ hnew_; clear hg_ hnew_; (first | rw [← Ny207.out] at ho10 | (simp only [Int.reduceToNat] at ho10; rw [← Ny207.out] at ho10)); have n0_ := Aside0.mk (Kd.R_lower ho10 (below_size (by repeat (first | (with_reducible first | exact HB.out | apply below_alloc | apply pw_below_drewN | apply below_drew1) | exact HB.out)))); have n1_ := Aside0.mk (below_step (by repeat (first | (with_reducible first | exact HB.out | apply below_alloc | apply pw_below_drewN | apply below_drew1) | exact HB.out)) hb); clear HB; have HO209 := n0_; have HB := n1_; clear n0_ n1_; clear hb ho10; obtain ⟨Ao11, co11, eo11⟩ := Kd.R_slice HO209.out; subst eo11) | ((with_reducible refine gate_callee (f := 61) rfl ?_); refine goesL_ (some 12) rfl rfl Tryd.func61 (by kernel_rfl) rfl #[.int .i32 a0, .slice Ao11 y207.length co11] rfl (by (try simp only [List.map_toArray, List.map_cons, List.map_nil]); first | done | rfl | (simp only [List.length_drop, List.length_take]; rfl)) ?_; (with_reducible refine (flongref02_within.calls kj1 a0 _ _ y207 true _ ?side1 ?side2 A7.out).mono ?_); (case side1 => repeat (first | exact (Kd.R_reads' HO209.out).2.2 | (with_reducible refine Kd.C_alloc ?_ _) | (with_reducible refine Kd.C_drewN ?_ _) | (with_reducible refine Kd.C_drew ?_))); (case side2 => exact (Kd.R_reads' HO209.out).2.1); rintro e w' ⟨rfl, ⟨nd, rfl⟩⟩; refine ⟨_, rfl, ?_⟩))
     go_ret
     exact ⟨by first | rfl | (simp [errW_none, errW_some] <;> rfl) | (simp [*, errW_none, errW_some] <;> rfl), by repeat (first | (with_reducible first | exact HB.out | apply below_alloc | apply pw_below_drewN | apply below_drew1) | exact HB.out)⟩
    ·replace c8 := Bool.eq_false_iff.mpr c8
     subst c8
     have H1 : ((flongref02_within.f kj1 a0 (([4352, 4447, 9001, 9002, 11904, 12350, 12353, 13311, 13312, 19903, 19968, 42191, 43360, 43391, 44032, 55203, 63744, 64255, 65072, 65135, 65280, 65376, 65504, 65510, 127744, 128591, 129280, 129535, 131072, 196605, 196608, 262141] : List Int))).bind fun t214 => (if t214 = true then (some 2) else (some 1))) = some r := by rw [if_neg (show ¬ (false = true) by decide)] at H; exact H
     clear H
     have H := H1
     clear H1
     obtain ⟨y211, hy211⟩ : ∃ y_ : List Int, y_ = (([4352, 4447, 9001, 9002, 11904, 12350, 12353, 13311, 13312, 19903, 19968, 42191, 43360, 43391, 44032, 55203, 63744, 64255, 65072, 65135, 65280, 65376, 65504, 65510, 127744, 128591, 129280, 129535, 131072, 196605, 196608, 262141] : List Int)) := ⟨_, rfl⟩
     replace H : ((flongref02_within.f kj1 a0 y211).bind fun t214 => (if t214 = true then (some 2) else (some 1))) = some r := by first | (rw [hy211]; with_reducible exact H) | (have H2_ := (Option.bind_some _ _).symm.trans H; rw [hy211]; with_reducible exact H2_) | (have H2_ := (Option.bind_some _ _).symm.trans H; with_reducible exact H2_) | with_reducible exact H | (rw [hy211]; exact H) | exact H
     have Ny211 := Aside0.mk hy211
     clear hy211
     replace H := Option.bind_eq_some_iff.mp H
     obtain ⟨t214, A120, H⟩ := H
     replace H : (if t214 = true then (some 2) else (some 1)) = some r := H
     have A12 := Aside0.mk A120
     clear A120
     by_cases c13 : t214 = true
     ·subst c13
      have H1 : (some 2) = some r := by rw [if_pos rfl] at H; exact H
      clear H
      have H := H1
      clear H1
      obtain rfl := Option.some.inj H
      go_wp2_with (first | ((with_reducible refine gate_dst (N := 11) rfl ?_); refine Kd.R_lit (Kd.int .i32) _ 21 ?hg (N := 11) ?hd (xs := ([768, 879, 1155, 1161, 1425, 1469, 1552, 1562, 1611, 1631, 6832, 6911, 7616, 7679, 8203, 8207, 8400, 8447, 65024, 65039, 65056, 65071, 917760, 917999] : List Int)) (inner := [.int .i32 768, .int .i32 879, .int .i32 1155, .int .i32 1161, .int .i32 1425, .int .i32 1469, .int .i32 1552, .int .i32 1562, .int .i32 1611, .int .i32 1631, .int .i32 6832, .int .i32 6911, .int .i32 7616, .int .i32 7679, .int .i32 8203, .int .i32 8207, .int .i32 8400, .int .i32 8447, .int .i32 65024, .int .i32 65039, .int .i32 65056, .int .i32 65071, .int .i32 917760, .int .i32 917999]) (ok := fun _ => True) (okp := fun _ => True) ?hr ?hp (fun _ hk => hk) trivial (Below.refl _ _) (Nat.le_refl _) (by simp) ?_; (case hd => rfl); (case hg => rfl); (case hr => first | (go_simp; done) | (go_simp; rfl)); (case hp => exact (Reps.one (show Kd.M (Kd.int .i32) _ _ _ 768 [.int .i32 768] from rfl) (Reps.one (show Kd.M (Kd.int .i32) _ _ _ 879 [.int .i32 879] from rfl) (Reps.one (show Kd.M (Kd.int .i32) _ _ _ 1155 [.int .i32 1155] from rfl) (Reps.one (show Kd.M (Kd.int .i32) _ _ _ 1161 [.int .i32 1161] from rfl) (Reps.one (show Kd.M (Kd.int .i32) _ _ _ 1425 [.int .i32 1425] from rfl) (Reps.one (show Kd.M (Kd.int .i32) _ _ _ 1469 [.int .i32 1469] from rfl) (Reps.one (show Kd.M (Kd.int .i32) _ _ _ 1552 [.int .i32 1552] from rfl) (Reps.one (show Kd.M (Kd.int .i32) _ _ _ 1562 [.int .i32 1562] from rfl) (Reps.one (show Kd.M (Kd.int .i32) _ _ _ 1611 [.int .i32 1611] from rfl) (Reps.one (show Kd.M (Kd.int .i32) _ _ _ 1631 [.int .i32 1631] from rfl) (Reps.one (show Kd.M (Kd.int .i32) _ _ _ 6832 [.int .i32 6832] from rfl) (Reps.one (show Kd.M (Kd.int .i32) _ _ _ 6911 [.int .i32 6911] from rfl) (Reps.one (show Kd.M (Kd.int .i32) _ _ _ 7616 [.int .i32 7616] from rfl) (Reps.one (show Kd.M (Kd.int .i32) _ _ _ 7679 [.int .i32 7679] from rfl) (Reps.one (show Kd.M (Kd.int .i32) _ _ _ 8203 [.int .i32 8203] from rfl) (Reps.one (show Kd.M (Kd.int .i32) _ _ _ 8207 [.int .i32 8207] from rfl) (Reps.one (show Kd.M (Kd.int .i32) _ _ _ 8400 [.int .i32 8400] from rfl) (Reps.one (show Kd.M (Kd.int .i32) _ _ _ 8447 [.int .i32 8447] from rfl) (Reps.one (show Kd.M (Kd.int .i32) _ _ _ 65024 [.int .i32 65024] from rfl) (Reps.one (show Kd.M (Kd.int .i32) _ _ _ 65039 [.int .i32 65039] from rfl) (Reps.one (show Kd.M (Kd.int .i32) _ _ _ 65056 [.int .i32 65056] from rfl) (Reps.one (show Kd.M (Kd.int .i32) _ _ _ 65071 [.int .i32 65071] from rfl) (Reps.one (show Kd.M (Kd.int .i32) _ _ _ 917760 [.int .i32 917760] from rfl) (Reps.one (show Kd.M (Kd.int .i32) _ _ _ 917999 [.int .i32 917999] from rfl) (Reps.none _ _)))))))))))))))))))))))))); intro v208 w14 ho15 hb hg_ hnew_; clear hg_ hnew_; (first | rw [← Ny207.out] at ho15 | (simp only [Int.reduceToNat] at ho15; rw [← Ny207.out] at ho15)); have n0_ := Aside0.mk (Kd.R_lower ho15 (below_size (by repeat (first | (with_reducible first | exact HB.out | apply below_alloc | apply pw_below_drewN | apply below_drew1) | exact HB.out)))); have n1_ := Aside0.mk (below_step (by repeat (first | (with_reducible first | exact HB.out | apply below_alloc | apply pw_below_drewN | apply below_drew1) | exact HB.out)) hb); clear HB; have HO209 := n0_; have HB := n1_; clear n0_ n1_; clear hb ho15; obtain ⟨Ao16, co16, eo16⟩ := Kd.R_slice HO209.out; subst eo16) | ((with_reducible refine gate_callee (f := 61) rfl ?_); refine goesL_ (some 12) rfl rfl Tryd.func61 (by kernel_rfl) rfl #[.int .i32 a0, .slice Ao16 y207.length co16] rfl (by (try simp only [List.map_toArray, List.map_cons, List.map_nil]); first | done | rfl | (simp only [List.length_drop, List.length_take]; rfl)) ?_; (with_reducible refine (flongref02_within.calls kj1 a0 _ _ y207 false _ ?side1 ?side2 A7.out).mono ?_); (case side1 => repeat (first | exact (Kd.R_reads' HO209.out).2.2 | (with_reducible refine Kd.C_alloc ?_ _) | (with_reducible refine Kd.C_drewN ?_ _) | (with_reducible refine Kd.C_drew ?_))); (case side2 => exact (Kd.R_reads' HO209.out).2.1); rintro e w' ⟨rfl, ⟨nd, rfl⟩⟩; refine ⟨_, rfl, ?_⟩) | ((with_reducible refine gate_dst (N := 14) rfl ?_); refine Kd.R_lit (Kd.int .i32) _ 21 ?hg (N := 14) ?hd (xs := ([4352, 4447, 9001, 9002, 11904, 12350, 12353, 13311, 13312, 19903, 19968, 42191, 43360, 43391, 44032, 55203, 63744, 64255, 65072, 65135, 65280, 65376, 65504, 65510, 127744, 128591, 129280, 129535, 131072, 196605, 196608, 262141] : List Int)) (inner := [.int .i32 4352, .int .i32 4447, .int .i32 9001, .int .i32 9002, .int .i32 11904, .int .i32 12350, .int .i32 12353, .int .i32 13311, .int .i32 13312, .int .i32 19903, .int .i32 19968, .int .i32 42191, .int .i32 43360, .int .i32 43391, .int .i32 44032, .int .i32 55203, .int .i32 63744, .int .i32 64255, .int .i32 65072, .int .i32 65135, .int .i32 65280, .int .i32 65376, .int .i32 65504, .int .i32 65510, .int .i32 127744, .int .i32 128591, .int .i32 129280, .int .i32 129535, .int .i32 131072, .int .i32 196605, .int .i32 196608, .int .i32 262141]) (ok := fun _ => True) (okp := fun _ => True) ?hr ?hp (fun _ hk => hk) trivial (Below.refl _ _) (Nat.le_refl _) (by simp) ?_; (case hd => rfl); (case hg => rfl); (case hr => first | (go_simp; done) | (go_simp; rfl)); (case hp => exact (Reps.one (show Kd.M (Kd.int .i32) _ _ _ 4352 [.int .i32 4352] from rfl) (Reps.one (show Kd.M (Kd.int .i32) _ _ _ 4447 [.int .i32 4447] from rfl) (Reps.one (show Kd.M (Kd.int .i32) _ _ _ 9001 [.int .i32 9001] from rfl) (Reps.one (show Kd.M (Kd.int .i32) _ _ _ 9002 [.int .i32 9002] from rfl) (Reps.one (show Kd.M (Kd.int .i32) _ _ _ 11904 [.int .i32 11904] from rfl) (Reps.one (show Kd.M (Kd.int .i32) _ _ _ 12350 [.int .i32 12350] from rfl) (Reps.one (show Kd.M (Kd.int .i32) _ _ _ 12353 [.int .i32 12353] from rfl) (Reps.one (show Kd.M (Kd.int .i32) _ _ _ 13311 [.int .i32 13311] from rfl) (Reps.one (show Kd.M (Kd.int .i32) _ _ _ 13312 [.int .i32 13312] from rfl) (Reps.one (show Kd.M (Kd.int .i32) _ _ _ 19903 [.int .i32 19903] from rfl) (Reps.one (show Kd.M (Kd.int .i32) _ _ _ 19968 [.int .i32 19968] from rfl) (Reps.one (show Kd.M (Kd.int .i32) _ _ _ 42191 [.int .i32 42191] from rfl) (Reps.one (show Kd.M (Kd.int .i32) _ _ _ 43360 [.int .i32 43360] from rfl) (Reps.one (show Kd.M (Kd.int .i32) _ _ _ 43391 [.int .i32 43391] from rfl) (Reps.one (show Kd.M (Kd.int .i32) _ _ _ 44032 [.int .i32 44032] from rfl) (Reps.one (show Kd.M (Kd.int .i32) _ _ _ 55203 [.int .i32 55203] from rfl) (Reps.one (show Kd.M (Kd.int .i32) _ _ _ 63744 [.int .i32 63744] from rfl) (Reps.one (show Kd.M (Kd.int .i32) _ _ _ 64255 [.int .i32 64255] from rfl) (Reps.one (show Kd.M (Kd.int .i32) _ _ _ 65072 [.int .i32 65072] from rfl) (Reps.one (show Kd.M (Kd.int .i32) _ _ _ 65135 [.int .i32 65135] from rfl) (Reps.one (show Kd.M (Kd.int .i32) _ _ _ 65280 [.int .i32 65280] from rfl) (Reps.one (show Kd.M (Kd.int .i32) _ _ _ 65376 [.int .i32 65376] from rfl) (Reps.one (show Kd.M (Kd.int .i32) _ _ _ 65504 [.int .i32 65504] from rfl) (Reps.one (show Kd.M (Kd.int .i32) _ _ _ 65510 [.int .i32 65510] from rfl) (Reps.one (show Kd.M (Kd.int .i32) _ _ _ 127744 [.int .i32 127744] from rfl) (Reps.one (show Kd.M (Kd.int .i32) _ _ _ 128591 [.int .i32 128591] from rfl) (Reps.one (show Kd.M (Kd.int .i32) _ _ _ 129280 [.int .i32 129280] from rfl) (Reps.one (show Kd.M (Kd.int .i32) _ _ _ 129535 [.int .i32 129535] from rfl) (Reps.one (show Kd.M (Kd.int .i32) _ _ _ 131072 [.int .i32 131072] from rfl) (Reps.one (show Kd.M (Kd.int .i32) _ _ _ 196605 [.int .i32 196605] from rfl) (Reps.one (show Kd.M (Kd.int .i32) _ _ _ 196608 [.int .i32 196608] from rfl) (Reps.one (show Kd.M (Kd.int .i32) _ _ _ 262141 [.int .i32 262141] from rfl) (Reps.none _ _)))))))))))))))))))))))))))))))))); intro v212 w17 ho18 hb hg_ hnew_; clear hg_ hnew_; (first | rw [← Ny211.out] at ho18 | (simp only [Int.reduceToNat] at ho18; rw [← Ny211.out] at ho18)); have n0_ := Aside0.mk (Kd.R_elder' (by (with_reducible repeat (first | apply Kd.R_alloc | apply Kd.R_drewN | apply Kd.R_drew)); exact HO209.out) (Kd.R_base ho18) hb); have n1_ := Aside0.mk (Kd.R_lower (Kd.R_new' ho18 (Kd.R_lt (by (with_reducible repeat (first | apply Kd.R_alloc | apply Kd.R_drewN | apply Kd.R_drew)); exact HO209.out))) (below_size (by repeat (first | (with_reducible first | exact HB.out | apply below_alloc | apply pw_below_drewN | apply below_drew1) | exact HB.out)))); have n2_ := Aside0.mk (below_step (by repeat (first | (with_reducible first | exact HB.out | apply below_alloc | apply pw_below_drewN | apply below_drew1) | exact HB.out)) hb); clear HO209; clear HB; have HO209 := n0_; have HO213 := n1_; have HB := n2_; clear n0_ n1_ n2_; clear hb ho18; obtain ⟨Ao19, co19, eo19⟩ := Kd.R_slice HO213.out; subst eo19) | ((with_reducible refine gate_callee (f := 61) rfl ?_); refine goesL_ (some 15) rfl rfl Tryd.func61 (by kernel_rfl) rfl #[.int .i32 a0, .slice Ao19 y211.length co19] rfl (by (try simp only [List.map_toArray, List.map_cons, List.map_nil]); first | done | rfl | (simp only [List.length_drop, List.length_take]; rfl)) ?_; (with_reducible refine (flongref02_within.calls kj1 a0 _ _ y211 true _ ?side1 ?side2 A12.out).mono ?_); (case side1 => repeat (first | exact (Kd.R_reads' HO213.out).2.2 | (with_reducible refine Kd.C_alloc ?_ _) | (with_reducible refine Kd.C_drewN ?_ _) | (with_reducible refine Kd.C_drew ?_))); (case side2 => exact (Kd.R_reads' HO213.out).2.1); rintro e w' ⟨rfl, ⟨nd, rfl⟩⟩; refine ⟨_, rfl, ?_⟩))
      go_ret
      exact ⟨by first | rfl | (simp [errW_none, errW_some] <;> rfl) | (simp [*, errW_none, errW_some] <;> rfl), by repeat (first | (with_reducible first | exact HB.out | apply below_alloc | apply pw_below_drewN | apply below_drew1) | exact HB.out)⟩
     ·replace c13 := Bool.eq_false_iff.mpr c13
      subst c13
      have H1 : (some 1) = some r := by rw [if_neg (show ¬ (false = true) by decide)] at H; exact H
      clear H
      have H := H1
      clear H1
      obtain rfl := Option.some.inj H
      go_wp2_with (first | ((with_reducible refine gate_dst (N := 11) rfl ?_); refine Kd.R_lit (Kd.int .i32) _ 21 ?hg (N := 11) ?hd (xs := ([768, 879, 1155, 1161, 1425, 1469, 1552, 1562, 1611, 1631, 6832, 6911, 7616, 7679, 8203, 8207, 8400, 8447, 65024, 65039, 65056, 65071, 917760, 917999] : List Int)) (inner := [.int .i32 768, .int .i32 879, .int .i32 1155, .int .i32 1161, .int .i32 1425, .int .i32 1469, .int .i32 1552, .int .i32 1562, .int .i32 1611, .int .i32 1631, .int .i32 6832, .int .i32 6911, .int .i32 7616, .int .i32 7679, .int .i32 8203, .int .i32 8207, .int .i32 8400, .int .i32 8447, .int .i32 65024, .int .i32 65039, .int .i32 65056, .int .i32 65071, .int .i32 917760, .int .i32 917999]) (ok := fun _ => True) (okp := fun _ => True) ?hr ?hp (fun _ hk => hk) trivial (Below.refl _ _) (Nat.le_refl _) (by simp) ?_; (case hd => rfl); (case hg => rfl); (case hr => first | (go_simp; done) | (go_simp; rfl)); (case hp => exact (Reps.one (show Kd.M (Kd.int .i32) _ _ _ 768 [.int .i32 768] from rfl) (Reps.one (show Kd.M (Kd.int .i32) _ _ _ 879 [.int .i32 879] from rfl) (Reps.one (show Kd.M (Kd.int .i32) _ _ _ 1155 [.int .i32 1155] from rfl) (Reps.one (show Kd.M (Kd.int .i32) _ _ _ 1161 [.int .i32 1161] from rfl) (Reps.one (show Kd.M (Kd.int .i32) _ _ _ 1425 [.int .i32 1425] from rfl) (Reps.one (show Kd.M (Kd.int .i32) _ _ _ 1469 [.int .i32 1469] from rfl) (Reps.one (show Kd.M (Kd.int .i32) _ _ _ 1552 [.int .i32 1552] from rfl) (Reps.one (show Kd.M (Kd.int .i32) _ _ _ 1562 [.int .i32 1562] from rfl) (Reps.one (show Kd.M (Kd.int .i32) _ _ _ 1611 [.int .i32 1611] from rfl) (Reps.one (show Kd.M (Kd.int .i32) _ _ _ 1631 [.int .i32 1631] from rfl) (Reps.one (show Kd.M (Kd.int .i32) _ _ _ 6832 [.int .i32 6832] from rfl) (Reps.one (show Kd.M (Kd.int .i32) _ _ _ 6911 [.int .i32 6911] from rfl) (Reps.one (show Kd.M (Kd.int .i32) _ _ _ 7616 [.int .i32 7616] from rfl) (Reps.one (show Kd.M (Kd.int .i32) _ _ _ 7679 [.int .i32 7679] from rfl) (Reps.one (show Kd.M (Kd.int .i32) _ _ _ 8203 [.int .i32 8203] from rfl) (Reps.one (show Kd.M (Kd.int .i32) _ _ _ 8207 [.int .i32 8207] from rfl) (Reps.one (show Kd.M (Kd.int .i32) _ _ _ 8400 [.int .i32 8400] from rfl) (Reps.one (show Kd.M (Kd.int .i32) _ _ _ 8447 [.int .i32 8447] from rfl) (Reps.one (show Kd.M (Kd.int .i32) _ _ _ 65024 [.int .i32 65024] from rfl) (Reps.one (show Kd.M (Kd.int .i32) _ _ _ 65039 [.int .i32 65039] from rfl) (Reps.one (show Kd.M (Kd.int .i32) _ _ _ 65056 [.int .i32 65056] from rfl) (Reps.one (show Kd.M (Kd.int .i32) _ _ _ 65071 [.int .i32 65071] from rfl) (Reps.one (show Kd.M (Kd.int .i32) _ _ _ 917760 [.int .i32 917760] from rfl) (Reps.one (show Kd.M (Kd.int .i32) _ _ _ 917999 [.int .i32 917999] from rfl) (Reps.none _ _)))))))))))))))))))))))))); intro v208 w20 ho21 hb hg_ hnew_; clear hg_ hnew_; (first | rw [← Ny207.out] at ho21 | (simp only [Int.reduceToNat] at ho21; rw [← Ny207.out] at ho21)); have n0_ := Aside0.mk (Kd.R_lower ho21 (below_size (by repeat (first | (with_reducible first | exact HB.out | apply below_alloc | apply pw_below_drewN | apply below_drew1) | exact HB.out)))); have n1_ := Aside0.mk (below_step (by repeat (first | (with_reducible first | exact HB.out | apply below_alloc | apply pw_below_drewN | apply below_drew1) | exact HB.out)) hb); clear HB; have HO209 := n0_; have HB := n1_; clear n0_ n1_; clear hb ho21; obtain ⟨Ao22, co22, eo22⟩ := Kd.R_slice HO209.out; subst eo22) | ((with_reducible refine gate_callee (f := 61) rfl ?_); refine goesL_ (some 12) rfl rfl Tryd.func61 (by kernel_rfl) rfl #[.int .i32 a0, .slice Ao22 y207.length co22] rfl (by (try simp only [List.map_toArray, List.map_cons, List.map_nil]); first | done | rfl | (simp only [List.length_drop, List.length_take]; rfl)) ?_; (with_reducible refine (flongref02_within.calls kj1 a0 _ _ y207 false _ ?side1 ?side2 A7.out).mono ?_); (case side1 => repeat (first | exact (Kd.R_reads' HO209.out).2.2 | (with_reducible refine Kd.C_alloc ?_ _) | (with_reducible refine Kd.C_drewN ?_ _) | (with_reducible refine Kd.C_drew ?_))); (case side2 => exact (Kd.R_reads' HO209.out).2.1); rintro e w' ⟨rfl, ⟨nd, rfl⟩⟩; refine ⟨_, rfl, ?_⟩) | ((with_reducible refine gate_dst (N := 14) rfl ?_); refine Kd.R_lit (Kd.int .i32) _ 21 ?hg (N := 14) ?hd (xs := ([4352, 4447, 9001, 9002, 11904, 12350, 12353, 13311, 13312, 19903, 19968, 42191, 43360, 43391, 44032, 55203, 63744, 64255, 65072, 65135, 65280, 65376, 65504, 65510, 127744, 128591, 129280, 129535, 131072, 196605, 196608, 262141] : List Int)) (inner := [.int .i32 4352, .int .i32 4447, .int .i32 9001, .int .i32 9002, .int .i32 11904, .int .i32 12350, .int .i32 12353, .int .i32 13311, .int .i32 13312, .int .i32 19903, .int .i32 19968, .int .i32 42191, .int .i32 43360, .int .i32 43391, .int .i32 44032, .int .i32 55203, .int .i32 63744, .int .i32 64255, .int .i32 65072, .int .i32 65135, .int .i32 65280, .int .i32 65376, .int .i32 65504, .int .i32 65510, .int .i32 127744, .int .i32 128591, .int .i32 129280, .int .i32 129535, .int .i32 131072, .int .i32 196605, .int .i32 196608, .int .i32 262141]) (ok := fun _ => True) (okp := fun _ => True) ?hr ?hp (fun _ hk => hk) trivial (Below.refl _ _) (Nat.le_refl _) (by simp) ?_; (case hd => rfl); (case hg => rfl); (case hr => first | (go_simp; done) | (go_simp; rfl)); (case hp => exact (Reps.one (show Kd.M (Kd.int .i32) _ _ _ 4352 [.int .i32 4352] from rfl) (Reps.one (show Kd.M (Kd.int .i32) _ _ _ 4447 [.int .i32 4447] from rfl) (Reps.one (show Kd.M (Kd.int .i32) _ _ _ 9001 [.int .i32 9001] from rfl) (Reps.one (show Kd.M (Kd.int .i32) _ _ _ 9002 [.int .i32 9002] from rfl) (Reps.one (show Kd.M (Kd.int .i32) _ _ _ 11904 [.int .i32 11904] from rfl) (Reps.one (show Kd.M (Kd.int .i32) _ _ _ 12350 [.int .i32 12350] from rfl) (Reps.one (show Kd.M (Kd.int .i32) _ _ _ 12353 [.int .i32 12353] from rfl) (Reps.one (show Kd.M (Kd.int .i32) _ _ _ 13311 [.int .i32 13311] from rfl) (Reps.one (show Kd.M (Kd.int .i32) _ _ _ 13312 [.int .i32 13312] from rfl) (Reps.one (show Kd.M (Kd.int .i32) _ _ _ 19903 [.int .i32 19903] from rfl) (Reps.one (show Kd.M (Kd.int .i32) _ _ _ 19968 [.int .i32 19968] from rfl) (Reps.one (show Kd.M (Kd.int .i32) _ _ _ 42191 [.int .i32 42191] from rfl) (Reps.one (show Kd.M (Kd.int .i32) _ _ _ 43360 [.int .i32 43360] from rfl) (Reps.one (show Kd.M (Kd.int .i32) _ _ _ 43391 [.int .i32 43391] from rfl) (Reps.one (show Kd.M (Kd.int .i32) _ _ _ 44032 [.int .i32 44032] from rfl) (Reps.one (show Kd.M (Kd.int .i32) _ _ _ 55203 [.int .i32 55203] from rfl) (Reps.one (show Kd.M (Kd.int .i32) _ _ _ 63744 [.int .i32 63744] from rfl) (Reps.one (show Kd.M (Kd.int .i32) _ _ _ 64255 [.int .i32 64255] from rfl) (Reps.one (show Kd.M (Kd.int .i32) _ _ _ 65072 [.int .i32 65072] from rfl) (Reps.one (show Kd.M (Kd.int .i32) _ _ _ 65135 [.int .i32 65135] from rfl) (Reps.one (show Kd.M (Kd.int .i32) _ _ _ 65280 [.int .i32 65280] from rfl) (Reps.one (show Kd.M (Kd.int .i32) _ _ _ 65376 [.int .i32 65376] from rfl) (Reps.one (show Kd.M (Kd.int .i32) _ _ _ 65504 [.int .i32 65504] from rfl) (Reps.one (show Kd.M (Kd.int .i32) _ _ _ 65510 [.int .i32 65510] from rfl) (Reps.one (show Kd.M (Kd.int .i32) _ _ _ 127744 [.int .i32 127744] from rfl) (Reps.one (show Kd.M (Kd.int .i32) _ _ _ 128591 [.int .i32 128591] from rfl) (Reps.one (show Kd.M (Kd.int .i32) _ _ _ 129280 [.int .i32 129280] from rfl) (Reps.one (show Kd.M (Kd.int .i32) _ _ _ 129535 [.int .i32 129535] from rfl) (Reps.one (show Kd.M (Kd.int .i32) _ _ _ 131072 [.int .i32 131072] from rfl) (Reps.one (show Kd.M (Kd.int .i32) _ _ _ 196605 [.int .i32 196605] from rfl) (Reps.one (show Kd.M (Kd.int .i32) _ _ _ 196608 [.int .i32 196608] from rfl) (Reps.one (show Kd.M (Kd.int .i32) _ _ _ 262141 [.int .i32 262141] from rfl) (Reps.none _ _)))))))))))))))))))))))))))))))))); intro v212 w23 ho24 hb hg_ hnew_; clear hg_ hnew_; (first | rw [← Ny211.out] at ho24 | (simp only [Int.reduceToNat] at ho24; rw [← Ny211.out] at ho24)); have n0_ := Aside0.mk (Kd.R_elder' (by (with_reducible repeat (first | apply Kd.R_alloc | apply Kd.R_drewN | apply Kd.R_drew)); exact HO209.out) (Kd.R_base ho24) hb); have n1_ := Aside0.mk (Kd.R_lower (Kd.R_new' ho24 (Kd.R_lt (by (with_reducible repeat (first | apply Kd.R_alloc | apply Kd.R_drewN | apply Kd.R_drew)); exact HO209.out))) (below_size (by repeat (first | (with_reducible first | exact HB.out | apply below_alloc | apply pw_below_drewN | apply below_drew1) | exact HB.out)))); have n2_ := Aside0.mk (below_step (by repeat (first | (with_reducible first | exact HB.out | apply below_alloc | apply pw_below_drewN | apply below_drew1) | exact HB.out)) hb); clear HO209; clear HB; have HO209 := n0_; have HO213 := n1_; have HB := n2_; clear n0_ n1_ n2_; clear hb ho24; obtain ⟨Ao25, co25, eo25⟩ := Kd.R_slice HO213.out; subst eo25) | ((with_reducible refine gate_callee (f := 61) rfl ?_); refine goesL_ (some 15) rfl rfl Tryd.func61 (by kernel_rfl) rfl #[.int .i32 a0, .slice Ao25 y211.length co25] rfl (by (try simp only [List.map_toArray, List.map_cons, List.map_nil]); first | done | rfl | (simp only [List.length_drop, List.length_take]; rfl)) ?_; (with_reducible refine (flongref02_within.calls kj1 a0 _ _ y211 false _ ?side1 ?side2 A12.out).mono ?_); (case side1 => repeat (first | exact (Kd.R_reads' HO213.out).2.2 | (with_reducible refine Kd.C_alloc ?_ _) | (with_reducible refine Kd.C_drewN ?_ _) | (with_reducible refine Kd.C_drew ?_))); (case side2 => exact (Kd.R_reads' HO213.out).2.1); rintro e w' ⟨rfl, ⟨nd, rfl⟩⟩; refine ⟨_, rfl, ?_⟩))
      go_ret
      exact ⟨by first | rfl | (simp [errW_none, errW_some] <;> rfl) | (simp [*, errW_none, errW_some] <;> rfl), by repeat (first | (with_reducible first | exact HB.out | apply below_alloc | apply pw_below_drewN | apply below_drew1) | exact HB.out)⟩

/-! ### flongref02_Safe: function 59 -/
def flongref02_Safe.f (a0 : Int) : Option (Int) := (flongref02_Valid.f a0).bind fun t215 => (if t215 = true then ((flongref02_Control.f a0).bind fun t216 => (if t216 = true then (some 65533) else (some a0))) else (some 65533))
theorem flongref02_Safe.calls (a0 : Int) (r : Int) (w : World) (h : flongref02_Safe.f a0 = some r) :
  Calls Tryd.prog 59 #[.int .i32 a0] w fun e w' => e = .returned (.int .i32 r) ∧ Drawn0 w w' := by
 have H : ((flongref02_Valid.f a0).bind fun t215 => (if t215 = true then ((flongref02_Control.f a0).bind fun t216 => (if t216 = true then (some 65533) else (some a0))) else (some 65533))) = some r := h
 clear h
 replace H := Option.bind_eq_some_iff.mp H
 obtain ⟨t215, A20, H⟩ := H
 replace H : (if t215 = true then ((flongref02_Control.f a0).bind fun t216 => (if t216 = true then (some 65533) else (some a0))) else (some 65533)) = some r := H
 have A2 := Aside0.mk A20
 clear A20
 by_cases c3 : t215 = true
 ·subst c3
  have H1 : ((flongref02_Control.f a0).bind fun t216 => (if t216 = true then (some 65533) else (some a0))) = some r := by rw [if_pos rfl] at H; exact H
  clear H
  have H := H1
  clear H1
  replace H := Option.bind_eq_some_iff.mp H
  obtain ⟨t216, A40, H⟩ := H
  replace H : (if t216 = true then (some 65533) else (some a0)) = some r := H
  have A4 := Aside0.mk A40
  clear A40
  by_cases c5 : t216 = true
  ·subst c5
   have H1 : (some 65533) = some r := by rw [if_pos rfl] at H; exact H
   clear H
   have H := H1
   clear H1
   obtain rfl := Option.some.inj H
   go_enter Tryd.func59, Tryd.ntmps59
   go_wp2_with (first | ((with_reducible refine gate_callee (f := 58) rfl ?_); refine goesL_ (some 4) rfl rfl Tryd.func58 (by kernel_rfl) rfl #[.int .i32 a0] rfl (by (try simp only [List.map_toArray, List.map_cons, List.map_nil]); first | done | rfl | (simp only [List.length_drop, List.length_take]; rfl)) ?_; (with_reducible refine (flongref02_Valid.calls a0 true _ A2.out).mono ?_); rintro e w' ⟨rfl, ⟨nd, rfl⟩⟩; refine ⟨_, rfl, ?_⟩) | (go_at_call 60; (with_reducible refine (flongref02_Control.calls a0 true _ A4.out).mono ?_); rintro e w' ⟨rfl, ⟨nd, rfl⟩⟩))
   go_ret
   exact ⟨by first | rfl | (simp; done) | (simp [*]; done), by repeat (first | exact Drawn0.refl _ | apply Drawn0.step)⟩
  ·replace c5 := Bool.eq_false_iff.mpr c5
   subst c5
   have H1 : (some a0) = some r := by rw [if_neg (show ¬ (false = true) by decide)] at H; exact H
   clear H
   have H := H1
   clear H1
   obtain rfl := Option.some.inj H
   go_enter Tryd.func59, Tryd.ntmps59
   go_wp2_with (first | ((with_reducible refine gate_callee (f := 58) rfl ?_); refine goesL_ (some 4) rfl rfl Tryd.func58 (by kernel_rfl) rfl #[.int .i32 a0] rfl (by (try simp only [List.map_toArray, List.map_cons, List.map_nil]); first | done | rfl | (simp only [List.length_drop, List.length_take]; rfl)) ?_; (with_reducible refine (flongref02_Valid.calls a0 true _ A2.out).mono ?_); rintro e w' ⟨rfl, ⟨nd, rfl⟩⟩; refine ⟨_, rfl, ?_⟩) | (go_at_call 60; (with_reducible refine (flongref02_Control.calls a0 false _ A4.out).mono ?_); rintro e w' ⟨rfl, ⟨nd, rfl⟩⟩))
   go_ret
   exact ⟨by first | rfl | (simp; done) | (simp [*]; done), by repeat (first | exact Drawn0.refl _ | apply Drawn0.step)⟩
 ·replace c3 := Bool.eq_false_iff.mpr c3
  subst c3
  have H1 : (some 65533) = some r := by rw [if_neg (show ¬ (false = true) by decide)] at H; exact H
  clear H
  have H := H1
  clear H1
  obtain rfl := Option.some.inj H
  go_enter Tryd.func59, Tryd.ntmps59
  go_wp2_with (first | ((with_reducible refine gate_callee (f := 58) rfl ?_); refine goesL_ (some 4) rfl rfl Tryd.func58 (by kernel_rfl) rfl #[.int .i32 a0] rfl (by (try simp only [List.map_toArray, List.map_cons, List.map_nil]); first | done | rfl | (simp only [List.length_drop, List.length_take]; rfl)) ?_; (with_reducible refine (flongref02_Valid.calls a0 false _ A2.out).mono ?_); rintro e w' ⟨rfl, ⟨nd, rfl⟩⟩; refine ⟨_, rfl, ?_⟩))
  go_ret
  exact ⟨by first | rfl | (simp; done) | (simp [*]; done), by repeat (first | exact Drawn0.refl _ | apply Drawn0.step)⟩

/-! ### flongref03_Clean: function 42 -/
def flongref03_Clean.l0 : Nat → List (S44) → List (S44) → Int → Option ((List (S44)))
 | 0, _, _, _ => none
 | k + 1, x0, x3, x4 => if x4 < (x0.length : Int) then (if 0 ≤ x4 then ((flongref02_Safe.f ((rd_T44 x0 x4).f0)).bind fun t218 => (if ((rd_T44 x0 x4).f0) = 160 then (if (x3.length : Int) > 0 then (if x3.length < 17592186044416 then (flongref03_Clean.l0 k x0 (x3 ++ [(⟨32, Int.tmod ((rd_T44 x0 x4).f1) 4⟩ : S44)]) (wrap64 (x4 + 1))) else (none)) else ((flongref02_Width.f k 32).bind fun t224 => (if t224 > 0 then (if x3.length < 17592186044416 then (flongref03_Clean.l0 k x0 (x3 ++ [(⟨32, Int.tmod ((rd_T44 x0 x4).f1) 4⟩ : S44)]) (wrap64 (x4 + 1))) else (none)) else (flongref03_Clean.l0 k x0 x3 (wrap64 (x4 + 1)))))) else (if (x3.length : Int) > 0 then (if x3.length < 17592186044416 then (flongref03_Clean.l0 k x0 (x3 ++ [(⟨t218, Int.tmod ((rd_T44 x0 x4).f1) 4⟩ : S44)]) (wrap64 (x4 + 1))) else (none)) else ((flongref02_Width.f k t218).bind fun t233 => (if t233 > 0 then (if x3.length < 17592186044416 then (flongref03_Clean.l0 k x0 (x3 ++ [(⟨t218, Int.tmod ((rd_T44 x0 x4).f1) 4⟩ : S44)]) (wrap64 (x4 + 1))) else (none)) else (flongref03_Clean.l0 k x0 x3 (wrap64 (x4 + 1)))))))) else (none)) else (some x3)
def flongref03_Clean.f (k : Nat) (l0 : List (S44)) : Option ((List (S44))) := flongref03_Clean.l0 k l0 ([] : List (S44)) 0
theorem flongref03_Clean.mono_l : ∀ k, (∀ y0 y1 y2, LeO (flongref03_Clean.l0 k y0 y1 y2) (flongref03_Clean.l0 (k + 1) y0 y1 y2))
 | 0 => fun _ _ _ r h => by simp [flongref03_Clean.l0] at h
 | k + 1 => by
  have ih0 := flongref03_Clean.mono_l k
  ·intro y0 y1 y2
   unfold flongref03_Clean.l0
   repeat' first
   | (with_reducible exact ih0 _ _ _)
   | (with_reducible exact flongref02_Width.mono _ _)
   | (with_reducible exact LeO.refl _)
   | (with_reducible exact LeO.none _)
   | (with_reducible refine LeO.ite ?_ ?_)
   | (with_reducible refine LeO.bind ?_ (fun _ => ?_))
theorem flongref03_Clean.mono : ∀ a0 k, LeO (flongref03_Clean.f k a0) (flongref03_Clean.f (k + 1) a0) := by
 intro a0 k
 have ih0 := flongref03_Clean.mono_l k
 unfold flongref03_Clean.f
 repeat' first
   | (with_reducible exact ih0 _ _ _)
   | (with_reducible exact flongref02_Width.mono _ _)
   | (with_reducible exact LeO.refl _)
   | (with_reducible exact LeO.none _)
   | (with_reducible refine LeO.ite ?_ ?_)
   | (with_reducible refine LeO.bind ?_ (fun _ => ?_))
theorem flongref03_Clean.calls (k : Nat) (A0 : Option Addr) (c0 : Nat) (l0 : List (S44)) (r : List (S44)) (w : World) (hr0 : Kd.C k44 w A0 l0.length l0) (hc0 : l0.length ≤ c0) (h : flongref03_Clean.f k l0 = some r) :
  Calls Tryd.prog 42 #[.slice A0 l0.length c0] w fun e w' => ∃ v0_ : Value, e = .returned (v0_) ∧ Kd.R k44 44 w' w.heap.size (fun _ => True) v0_ r ∧ Below w.heap.size w w' := by
 have hu44 := Tryd.underlying44
 have HR0 := Aside0.mk hr0
 have HC0 := Aside0.mk hc0
 clear hr0 hc0
 have HB := Aside0.mk (Below.refl w.heap.size w)
 have H : (flongref03_Clean.l0 k l0 ([] : List (S44)) 0) = some r := h
 clear h
 have H' := Aside0.mk H
 clear H
 go_enter Tryd.func42, Tryd.ntmps42
 go_wp2
 go_loopg [3, 4] k (fun kq v3 v4 w' => ∃ (x3_1 : List (S44)) (x4_1 : Int), v4 = .int .i64 x4_1 ∧ Aside0 (flongref03_Clean.l0 kq l0 x3_1 x4_1 = some r) ∧ Aside0 (kq ≤ k) ∧ Aside0 (Kd.R k44 44 w' w.heap.size (fun _ => True) v3 x3_1) ∧ Aside0 (Below w.heap.size w w'))
 case atStart => exact ⟨(([] : List (S44))), (0), (by first | rfl | (simp; done) | (simp [*]; done)), H', ⟨Nat.le_refl _⟩, ⟨by first | exact Kd.R_nil _ _ _ _ _ | exact Kd.N_nil _ _ _ _ _ | exact Kd.V_nil _ _ _ _ _ | exact Kd.Q_nil _ _ _ _ _ | exact Kd.S_nil _ _ _ _ _⟩, ⟨by repeat (first | (with_reducible first | exact HB.out | apply below_alloc | apply pw_below_drewN | apply below_drew1) | exact HB.out)⟩⟩
 case round =>
  clear H'
  obtain ⟨x3_1, x4_1, rfl, HA, HK1, HO_3, HB⟩ := hrel
  cases gk with
  | zero => exact absurd HA.out (by simp [flongref03_Clean.l0])
  | succ k1 =>
   have H := HA.out
   clear HA
   simp only [flongref03_Clean.l0] at H
   by_cases c2 : x4_1 < (l0.length : Int)
   ·rw [if_pos c2] at H
    have c2b0 : decide (x4_1 < (l0.length : Int)) = true := decide_eq_true c2
    clear c2
    by_cases c3 : 0 ≤ x4_1
    ·rw [if_pos c3] at H
     have c3b0 : decide (0 ≤ x4_1) = true := decide_eq_true c3
     clear c3
     replace H := Option.bind_eq_some_iff.mp H
     obtain ⟨t218, A40, H⟩ := H
     replace H : (if ((rd_T44 l0 x4_1).f0) = 160 then (if (x3_1.length : Int) > 0 then (if x3_1.length < 17592186044416 then (flongref03_Clean.l0 k1 l0 (x3_1 ++ [(⟨32, Int.tmod ((rd_T44 l0 x4_1).f1) 4⟩ : S44)]) (wrap64 (x4_1 + 1))) else (none)) else ((flongref02_Width.f k1 32).bind fun t224 => (if t224 > 0 then (if x3_1.length < 17592186044416 then (flongref03_Clean.l0 k1 l0 (x3_1 ++ [(⟨32, Int.tmod ((rd_T44 l0 x4_1).f1) 4⟩ : S44)]) (wrap64 (x4_1 + 1))) else (none)) else (flongref03_Clean.l0 k1 l0 x3_1 (wrap64 (x4_1 + 1)))))) else (if (x3_1.length : Int) > 0 then (if x3_1.length < 17592186044416 then (flongref03_Clean.l0 k1 l0 (x3_1 ++ [(⟨t218, Int.tmod ((rd_T44 l0 x4_1).f1) 4⟩ : S44)]) (wrap64 (x4_1 + 1))) else (none)) else ((flongref02_Width.f k1 t218).bind fun t233 => (if t233 > 0 then (if x3_1.length < 17592186044416 then (flongref03_Clean.l0 k1 l0 (x3_1 ++ [(⟨t218, Int.tmod ((rd_T44 l0 x4_1).f1) 4⟩ : S44)]) (wrap64 (x4_1 + 1))) else (none)) else (flongref03_Clean.l0 k1 l0 x3_1 (wrap64 (x4_1 + 1))))))) = some r := H
     have A4 := Aside0.mk A40
     clear A40
     by_cases c5 : ((rd_T44 l0 x4_1).f0) = 160
     ·rw [if_pos c5] at H
      have c5b0 : (((rd_T44 l0 x4_1).f0) == 160) = true := beq_iff_eq.mpr c5
      have c5b1 : (((rd_T44 l0 x4_1).f0) != 160) = false := bne_eq_false_iff_eq.mpr c5
      clear c5
      by_cases c6 : (x3_1.length : Int) > 0
      ·rw [if_pos c6] at H
       have c6b0 : decide (0 < (x3_1.length : Int)) = true := decide_eq_true c6
       have c6b1 : decide (0 < x3_1.length) = true := decide_eq_true (by omega)
       clear c6
       by_cases c7 : x3_1.length < 17592186044416
       ·rw [if_pos c7] at H
        have LMc7 := Aside0.mk c7
        clear c7
        obtain ⟨y221, hy221⟩ : ∃ y_ : List (S44), y_ = (x3_1 ++ [(⟨32, Int.tmod ((rd_T44 l0 x4_1).f1) 4⟩ : S44)]) := ⟨_, rfl⟩
        replace H : (flongref03_Clean.l0 k1 l0 y221 (wrap64 (x4_1 + 1))) = some r := by first | (rw [hy221]; with_reducible exact H) | (have H2_ := (Option.bind_some _ _).symm.trans H; rw [hy221]; with_reducible exact H2_) | (have H2_ := (Option.bind_some _ _).symm.trans H; with_reducible exact H2_) | with_reducible exact H | (rw [hy221]; exact H) | exact H
        have Ny221 := Aside0.mk hy221
        clear hy221
        have H' := Aside0.mk H
        clear H
        have p217 : 0 ≤ (x4_1 : Int) := of_decide_eq_true (by first | (with_reducible assumption) | assumption)
        have q217 : x4_1 < (l0.length : Int) := of_decide_eq_true (by first | (with_reducible assumption) | assumption)
        obtain ⟨ad217, e217, hx217_0, hx217_1⟩ := at_T44 HR0.out x4_1 p217 q217
        cases e217
        replace hx217_0 := (HB.out.cell (World.block_lt_of_cell? w _ hx217_0)).trans hx217_0
        replace hx217_1 := (HB.out.cell (World.block_lt_of_cell? w _ hx217_1)).trans hx217_1
        replace p217 := eq_true p217
        replace q217 := eq_true q217
        go_wp2_with (first | ((with_reducible refine gate_callee (f := 59) rfl ?_); refine goesL_ (some 17) rfl rfl Tryd.func59 (by kernel_rfl) rfl #[.int .i32 ((rd_T44 l0 x4_1).f0)] rfl (by (try simp only [List.map_toArray, List.map_cons, List.map_nil]); first | done | rfl | (simp only [List.length_drop, List.length_take]; rfl)) ?_; (with_reducible refine (flongref02_Safe.calls ((rd_T44 l0 x4_1).f0) t218 _ A4.out).mono ?_); rintro e w' ⟨rfl, ⟨nd, rfl⟩⟩; refine ⟨_, rfl, ?_⟩; have p219 : 0 ≤ (x4_1 : Int) := of_decide_eq_true (by first | (with_reducible assumption) | assumption); have q219 : x4_1 < (l0.length : Int) := of_decide_eq_true (by first | (with_reducible assumption) | assumption); obtain ⟨ad219, e219, hx219_0, hx219_1⟩ := at_T44 HR0.out x4_1 p219 q219; obtain rfl : ad217 = ad219 := (by injection e219); replace hx219_0 := (HB.out.cell (World.block_lt_of_cell? w _ hx219_0)).trans hx219_0; replace hx219_1 := (HB.out.cell (World.block_lt_of_cell? w _ hx219_1)).trans hx219_1; replace p219 := eq_true p219; replace q219 := eq_true q219; obtain ⟨Ao8, co8, eo8⟩ := Kd.R_slice HO_3.out; subst eo8; have p220 : 0 ≤ (x4_1 : Int) := of_decide_eq_true (by first | (with_reducible assumption) | assumption); have q220 : x4_1 < (l0.length : Int) := of_decide_eq_true (by first | (with_reducible assumption) | assumption); obtain ⟨ad220, e220, hx220_0, hx220_1⟩ := at_T44 HR0.out x4_1 p220 q220; obtain rfl : ad217 = ad220 := (by injection e220); replace hx220_0 := (HB.out.cell (World.block_lt_of_cell? w _ hx220_0)).trans hx220_0; replace hx220_1 := (HB.out.cell (World.block_lt_of_cell? w _ hx220_1)).trans hx220_1; replace p220 := eq_true p220; replace q220 := eq_true q220) | ((with_reducible refine gate_builtin (b := .append) (xs := #[.tmp 32, .tmp 41]) rfl ?_); at_builtin; refine Kd.R_append k44 (w0 := w) w.heap.size rfl (.tmp 32) (.tmp 41) 33 44 (.agg #[(.int .i32 0), (.int .u8 0)]) 8 rfl Tryd.underlying33 info44 rfl (by decide) (by omega) (.slice Ao8 x3_1.length co8) x3_1 (⟨32, Int.tmod ((rd_T44 l0 x4_1).f1) 4⟩ : S44) [.int .i32 32, .int .u8 (Int.tmod ((rd_T44 l0 x4_1).f1) 4)] (fun _ => True) (fun _ => False) rfl rfl ?aP (fun _ hk => hk.elim) ?aF ?aO ?aB ?aS ?aL ?_; (case aP => exact k44_mkM _ _ _ (⟨32, Int.tmod ((rd_T44 l0 x4_1).f1) 4⟩ : S44)); (case aB => exact (by repeat (first | (with_reducible first | exact HB.out | apply below_alloc | apply pw_below_drewN | apply below_drew1) | exact HB.out))); (case aF => exact (fun _ _ => trivial)); (case aO => exact (by (with_reducible repeat (first | apply Kd.R_alloc | apply Kd.R_drewN | apply Kd.R_drew)); exact HO_3.out)); (case aS => exact (below_size (by repeat (first | (with_reducible first | exact HB.out | apply below_alloc | apply pw_below_drewN | apply below_drew1) | exact HB.out)))); (case aL => have := LMc7.out; omega); intro v222 w9 ho hb hg hat; rw [← Ny221.out] at ho; have n0_ := Aside0.mk (hb); have n1_ := Aside0.mk (ho); clear HB; clear HO_3; have HB := n0_; have HO223 := n1_; clear n0_ n1_; clear ho hb hg hat))
        go_roundg k1
        case measure => have := HK1.out; omega
        case rel => exact ⟨(y221), (wrap64 (x4_1 + 1)), (by first | rfl | (simp; done) | (simp [*]; done)), H', ⟨by have := HK1.out; omega⟩, ⟨by (with_reducible repeat (first | apply Kd.R_alloc | apply Kd.R_drewN | apply Kd.R_drew)); exact HO223.out⟩, ⟨by repeat (first | (with_reducible first | exact HB.out | apply below_alloc | apply pw_below_drewN | apply below_drew1) | exact HB.out)⟩⟩
       ·rw [if_neg c7] at H
        exact absurd H (by simp)
      ·rw [if_neg c6] at H
       have c6b0 : decide (0 < (x3_1.length : Int)) = false := decide_eq_false c6
       have c6b1 : decide (0 < x3_1.length) = false := decide_eq_false (by omega)
       clear c6
       replace H := Option.bind_eq_some_iff.mp H
       obtain ⟨t224, A100, H⟩ := H
       replace H : (if t224 > 0 then (if x3_1.length < 17592186044416 then (flongref03_Clean.l0 k1 l0 (x3_1 ++ [(⟨32, Int.tmod ((rd_T44 l0 x4_1).f1) 4⟩ : S44)]) (wrap64 (x4_1 + 1))) else (none)) else (flongref03_Clean.l0 k1 l0 x3_1 (wrap64 (x4_1 + 1)))) = some r := H
       have A10 := Aside0.mk A100
       clear A100
       by_cases c11 : t224 > 0
       ·rw [if_pos c11] at H
        have c11b0 : decide (0 < t224) = true := decide_eq_true c11
        clear c11
        by_cases c12 : x3_1.length < 17592186044416
        ·rw [if_pos c12] at H
         have LMc12 := Aside0.mk c12
         clear c12
         obtain ⟨y226, hy226⟩ : ∃ y_ : List (S44), y_ = (x3_1 ++ [(⟨32, Int.tmod ((rd_T44 l0 x4_1).f1) 4⟩ : S44)]) := ⟨_, rfl⟩
         replace H : (flongref03_Clean.l0 k1 l0 y226 (wrap64 (x4_1 + 1))) = some r := by first | (rw [hy226]; with_reducible exact H) | (have H2_ := (Option.bind_some _ _).symm.trans H; rw [hy226]; with_reducible exact H2_) | (have H2_ := (Option.bind_some _ _).symm.trans H; with_reducible exact H2_) | with_reducible exact H | (rw [hy226]; exact H) | exact H
         have Ny226 := Aside0.mk hy226
         clear hy226
         have H' := Aside0.mk H
         clear H
         have p217 : 0 ≤ (x4_1 : Int) := of_decide_eq_true (by first | (with_reducible assumption) | assumption)
         have q217 : x4_1 < (l0.length : Int) := of_decide_eq_true (by first | (with_reducible assumption) | assumption)
         obtain ⟨ad217, e217, hx217_0, hx217_1⟩ := at_T44 HR0.out x4_1 p217 q217
         cases e217
         replace hx217_0 := (HB.out.cell (World.block_lt_of_cell? w _ hx217_0)).trans hx217_0
         replace hx217_1 := (HB.out.cell (World.block_lt_of_cell? w _ hx217_1)).trans hx217_1
         replace p217 := eq_true p217
         replace q217 := eq_true q217
         go_wp2_with (first | ((with_reducible refine gate_callee (f := 59) rfl ?_); refine goesL_ (some 17) rfl rfl Tryd.func59 (by kernel_rfl) rfl #[.int .i32 ((rd_T44 l0 x4_1).f0)] rfl (by (try simp only [List.map_toArray, List.map_cons, List.map_nil]); first | done | rfl | (simp only [List.length_drop, List.length_take]; rfl)) ?_; (with_reducible refine (flongref02_Safe.calls ((rd_T44 l0 x4_1).f0) t218 _ A4.out).mono ?_); rintro e w' ⟨rfl, ⟨nd, rfl⟩⟩; refine ⟨_, rfl, ?_⟩; have p219 : 0 ≤ (x4_1 : Int) := of_decide_eq_true (by first | (with_reducible assumption) | assumption); have q219 : x4_1 < (l0.length : Int) := of_decide_eq_true (by first | (with_reducible assumption) | assumption); obtain ⟨ad219, e219, hx219_0, hx219_1⟩ := at_T44 HR0.out x4_1 p219 q219; obtain rfl : ad217 = ad219 := (by injection e219); replace hx219_0 := (HB.out.cell (World.block_lt_of_cell? w _ hx219_0)).trans hx219_0; replace hx219_1 := (HB.out.cell (World.block_lt_of_cell? w _ hx219_1)).trans hx219_1; replace p219 := eq_true p219; replace q219 := eq_true q219; obtain ⟨Ao13, co13, eo13⟩ := Kd.R_slice HO_3.out; subst eo13) | (go_at_call 43; (with_reducible refine (flongref02_Width.calls k1 32 t224 _ A10.out).mono ?_); rintro e w14 ⟨rfl, hb⟩; have n0_ := Aside0.mk (Kd.R_below (by (with_reducible repeat (first | apply Kd.R_alloc | apply Kd.R_drewN | apply Kd.R_drew)); exact HO_3.out) hb); have n1_ := Aside0.mk (below_step (by repeat (first | (with_reducible first | exact HB.out | apply below_alloc | apply pw_below_drewN | apply below_drew1) | exact HB.out)) hb); clear HO_3; clear HB; have HO_3 := n0_; have HB := n1_; clear n0_ n1_; (try clear hb); (try clear hb2); (try clear hk); (try clear hi); have p225 : 0 ≤ (x4_1 : Int) := of_decide_eq_true (by first | (with_reducible assumption) | assumption); have q225 : x4_1 < (l0.length : Int) := of_decide_eq_true (by first | (with_reducible assumption) | assumption); obtain ⟨ad225, e225, hx225_0, hx225_1⟩ := at_T44 HR0.out x4_1 p225 q225; obtain rfl : ad217 = ad225 := (by injection e225); replace hx225_0 := (HB.out.cell (World.block_lt_of_cell? w _ hx225_0)).trans hx225_0; replace hx225_1 := (HB.out.cell (World.block_lt_of_cell? w _ hx225_1)).trans hx225_1; replace p225 := eq_true p225; replace q225 := eq_true q225) | ((with_reducible refine gate_builtin (b := .append) (xs := #[.tmp 32, .tmp 41]) rfl ?_); at_builtin; refine Kd.R_append k44 (w0 := w) w.heap.size rfl (.tmp 32) (.tmp 41) 33 44 (.agg #[(.int .i32 0), (.int .u8 0)]) 8 rfl Tryd.underlying33 info44 rfl (by decide) (by omega) (.slice Ao13 x3_1.length co13) x3_1 (⟨32, Int.tmod ((rd_T44 l0 x4_1).f1) 4⟩ : S44) [.int .i32 32, .int .u8 (Int.tmod ((rd_T44 l0 x4_1).f1) 4)] (fun _ => True) (fun _ => False) rfl rfl ?aP (fun _ hk => hk.elim) ?aF ?aO ?aB ?aS ?aL ?_; (case aP => exact k44_mkM _ _ _ (⟨32, Int.tmod ((rd_T44 l0 x4_1).f1) 4⟩ : S44)); (case aB => exact (by repeat (first | (with_reducible first | exact HB.out | apply below_alloc | apply pw_below_drewN | apply below_drew1) | exact HB.out))); (case aF => exact (fun _ _ => trivial)); (case aO => exact (by (with_reducible repeat (first | apply Kd.R_alloc | apply Kd.R_drewN | apply Kd.R_drew)); exact HO_3.out)); (case aS => exact (below_size (by repeat (first | (with_reducible first | exact HB.out | apply below_alloc | apply pw_below_drewN | apply below_drew1) | exact HB.out)))); (case aL => have := LMc12.out; omega); intro v227 w15 ho hb hg hat; rw [← Ny226.out] at ho; have n0_ := Aside0.mk (hb); have n1_ := Aside0.mk (ho); clear HB; clear HO_3; have HB := n0_; have HO228 := n1_; clear n0_ n1_; clear ho hb hg hat))
         go_roundg k1
         case measure => have := HK1.out; omega
         case rel => exact ⟨(y226), (wrap64 (x4_1 + 1)), (by first | rfl | (simp; done) | (simp [*]; done)), H', ⟨by have := HK1.out; omega⟩, ⟨by (with_reducible repeat (first | apply Kd.R_alloc | apply Kd.R_drewN | apply Kd.R_drew)); exact HO228.out⟩, ⟨by repeat (first | (with_reducible first | exact HB.out | apply below_alloc | apply pw_below_drewN | apply below_drew1) | exact HB.out)⟩⟩
        ·rw [if_neg c12] at H
         exact absurd H (by simp)
       ·rw [if_neg c11] at H
        have c11b0 : decide (0 < t224) = false := decide_eq_false c11
        clear c11
        have H' := Aside0.mk H
        clear H
        have p217 : 0 ≤ (x4_1 : Int) := of_decide_eq_true (by first | (with_reducible assumption) | assumption)
        have q217 : x4_1 < (l0.length : Int) := of_decide_eq_true (by first | (with_reducible assumption) | assumption)
        obtain ⟨ad217, e217, hx217_0, hx217_1⟩ := at_T44 HR0.out x4_1 p217 q217
        cases e217
        replace hx217_0 := (HB.out.cell (World.block_lt_of_cell? w _ hx217_0)).trans hx217_0
        replace hx217_1 := (HB.out.cell (World.block_lt_of_cell? w _ hx217_1)).trans hx217_1
        replace p217 := eq_true p217
        replace q217 := eq_true q217
        go_wp2_with (first | ((with_reducible refine gate_callee (f := 59) rfl ?_); refine goesL_ (some 17) rfl rfl Tryd.func59 (by kernel_rfl) rfl #[.int .i32 ((rd_T44 l0 x4_1).f0)] rfl (by (try simp only [List.map_toArray, List.map_cons, List.map_nil]); first | done | rfl | (simp only [List.length_drop, List.length_take]; rfl)) ?_; (with_reducible refine (flongref02_Safe.calls ((rd_T44 l0 x4_1).f0) t218 _ A4.out).mono ?_); rintro e w' ⟨rfl, ⟨nd, rfl⟩⟩; refine ⟨_, rfl, ?_⟩; have p219 : 0 ≤ (x4_1 : Int) := of_decide_eq_true (by first | (with_reducible assumption) | assumption); have q219 : x4_1 < (l0.length : Int) := of_decide_eq_true (by first | (with_reducible assumption) | assumption); obtain ⟨ad219, e219, hx219_0, hx219_1⟩ := at_T44 HR0.out x4_1 p219 q219; obtain rfl : ad217 = ad219 := (by injection e219); replace hx219_0 := (HB.out.cell (World.block_lt_of_cell? w _ hx219_0)).trans hx219_0; replace hx219_1 := (HB.out.cell (World.block_lt_of_cell? w _ hx219_1)).trans hx219_1; replace p219 := eq_true p219; replace q219 := eq_true q219; obtain ⟨Ao16, co16, eo16⟩ := Kd.R_slice HO_3.out; subst eo16) | (go_at_call 43; (with_reducible refine (flongref02_Width.calls k1 32 t224 _ A10.out).mono ?_); rintro e w17 ⟨rfl, hb⟩; have n0_ := Aside0.mk (Kd.R_below (by (with_reducible repeat (first | apply Kd.R_alloc | apply Kd.R_drewN | apply Kd.R_drew)); exact HO_3.out) hb); have n1_ := Aside0.mk (below_step (by repeat (first | (with_reducible first | exact HB.out | apply below_alloc | apply pw_below_drewN | apply below_drew1) | exact HB.out)) hb); clear HO_3; clear HB; have HO_3 := n0_; have HB := n1_; clear n0_ n1_; (try clear hb); (try clear hb2); (try clear hk); (try clear hi)))
        go_roundg k1
        case measure => have := HK1.out; omega
        case rel => exact ⟨(x3_1), (wrap64 (x4_1 + 1)), (by first | rfl | (simp; done) | (simp [*]; done)), H', ⟨by have := HK1.out; omega⟩, ⟨by (with_reducible repeat (first | apply Kd.R_alloc | apply Kd.R_drewN | apply Kd.R_drew)); exact HO_3.out⟩, ⟨by repeat (first | (with_reducible first | exact HB.out | apply below_alloc | apply pw_below_drewN | apply below_drew1) | exact HB.out)⟩⟩
     ·rw [if_neg c5] at H
      have c5b0 : (((rd_T44 l0 x4_1).f0) == 160) = false := beq_eq_false_iff_ne.mpr c5
      have c5b1 : (((rd_T44 l0 x4_1).f0) != 160) = true := bne_iff_ne.mpr c5
      by_cases c18 : (x3_1.length : Int) > 0
      ·rw [if_pos c18] at H
       have c18b0 : decide (0 < (x3_1.length : Int)) = true := decide_eq_true c18
       have c18b1 : decide (0 < x3_1.length) = true := decide_eq_true (by omega)
       clear c18
       by_cases c19 : x3_1.length < 17592186044416
       ·rw [if_pos c19] at H
        have LMc19 := Aside0.mk c19
        clear c19
        obtain ⟨y230, hy230⟩ : ∃ y_ : List (S44), y_ = (x3_1 ++ [(⟨t218, Int.tmod ((rd_T44 l0 x4_1).f1) 4⟩ : S44)]) := ⟨_, rfl⟩
        replace H : (flongref03_Clean.l0 k1 l0 y230 (wrap64 (x4_1 + 1))) = some r := by first | (rw [hy230]; with_reducible exact H) | (have H2_ := (Option.bind_some _ _).symm.trans H; rw [hy230]; with_reducible exact H2_) | (have H2_ := (Option.bind_some _ _).symm.trans H; with_reducible exact H2_) | with_reducible exact H | (rw [hy230]; exact H) | exact H
        have Ny230 := Aside0.mk hy230
        clear hy230
        have H' := Aside0.mk H
        clear H
        have p217 : 0 ≤ (x4_1 : Int) := of_decide_eq_true (by first | (with_reducible assumption) | assumption)
        have q217 : x4_1 < (l0.length : Int) := of_decide_eq_true (by first | (with_reducible assumption) | assumption)
        obtain ⟨ad217, e217, hx217_0, hx217_1⟩ := at_T44 HR0.out x4_1 p217 q217
        cases e217
        replace hx217_0 := (HB.out.cell (World.block_lt_of_cell? w _ hx217_0)).trans hx217_0
        replace hx217_1 := (HB.out.cell (World.block_lt_of_cell? w _ hx217_1)).trans hx217_1
        replace p217 := eq_true p217
        replace q217 := eq_true q217
        go_wp2_with (first | ((with_reducible refine gate_callee (f := 59) rfl ?_); refine goesL_ (some 17) rfl rfl Tryd.func59 (by kernel_rfl) rfl #[.int .i32 ((rd_T44 l0 x4_1).f0)] rfl (by (try simp only [List.map_toArray, List.map_cons, List.map_nil]); first | done | rfl | (simp only [List.length_drop, List.length_take]; rfl)) ?_; (with_reducible refine (flongref02_Safe.calls ((rd_T44 l0 x4_1).f0) t218 _ A4.out).mono ?_); rintro e w' ⟨rfl, ⟨nd, rfl⟩⟩; refine ⟨_, rfl, ?_⟩; have p219 : 0 ≤ (x4_1 : Int) := of_decide_eq_true (by first | (with_reducible assumption) | assumption); have q219 : x4_1 < (l0.length : Int) := of_decide_eq_true (by first | (with_reducible assumption) | assumption); obtain ⟨ad219, e219, hx219_0, hx219_1⟩ := at_T44 HR0.out x4_1 p219 q219; obtain rfl : ad217 = ad219 := (by injection e219); replace hx219_0 := (HB.out.cell (World.block_lt_of_cell? w _ hx219_0)).trans hx219_0; replace hx219_1 := (HB.out.cell (World.block_lt_of_cell? w _ hx219_1)).trans hx219_1; replace p219 := eq_true p219; replace q219 := eq_true q219; obtain ⟨Ao20, co20, eo20⟩ := Kd.R_slice HO_3.out; subst eo20; have p229 : 0 ≤ (x4_1 : Int) := of_decide_eq_true (by first | (with_reducible assumption) | assumption); have q229 : x4_1 < (l0.length : Int) := of_decide_eq_true (by first | (with_reducible assumption) | assumption); obtain ⟨ad229, e229, hx229_0, hx229_1⟩ := at_T44 HR0.out x4_1 p229 q229; obtain rfl : ad217 = ad229 := (by injection e229); replace hx229_0 := (HB.out.cell (World.block_lt_of_cell? w _ hx229_0)).trans hx229_0; replace hx229_1 := (HB.out.cell (World.block_lt_of_cell? w _ hx229_1)).trans hx229_1; replace p229 := eq_true p229; replace q229 := eq_true q229) | ((with_reducible refine gate_builtin (b := .append) (xs := #[.tmp 32, .tmp 41]) rfl ?_); at_builtin; refine Kd.R_append k44 (w0 := w) w.heap.size rfl (.tmp 32) (.tmp 41) 33 44 (.agg #[(.int .i32 0), (.int .u8 0)]) 8 rfl Tryd.underlying33 info44 rfl (by decide) (by omega) (.slice Ao20 x3_1.length co20) x3_1 (⟨t218, Int.tmod ((rd_T44 l0 x4_1).f1) 4⟩ : S44) [.int .i32 t218, .int .u8 (Int.tmod ((rd_T44 l0 x4_1).f1) 4)] (fun _ => True) (fun _ => False) rfl rfl ?aP (fun _ hk => hk.elim) ?aF ?aO ?aB ?aS ?aL ?_; (case aP => exact k44_mkM _ _ _ (⟨t218, Int.tmod ((rd_T44 l0 x4_1).f1) 4⟩ : S44)); (case aB => exact (by repeat (first | (with_reducible first | exact HB.out | apply below_alloc | apply pw_below_drewN | apply below_drew1) | exact HB.out))); (case aF => exact (fun _ _ => trivial)); (case aO => exact (by (with_reducible repeat (first | apply Kd.R_alloc | apply Kd.R_drewN | apply Kd.R_drew)); exact HO_3.out)); (case aS => exact (below_size (by repeat (first | (with_reducible first | exact HB.out | apply below_alloc | apply pw_below_drewN | apply below_drew1) | exact HB.out)))); (case aL => have := LMc19.out; omega); intro v231 w21 ho hb hg hat; rw [← Ny230.out] at ho; have n0_ := Aside0.mk (hb); have n1_ := Aside0.mk (ho); clear HB; clear HO_3; have HB := n0_; have HO232 := n1_; clear n0_ n1_; clear ho hb hg hat))
        go_roundg k1
        case measure => have := HK1.out; omega
        case rel => exact ⟨(y230), (wrap64 (x4_1 + 1)), (by first | rfl | (simp; done) | (simp [*]; done)), H', ⟨by have := HK1.out; omega⟩, ⟨by (with_reducible repeat (first | apply Kd.R_alloc | apply Kd.R_drewN | apply Kd.R_drew)); exact HO232.out⟩, ⟨by repeat (first | (with_reducible first | exact HB.out | apply below_alloc | apply pw_below_drewN | apply below_drew1) | exact HB.out)⟩⟩
       ·rw [if_neg c19] at H
        exact absurd H (by simp)
      ·rw [if_neg c18] at H
       have c18b0 : decide (0 < (x3_1.length : Int)) = false := decide_eq_false c18
       have c18b1 : decide (0 < x3_1.length) = false := decide_eq_false (by omega)
       clear c18
       replace H := Option.bind_eq_some_iff.mp H
       obtain ⟨t233, A220, H⟩ := H
       replace H : (if t233 > 0 then (if x3_1.length < 17592186044416 then (flongref03_Clean.l0 k1 l0 (x3_1 ++ [(⟨t218, Int.tmod ((rd_T44 l0 x4_1).f1) 4⟩ : S44)]) (wrap64 (x4_1 + 1))) else (none)) else (flongref03_Clean.l0 k1 l0 x3_1 (wrap64 (x4_1 + 1)))) = some r := H
       have A22 := Aside0.mk A220
       clear A220
       by_cases c23 : t233 > 0
       ·rw [if_pos c23] at H
        have c23b0 : decide (0 < t233) = true := decide_eq_true c23
        clear c23
        by_cases c24 : x3_1.length < 17592186044416
        ·rw [if_pos c24] at H
         have LMc24 := Aside0.mk c24
         clear c24
         obtain ⟨y235, hy235⟩ : ∃ y_ : List (S44), y_ = (x3_1 ++ [(⟨t218, Int.tmod ((rd_T44 l0 x4_1).f1) 4⟩ : S44)]) := ⟨_, rfl⟩
         replace H : (flongref03_Clean.l0 k1 l0 y235 (wrap64 (x4_1 + 1))) = some r := by first | (rw [hy235]; with_reducible exact H) | (have H2_ := (Option.bind_some _ _).symm.trans H; rw [hy235]; with_reducible exact H2_) | (have H2_ := (Option.bind_some _ _).symm.trans H; with_reducible exact H2_) | with_reducible exact H | (rw [hy235]; exact H) | exact H
         have Ny235 := Aside0.mk hy235
         clear hy235
         have H' := Aside0.mk H
         clear H
         have p217 : 0 ≤ (x4_1 : Int) := of_decide_eq_true (by first | (with_reducible assumption) | assumption)
         have q217 : x4_1 < (l0.length : Int) := of_decide_eq_true (by first | (with_reducible assumption) | assumption)
         obtain ⟨ad217, e217, hx217_0, hx217_1⟩ := at_T44 HR0.out x4_1 p217 q217
         cases e217
         replace hx217_0 := (HB.out.cell (World.block_lt_of_cell? w _ hx217_0)).trans hx217_0
         replace hx217_1 := (HB.out.cell (World.block_lt_of_cell? w _ hx217_1)).trans hx217_1
         replace p217 := eq_true p217
         replace q217 := eq_true q217
         go_wp2_with (first | ((with_reducible refine gate_callee (f := 59) rfl ?_); refine goesL_ (some 17) rfl rfl Tryd.func59 (by kernel_rfl) rfl #[.int .i32 ((rd_T44 l0 x4_1).f0)] rfl (by (try simp only [List.map_toArray, List.map_cons, List.map_nil]); first | done | rfl | (simp only [List.length_drop, List.length_take]; rfl)) ?_; (with_reducible refine (flongref02_Safe.calls ((rd_T44 l0 x4_1).f0) t218 _ A4.out).mono ?_); rintro e w' ⟨rfl, ⟨nd, rfl⟩⟩; refine ⟨_, rfl, ?_⟩; have p219 : 0 ≤ (x4_1 : Int) := of_decide_eq_true (by first | (with_reducible assumption) | assumption); have q219 : x4_1 < (l0.length : Int) := of_decide_eq_true (by first | (with_reducible assumption) | assumption); obtain ⟨ad219, e219, hx219_0, hx219_1⟩ := at_T44 HR0.out x4_1 p219 q219; obtain rfl : ad217 = ad219 := (by injection e219); replace hx219_0 := (HB.out.cell (World.block_lt_of_cell? w _ hx219_0)).trans hx219_0; replace hx219_1 := (HB.out.cell (World.block_lt_of_cell? w _ hx219_1)).trans hx219_1; replace p219 := eq_true p219; replace q219 := eq_true q219; obtain ⟨Ao25, co25, eo25⟩ := Kd.R_slice HO_3.out; subst eo25) | (go_at_call 43; (with_reducible refine (flongref02_Width.calls k1 t218 t233 _ A22.out).mono ?_); rintro e w26 ⟨rfl, hb⟩; have n0_ := Aside0.mk (Kd.R_below (by (with_reducible repeat (first | apply Kd.R_alloc | apply Kd.R_drewN | apply Kd.R_drew)); exact HO_3.out) hb); have n1_ := Aside0.mk (below_step (by repeat (first | (with_reducible first | exact HB.out | apply below_alloc | apply pw_below_drewN | apply below_drew1) | exact HB.out)) hb); clear HO_3; clear HB; have HO_3 := n0_; have HB := n1_; clear n0_ n1_; (try clear hb); (try clear hb2); (try clear hk); (try clear hi); have p234 : 0 ≤ (x4_1 : Int) := of_decide_eq_true (by first | (with_reducible assumption) | assumption); have q234 : x4_1 < (l0.length : Int) := of_decide_eq_true (by first | (with_reducible assumption) | assumption); obtain ⟨ad234, e234, hx234_0, hx234_1⟩ := at_T44 HR0.out x4_1 p234 q234; obtain rfl : ad217 = ad234 := (by injection e234); replace hx234_0 := (HB.out.cell (World.block_lt_of_cell? w _ hx234_0)).trans hx234_0; replace hx234_1 := (HB.out.cell (World.block_lt_of_cell? w _ hx234_1)).trans hx234_1; replace p234 := eq_true p234; replace q234 := eq_true q234) | ((with_reducible refine gate_builtin (b := .append) (xs := #[.tmp 32, .tmp 41]) rfl ?_); at_builtin; refine Kd.R_append k44 (w0 := w) w.heap.size rfl (.tmp 32) (.tmp 41) 33 44 (.agg #[(.int .i32 0), (.int .u8 0)]) 8 rfl Tryd.underlying33 info44 rfl (by decide) (by omega) (.slice Ao25 x3_1.length co25) x3_1 (⟨t218, Int.tmod ((rd_T44 l0 x4_1).f1) 4⟩ : S44) [.int .i32 t218, .int .u8 (Int.tmod ((rd_T44 l0 x4_1).f1) 4)] (fun _ => True) (fun _ => False) rfl rfl ?aP (fun _ hk => hk.elim) ?aF ?aO ?aB ?aS ?aL ?_; (case aP => exact k44_mkM _ _ _ (⟨t218, Int.tmod ((rd_T44 l0 x4_1).f1) 4⟩ : S44)); (case aB => exact (by repeat (first | (with_reducible first | exact HB.out | apply below_alloc | apply pw_below_drewN | apply below_drew1) | exact HB.out))); (case aF => exact (fun _ _ => trivial)); (case aO => exact (by (with_reducible repeat (first | apply Kd.R_alloc | apply Kd.R_drewN | apply Kd.R_drew)); exact HO_3.out)); (case aS => exact (below_size (by repeat (first | (with_reducible first | exact HB.out | apply below_alloc | apply pw_below_drewN | apply below_drew1) | exact HB.out)))); (case aL => have := LMc24.out; omega); intro v236 w27 ho hb hg hat; rw [← Ny235.out] at ho; have n0_ := Aside0.mk (hb); have n1_ := Aside0.mk (ho); clear HB; clear HO_3; have HB := n0_; have HO237 := n1_; clear n0_ n1_; clear ho hb hg hat))
         go_roundg k1
         case measure => have := HK1.out; omega
         case rel => exact ⟨(y235), (wrap64 (x4_1 + 1)), (by first | rfl | (simp; done) | (simp [*]; done)), H', ⟨by have := HK1.out; omega⟩, ⟨by (with_reducible repeat (first | apply Kd.R_alloc | apply Kd.R_drewN | apply Kd.R_drew)); exact HO237.out⟩, ⟨by repeat (first | (with_reducible first | exact HB.out | apply below_alloc | apply pw_below_drewN | apply below_drew1) | exact HB.out)⟩⟩
        ·rw [if_neg c24] at H
         exact absurd H (by simp)
       ·rw [if_neg c23] at H
        have c23b0 : decide (0 < t233) = false := decide_eq_false c23
        clear c23
        have H' := Aside0.mk H
        clear H
        have p217 : 0 ≤ (x4_1 : Int) := of_decide_eq_true (by first | (with_reducible assumption) | assumption)
        have q217 : x4_1 < (l0.length : Int) := of_decide_eq_true (by first | (with_reducible assumption) | assumption)
        obtain ⟨ad217, e217, hx217_0, hx217_1⟩ := at_T44 HR0.out x4_1 p217 q217
        cases e217
        replace hx217_0 := (HB.out.cell (World.block_lt_of_cell? w _ hx217_0)).trans hx217_0
        replace hx217_1 := (HB.out.cell (World.block_lt_of_cell? w _ hx217_1)).trans hx217_1
        replace p217 := eq_true p217
        replace q217 := eq_true q217
        go_wp2_with (first | ((with_reducible refine gate_callee (f := 59) rfl ?_); refine goesL_ (some 17) rfl rfl Tryd.func59 (by kernel_rfl) rfl #[.int .i32 ((rd_T44 l0 x4_1).f0)] rfl (by (try simp only [List.map_toArray, List.map_cons, List.map_nil]); first | done | rfl | (simp only [List.length_drop, List.length_take]; rfl)) ?_; (with_reducible refine (flongref02_Safe.calls ((rd_T44 l0 x4_1).f0) t218 _ A4.out).mono ?_); rintro e w' ⟨rfl, ⟨nd, rfl⟩⟩; refine ⟨_, rfl, ?_⟩; have p219 : 0 ≤ (x4_1 : Int) := of_decide_eq_true (by first | (with_reducible assumption) | assumption); have q219 : x4_1 < (l0.length : Int) := of_decide_eq_true (by first | (with_reducible assumption) | assumption); obtain ⟨ad219, e219, hx219_0, hx219_1⟩ := at_T44 HR0.out x4_1 p219 q219; obtain rfl : ad217 = ad219 := (by injection e219); replace hx219_0 := (HB.out.cell (World.block_lt_of_cell? w _ hx219_0)).trans hx219_0; replace hx219_1 := (HB.out.cell (World.block_lt_of_cell? w _ hx219_1)).trans hx219_1; replace p219 := eq_true p219; replace q219 := eq_true q219; obtain ⟨Ao28, co28, eo28⟩ := Kd.R_slice HO_3.out; subst eo28) | (go_at_call 43; (with_reducible refine (flongref02_Width.calls k1 t218 t233 _ A22.out).mono ?_); rintro e w29 ⟨rfl, hb⟩; have n0_ := Aside0.mk (Kd.R_below (by (with_reducible repeat (first | apply Kd.R_alloc | apply Kd.R_drewN | apply Kd.R_drew)); exact HO_3.out) hb); have n1_ := Aside0.mk (below_step (by repeat (first | (with_reducible first | exact HB.out | apply below_alloc | apply pw_below_drewN | apply below_drew1) | exact HB.out)) hb); clear HO_3; clear HB; have HO_3 := n0_; have HB := n1_; clear n0_ n1_; (try clear hb); (try clear hb2); (try clear hk); (try clear hi)))
        go_roundg k1
        case measure => have := HK1.out; omega
        case rel => exact ⟨(x3_1), (wrap64 (x4_1 + 1)), (by first | rfl | (simp; done) | (simp [*]; done)), H', ⟨by have := HK1.out; omega⟩, ⟨by (with_reducible repeat (first | apply Kd.R_alloc | apply Kd.R_drewN | apply Kd.R_drew)); exact HO_3.out⟩, ⟨by repeat (first | (with_reducible first | exact HB.out | apply below_alloc | apply pw_below_drewN | apply below_drew1) | exact HB.out)⟩⟩
    ·rw [if_neg c3] at H
     exact absurd H (by simp)
   ·rw [if_neg c2] at H
    have c2b0 : decide (x4_1 < (l0.length : Int)) = false := decide_eq_false c2
    clear c2
    obtain rfl := Option.some.inj H
    go_wp2
    go_ret
    exact ⟨_, by first | rfl | (simp [errW_none, errW_some] <;> rfl) | (simp [*, errW_none, errW_some] <;> rfl), by (with_reducible repeat (first | apply Kd.R_alloc | apply Kd.R_drewN | apply Kd.R_drew)); exact HO_3.out, by repeat (first | (with_reducible first | exact HB.out | apply below_alloc | apply pw_below_drewN | apply below_drew1) | exact HB.out)⟩

/-! ### flongref17_Normal: function 25 -/
mutual
def flongref17_Normal.l0 : Nat → List (S44) → List (S44) → Int → Option ((List (S44)))
 | 0, _, _, _ => none
 | k + 1, x3, x4, x5 => if x5 < (x3.length : Int) then (if 0 ≤ x5 then (if x5 > 0 then ((flongref02_Width.f k ((rd_T44 x3 x5).f0)).bind fun t246 => (flongref17_Normal.j1 k x3 x4 x5 (t246 == 0) ((rd_T44 x3 x5).f0) ((rd_T44 x3 x5).f1))) else (flongref17_Normal.j1 k x3 x4 x5 false ((rd_T44 x3 x5).f0) ((rd_T44 x3 x5).f1))) else (none)) else (some x4)
def flongref17_Normal.j1 : Nat → List (S44) → List (S44) → Int → Bool → Int → Int → Option ((List (S44)))
 | 0, _, _, _, _, _, _ => none
 | k + 1, x3, x4, x5, x27, x246000, x246001 => if x27 = true then (if 0 ≤ (wrap64 (x5 - 1)) then (if (wrap64 (x5 - 1)) < (x4.length : Int) then (if x246000 = 32 then (if x4.length < 17592186044416 then (flongref17_Normal.l0 k x3 (x4 ++ [(⟨x246000, 0⟩ : S44)]) (wrap64 (x5 + 1))) else (none)) else (if x4.length < 17592186044416 then (flongref17_Normal.l0 k x3 (x4 ++ [(⟨x246000, (rd_T44 x4 (wrap64 (x5 - 1))).f1⟩ : S44)]) (wrap64 (x5 + 1))) else (none))) else (none)) else (none)) else (if x246000 = 32 then (if x4.length < 17592186044416 then (flongref17_Normal.l0 k x3 (x4 ++ [(⟨x246000, 0⟩ : S44)]) (wrap64 (x5 + 1))) else (none)) else (if x4.length < 17592186044416 then (flongref17_Normal.l0 k x3 (x4 ++ [(⟨x246000, x246001⟩ : S44)]) (wrap64 (x5 + 1))) else (none)))
end
def flongref17_Normal.f (k : Nat) (l0 : List (S44)) : Option ((List (S44))) := (flongref03_Clean.f k l0).bind fun t238 => ((flongref03_Trim.f k t238).bind fun t241 => (flongref17_Normal.l0 k t241 ([] : List (S44)) 0))
theorem flongref17_Normal.mono_l : ∀ k, (∀ y0 y1 y2, LeO (flongref17_Normal.l0 k y0 y1 y2) (flongref17_Normal.l0 (k + 1) y0 y1 y2)) ∧ (∀ y0 y1 y2 y3 y4 y5, LeO (flongref17_Normal.j1 k y0 y1 y2 y3 y4 y5) (flongref17_Normal.j1 (k + 1) y0 y1 y2 y3 y4 y5))
 | 0 => ⟨fun _ _ _ r h => by simp [flongref17_Normal.l0] at h, fun _ _ _ _ _ _ r h => by simp [flongref17_Normal.j1] at h⟩
 | k + 1 => by
  obtain ⟨ih0, ih1⟩ := flongref17_Normal.mono_l k
  refine ⟨?_, ?_⟩
  ·intro y0 y1 y2
   unfold flongref17_Normal.l0
   repeat' first
   | (with_reducible exact ih0 _ _ _)
   | (with_reducible exact ih1 _ _ _ _ _ _)
   | (with_reducible exact flongref02_Width.mono _ _)
   | (with_reducible exact flongref03_Clean.mono _ _)
   | (with_reducible exact flongref03_Trim.mono _ _)
   | (with_reducible exact LeO.refl _)
   | (with_reducible exact LeO.none _)
   | (with_reducible refine LeO.ite ?_ ?_)
   | (with_reducible refine LeO.bind ?_ (fun _ => ?_))
  ·intro y0 y1 y2 y3 y4 y5
   unfold flongref17_Normal.j1
   repeat' first
   | (with_reducible exact ih0 _ _ _)
   | (with_reducible exact ih1 _ _ _ _ _ _)
   | (with_reducible exact flongref02_Width.mono _ _)
   | (with_reducible exact flongref03_Clean.mono _ _)
   | (with_reducible exact flongref03_Trim.mono _ _)
   | (with_reducible exact LeO.refl _)
   | (with_reducible exact LeO.none _)
   | (with_reducible refine LeO.ite ?_ ?_)
   | (with_reducible refine LeO.bind ?_ (fun _ => ?_))
theorem flongref17_Normal.mono : ∀ a0 k, LeO (flongref17_Normal.f k a0) (flongref17_Normal.f (k + 1) a0) := by
 intro a0 k
 obtain ⟨ih0, ih1⟩ := flongref17_Normal.mono_l k
 unfold flongref17_Normal.f
 repeat' first
   | (with_reducible exact ih0 _ _ _)
   | (with_reducible exact ih1 _ _ _ _ _ _)
   | (with_reducible exact flongref02_Width.mono _ _)
   | (with_reducible exact flongref03_Clean.mono _ _)
   | (with_reducible exact flongref03_Trim.mono _ _)
   | (with_reducible exact LeO.refl _)
   | (with_reducible exact LeO.none _)
   | (with_reducible refine LeO.ite ?_ ?_)
   | (with_reducible refine LeO.bind ?_ (fun _ => ?_))
theorem flongref17_Normal.calls (k : Nat) (A0 : Option Addr) (c0 : Nat) (l0 : List (S44)) (r : List (S44)) (w : World) (hr0 : Kd.C k44 w A0 l0.length l0) (hc0 : l0.length ≤ c0) (h : flongref17_Normal.f k l0 = some r) :
  Calls Tryd.prog 25 #[.slice A0 l0.length c0] w fun e w' => ∃ v0_ : Value, e = .returned (v0_) ∧ Kd.R k44 44 w' w.heap.size (fun _ => True) v0_ r ∧ Below w.heap.size w w' := by
 have hu44 := Tryd.underlying44
 have HR0 := Aside0.mk hr0
 have HC0 := Aside0.mk hc0
 clear hr0 hc0
 have HB := Aside0.mk (Below.refl w.heap.size w)
 have H : ((flongref03_Clean.f k l0).bind fun t238 => ((flongref03_Trim.f k t238).bind fun t241 => (flongref17_Normal.l0 k t241 ([] : List (S44)) 0))) = some r := h
 clear h
 replace H := Option.bind_eq_some_iff.mp H
 obtain ⟨t238, A20, H⟩ := H
 replace H : ((flongref03_Trim.f k t238).bind fun t241 => (flongref17_Normal.l0 k t241 ([] : List (S44)) 0)) = some r := H
 have A2 := Aside0.mk A20
 clear A20
 replace H := Option.bind_eq_some_iff.mp H
 obtain ⟨t241, A30, H⟩ := H
 replace H : (flongref17_Normal.l0 k t241 ([] : List (S44)) 0) = some r := H
 have A3 := Aside0.mk A30
 clear A30
 have H' := Aside0.mk H
 clear H
 go_enter Tryd.func25, Tryd.ntmps25
 go_wp2_with (first | ((with_reducible refine gate_callee (f := 42) rfl ?_); refine goesL_ (some 8) rfl rfl Tryd.func42 (by kernel_rfl) rfl #[.slice A0 l0.length c0] rfl (by (try simp only [List.map_toArray, List.map_cons, List.map_nil]); first | done | rfl | (simp only [List.length_drop, List.length_take]; rfl)) ?_; (with_reducible refine (flongref03_Clean.calls k _ _ l0 t238 _ ?side1 ?side2 A2.out).mono ?_); (case side1 => repeat (first | exact HR0.out | (with_reducible refine Kd.C_alloc ?_ _) | (with_reducible refine Kd.C_drewN ?_ _) | (with_reducible refine Kd.C_drew ?_))); (case side2 => exact HC0.out); rintro e w4 ⟨v239, rfl, ho0, hb⟩; refine ⟨_, rfl, ?_⟩; have n0_ := Aside0.mk (Kd.R_lower ho0 (below_size (by repeat (first | (with_reducible first | exact HB.out | apply below_alloc | apply pw_below_drewN | apply below_drew1) | exact HB.out)))); have n1_ := Aside0.mk (below_step (by repeat (first | (with_reducible first | exact HB.out | apply below_alloc | apply pw_below_drewN | apply below_drew1) | exact HB.out)) hb); clear HB; have HO240 := n0_; have HB := n1_; clear n0_ n1_; (try clear hb); (try clear hb2); (try clear hk); (try clear hi); (try clear ho0); obtain ⟨Ao5, co5, eo5⟩ := Kd.R_slice HO240.out; subst eo5) | ((with_reducible refine gate_callee (f := 41) rfl ?_); refine goesL_ (some 9) rfl rfl Tryd.func41 (by kernel_rfl) rfl #[.slice Ao5 t238.length co5] rfl (by (try simp only [List.map_toArray, List.map_cons, List.map_nil]); first | done | rfl | (simp only [List.length_drop, List.length_take]; rfl)) ?_; (with_reducible refine (flongref03_Trim.calls k (fun k_ => some k_ = (.slice Ao5 t238.length co5 : Value).ownBlock) _ _ t238 t241 _ ?side1 A3.out).mono ?_); (case side1 => exact Kd.R_V (Kd.R_tight rfl (HO240.out))); rintro e w6 ⟨v242, rfl, ho0, hb⟩; refine ⟨_, rfl, ?_⟩; have n0_ := Aside0.mk (Kd.R_below (by (with_reducible repeat (first | apply Kd.R_alloc | apply Kd.R_drewN | apply Kd.R_drew)); exact HO240.out) hb); have n1_ := Aside0.mk (Kd.V_lower (Kd.V_mono (ok' := fun k_ => True) ho0 (fun k_ hk_ => trivial)) (below_size (by repeat (first | (with_reducible first | exact HB.out | apply below_alloc | apply pw_below_drewN | apply below_drew1) | exact HB.out)))); have n2_ := Aside0.mk (below_step (by repeat (first | (with_reducible first | exact HB.out | apply below_alloc | apply pw_below_drewN | apply below_drew1) | exact HB.out)) hb); clear HO240; clear HB; have HO240 := n0_; have HO243 := n1_; have HB := n2_; clear n0_ n1_ n2_; (try clear hb); (try clear hb2); (try clear hk); (try clear hi); (try clear ho0)))
 go_loopg [4, 5] k (fun kq v4 v5 w' => ∃ (x4_1 : List (S44)) (x5_1 : Int), v5 = .int .i64 x5_1 ∧ Aside0 (flongref17_Normal.l0 kq t241 x4_1 x5_1 = some r) ∧ Aside0 (kq ≤ k) ∧ Aside0 (Kd.V k44 44 w' w.heap.size (fun k_ => some k_ ≠ (v4 : Value).ownBlock) v242 t241) ∧ Aside0 (Kd.R k44 44 w' w.heap.size (fun _ => True) v4 x4_1) ∧ Aside0 (Below w.heap.size w w'))
 case atStart => exact ⟨(([] : List (S44))), (0), (by first | rfl | (simp; done) | (simp [*]; done)), H', ⟨Nat.le_refl _⟩, ⟨by (with_reducible repeat (first | apply Kd.V_alloc | apply Kd.V_drewN | apply Kd.V_drew)); exact Kd.V_mono HO243.out (fun _ hk => (by simp [Value.ownBlock]))⟩, ⟨by first | exact Kd.R_nil _ _ _ _ _ | exact Kd.N_nil _ _ _ _ _ | exact Kd.V_nil _ _ _ _ _ | exact Kd.Q_nil _ _ _ _ _ | exact Kd.S_nil _ _ _ _ _⟩, ⟨by repeat (first | (with_reducible first | exact HB.out | apply below_alloc | apply pw_below_drewN | apply below_drew1) | exact HB.out)⟩⟩
 case round =>
  clear H'
  try clear c2
  try clear p2
  try clear c4
  obtain ⟨x4_1, x5_1, rfl, HA, HK1, HO_3, HO_4, HB⟩ := hrel
  cases gk with
  | zero => exact absurd HA.out (by simp [flongref17_Normal.l0])
  | succ k1 =>
   have H := HA.out
   clear HA
   simp only [flongref17_Normal.l0] at H
   by_cases c7 : x5_1 < (t241.length : Int)
   ·rw [if_pos c7] at H
    have c7b0 : decide (x5_1 < (t241.length : Int)) = true := decide_eq_true c7
    clear c7
    by_cases c8 : 0 ≤ x5_1
    ·rw [if_pos c8] at H
     have c8b0 : decide (0 ≤ x5_1) = true := decide_eq_true c8
     clear c8
     have HC9 := Aside0.mk H
     clear H
     obtain ⟨Ao10, co10, eo10⟩ := Kd.V_slice HO_3.out
     subst eo10
     have p244 : 0 ≤ (x5_1 : Int) := of_decide_eq_true (by first | (with_reducible assumption) | assumption)
     have q244 : x5_1 < (t241.length : Int) := of_decide_eq_true (by first | (with_reducible assumption) | assumption)
     obtain ⟨ad244, e244, hx244_0, hx244_1⟩ := at_T44 (Kd.V_reads' HO_3.out).2.2 x5_1 p244 q244
     cases e244
     replace p244 := eq_true p244
     replace q244 := eq_true q244
     go_upto_region 7 with (first | ((with_reducible refine gate_dst (N := 6) rfl ?_); refine box_event ?hg (N := 6) ?hd (cs := #[.int .i32 0, .int .u8 0]) (t := 44) ?hr ?_; (case hd => rfl); (case hg => rfl); (case hr => first | (go_simp; done) | (go_simp; rfl)); intro gb245 hg w11 hbox hb; have n0_ := Aside0.mk (Kd.V_below (Kd.V_elderB (by (with_reducible repeat (first | apply Kd.V_alloc | apply Kd.V_drewN | apply Kd.V_drew)); exact HO_3.out) gb245 (Nat.le_of_eq hg.symm)) hb); have n1_ := Aside0.mk (Kd.R_below (Kd.R_elderB (by (with_reducible repeat (first | apply Kd.R_alloc | apply Kd.R_drewN | apply Kd.R_drew)); exact HO_4.out) gb245 (Nat.le_of_eq hg.symm)) hb); have n2_ := Aside0.mk (below_step (by repeat (first | (with_reducible first | exact HB.out | apply below_alloc | apply pw_below_drewN | apply below_drew1) | exact HB.out)) hb); have n3_ := Aside0.mk (hbox); have n4_ := Aside0.mk ((by rw [hg]; exact (below_size (by repeat (first | (with_reducible first | exact HB.out | apply below_alloc | apply pw_below_drewN | apply below_drew1) | exact HB.out))) : w.heap.size ≤ gb245)); have n5_ := Aside0.mk ((by rw [hg]; exact (below_size (by repeat (first | (with_reducible first | exact HB.out | apply below_alloc | apply pw_below_drewN | apply below_drew1) | exact HB.out))) : w.heap.size ≤ gb245)); clear HO_3; clear HO_4; clear HB; have HO_3 := n0_; have HO_4 := n1_; have HB := n2_; have BK245 := n3_; have GW245 := n4_; have GE245 := n5_; clear n0_ n1_ n2_ n3_ n4_ n5_; clear hb hbox hg; have hcz12_0 : w11.cell? ⟨gb245, 0, none⟩ = some (.int .i32 0) := (blk_cell BK245.out 0).trans rfl; have hcz12_1 : w11.cell? ⟨gb245, 1, none⟩ = some (.int .u8 0) := (blk_cell BK245.out 1).trans rfl; have hfz12_0 := blk_frozen BK245.out 0; have hfz12_1 := blk_frozen BK245.out 1))
     (try simp only [Act.put, List.setIfInBounds_toArray, List.set_cons_zero, List.set_cons_succ])
     go_cut [27] (fun v27 wc => ∃ (kq : Nat) (x27_8 : Bool), v27 = .bool x27_8 ∧ Aside0 (flongref17_Normal.j1 kq t241 x4_1 x5_1 x27_8 ((rd_T44 t241 x5_1).f0) ((rd_T44 t241 x5_1).f1) = some r) ∧ Aside0 (kq ≤ k1) ∧ Aside0 (Kd.V k44 44 wc w.heap.size (fun k_ => some k_ ≠ (u4 : Value).ownBlock ∧ k_ ≠ gb245) (.slice (some ad244) t241.length co10) t241) ∧ Aside0 (Kd.R k44 44 wc w.heap.size (fun k_ => k_ ≠ gb245) u4 x4_1) ∧ Aside0 (wc.heap[gb245]? = some (.cells #[.int .i32 ((rd_T44 t241 x5_1).f0), .int .u8 ((rd_T44 t241 x5_1).f1)] 44 (0, 0))) ∧ Aside0 (Below w.heap.size w wc))
     case first =>
      have H := HC9.out
      clear HC9
      by_cases c13 : x5_1 > 0
      ·rw [if_pos c13] at H
       have c13b0 : decide (0 < x5_1) = true := decide_eq_true c13
       clear c13
       (first | rw [c13b0] | (simp only [i64_w, i32_w]; rw [c13b0]) | skip)
       replace H := Option.bind_eq_some_iff.mp H
       obtain ⟨t246, A140, H⟩ := H
       replace H : (flongref17_Normal.j1 k1 t241 x4_1 x5_1 (t246 == 0) ((rd_T44 t241 x5_1).f0) ((rd_T44 t241 x5_1).f1)) = some r := H
       have A14 := Aside0.mk A140
       clear A140
       have H' := Aside0.mk H
       clear H
       have hcz15_0 : w11.cell? ⟨gb245, 0, none⟩ = some (.int .i32 0) := (blk_cell BK245.out 0).trans rfl
       have hcz15_1 : w11.cell? ⟨gb245, 1, none⟩ = some (.int .u8 0) := (blk_cell BK245.out 1).trans rfl
       have hfz15_0 := blk_frozen BK245.out 0
       have hfz15_1 := blk_frozen BK245.out 1
       go_wp2_with (first | (go_at_call 43; (with_reducible refine (flongref02_Width.calls k1 ((rd_T44 t241 x5_1).f0) t246 _ A14.out).mono ?_); rintro e w16 ⟨rfl, hb⟩; have n0_ := Aside0.mk (Kd.V_below (by (with_reducible repeat (first | apply Kd.V_alloc | apply Kd.V_drewN | apply Kd.V_drew)); exact (Kd.V_mono (Kd.V_far (p := ⟨gb245, 1, none⟩) (Kd.V_far (p := ⟨gb245, 0, none⟩) (Kd.V_mono HO_3.out (fun k_ hk => (⟨hk, hk.2⟩ : _ ∧ k_ ≠ gb245))) (fun _ hk => hk.2) (.int .i32 ((rd_T44 t241 x5_1).f0))) (fun _ hk => hk.2) (.int .u8 ((rd_T44 t241 x5_1).f1))) (fun _ h_ => h_.1))) hb); have n1_ := Aside0.mk (Kd.R_below (by (with_reducible repeat (first | apply Kd.R_alloc | apply Kd.R_drewN | apply Kd.R_drew)); exact (Kd.R_mono (Kd.R_far (p := ⟨gb245, 1, none⟩) (Kd.R_far (p := ⟨gb245, 0, none⟩) (Kd.R_mono HO_4.out (fun k_ hk => (⟨hk, hk.2⟩ : _ ∧ k_ ≠ gb245))) (fun _ hk => hk.2) (.int .i32 ((rd_T44 t241 x5_1).f0))) (fun _ hk => hk.2) (.int .u8 ((rd_T44 t241 x5_1).f1))) (fun _ h_ => h_.1))) hb); have n2_ := Aside0.mk (blk_below (g := gb245) (o := .cells #[.int .i32 ((rd_T44 t241 x5_1).f0), .int .u8 ((rd_T44 t241 x5_1).f1)] 44 (0, 0)) (by (with_reducible repeat (first | refine blk_drewN ?_ _ | refine blk_drew ?_ | refine blk_alloc ?_ _)); refine blk_put (cs := #[.int .i32 ((rd_T44 t241 x5_1).f0), .int .u8 0]) ?_ 1 _ rfl; (with_reducible repeat (first | refine blk_drewN ?_ _ | refine blk_drew ?_ | refine blk_alloc ?_ _)); refine blk_put (cs := #[.int .i32 0, .int .u8 0]) ?_ 0 _ rfl; (with_reducible repeat (first | refine blk_drewN ?_ _ | refine blk_drew ?_ | refine blk_alloc ?_ _)); exact BK245.out) hb); have n3_ := Aside0.mk (below_step (by repeat (first | (with_reducible first | exact HB.out | apply below_alloc | apply pw_below_drewN | apply below_drew1 | refine below_set ?_ GE245.out) | exact HB.out)) hb); clear HO_3; clear HO_4; clear BK245; clear HB; have HO_3 := n0_; have HO_4 := n1_; have BK245 := n2_; have HB := n3_; clear n0_ n1_ n2_ n3_; (try clear hb); (try clear hb2); (try clear hk); (try clear hi)))
       go_meet
       case rel => exact ⟨_, ((t246 == 0)), (by first | rfl | (simp; done) | (simp [*]; done)), H', ⟨by have := HK1.out; first | omega | exact Nat.le_refl _⟩, ⟨by (with_reducible repeat (first | apply Kd.V_alloc | apply Kd.V_drewN | apply Kd.V_drew)); exact HO_3.out⟩, ⟨by (with_reducible repeat (first | apply Kd.R_alloc | apply Kd.R_drewN | apply Kd.R_drew)); exact Kd.R_mono HO_4.out (fun _ hk => hk.2)⟩, ⟨by (with_reducible repeat (first | refine blk_drewN ?_ _ | refine blk_drew ?_ | refine blk_alloc ?_ _)); exact BK245.out⟩, ⟨by repeat (first | (with_reducible first | exact HB.out | apply below_alloc | apply pw_below_drewN | apply below_drew1 | refine below_set ?_ GE245.out) | exact HB.out)⟩⟩
      ·rw [if_neg c13] at H
       have c13b0 : decide (0 < x5_1) = false := decide_eq_false c13
       clear c13
       (first | rw [c13b0] | (simp only [i64_w, i32_w]; rw [c13b0]) | skip)
       have H' := Aside0.mk H
       clear H
       go_wp2
       go_meet
       case rel => exact ⟨_, (false), (by first | rfl | (simp; done) | (simp [*]; done)), H', ⟨by have := HK1.out; first | omega | exact Nat.le_refl _⟩, ⟨by (with_reducible repeat (first | apply Kd.V_alloc | apply Kd.V_drewN | apply Kd.V_drew)); exact Kd.V_mono (Kd.V_far (p := ⟨gb245, 1, none⟩) (Kd.V_far (p := ⟨gb245, 0, none⟩) (Kd.V_mono HO_3.out (fun k_ hk => (⟨hk, hk.2⟩ : _ ∧ k_ ≠ gb245))) (fun _ hk => hk.2) (.int .i32 ((rd_T44 t241 x5_1).f0))) (fun _ hk => hk.2) (.int .u8 ((rd_T44 t241 x5_1).f1))) (fun _ hk => ⟨hk.1.1, hk.1.2⟩)⟩, ⟨by (with_reducible repeat (first | apply Kd.R_alloc | apply Kd.R_drewN | apply Kd.R_drew)); exact Kd.R_mono (Kd.R_far (p := ⟨gb245, 1, none⟩) (Kd.R_far (p := ⟨gb245, 0, none⟩) (Kd.R_mono HO_4.out (fun k_ hk => (⟨hk, hk.2⟩ : _ ∧ k_ ≠ gb245))) (fun _ hk => hk.2) (.int .i32 ((rd_T44 t241 x5_1).f0))) (fun _ hk => hk.2) (.int .u8 ((rd_T44 t241 x5_1).f1))) (fun _ hk => hk.1.2)⟩, ⟨by (with_reducible repeat (first | refine blk_drewN ?_ _ | refine blk_drew ?_ | refine blk_alloc ?_ _)); refine blk_put (cs := #[.int .i32 ((rd_T44 t241 x5_1).f0), .int .u8 0]) ?_ 1 _ rfl; (with_reducible repeat (first | refine blk_drewN ?_ _ | refine blk_drew ?_ | refine blk_alloc ?_ _)); refine blk_put (cs := #[.int .i32 0, .int .u8 0]) ?_ 0 _ rfl; (with_reducible repeat (first | refine blk_drewN ?_ _ | refine blk_drew ?_ | refine blk_alloc ?_ _)); exact BK245.out⟩, ⟨by repeat (first | (with_reducible first | exact HB.out | apply below_alloc | apply pw_below_drewN | apply below_drew1 | refine below_set ?_ GE245.out) | exact HB.out)⟩⟩
     case rest =>
      clear HC9
      try clear c1
      try clear c2
      try clear p2
      try clear q2
      try clear hx2
      try clear c4
      try clear c7
      try clear c7b0
      try clear c8
      try clear c8b0
      try clear c13
      try clear c13b0
      try clear hcz12_0
      try clear hcz12_1
      try clear hcz15_0
      try clear hcz15_1
      try clear hfz12_0
      try clear hfz12_1
      try clear hfz15_0
      try clear hfz15_1
      try clear hx244_0
      try clear hx244_1
      try clear p2
      try clear p244
      try clear q244
      obtain ⟨kq, x27_8, rfl, HA, HJ8, HO_3, HO_4, BK245, HB⟩ := hcut
      cases kq with
      | zero => exact absurd HA.out (by simp [flongref17_Normal.j1])
      | succ kj8 =>
       have H := HA.out
       clear HA
       simp only [flongref17_Normal.j1] at H
       by_cases c17 : x27_8 = true
       ·subst c17
        have H1 : (if 0 ≤ (wrap64 (x5_1 - 1)) then (if (wrap64 (x5_1 - 1)) < (x4_1.length : Int) then (if ((rd_T44 t241 x5_1).f0) = 32 then (if x4_1.length < 17592186044416 then (flongref17_Normal.l0 kj8 t241 (x4_1 ++ [(⟨((rd_T44 t241 x5_1).f0), 0⟩ : S44)]) (wrap64 (x5_1 + 1))) else (none)) else (if x4_1.length < 17592186044416 then (flongref17_Normal.l0 kj8 t241 (x4_1 ++ [(⟨((rd_T44 t241 x5_1).f0), (rd_T44 x4_1 (wrap64 (x5_1 - 1))).f1⟩ : S44)]) (wrap64 (x5_1 + 1))) else (none))) else (none)) else (none)) = some r := by rw [if_pos rfl] at H; exact H
        clear H
        have H := H1
        clear H1
        obtain ⟨ji18, hji18⟩ : ∃ j_ : Int, (wrap64 (x5_1 - 1)) = j_ := ⟨_, rfl⟩
        replace H : (if 0 ≤ (ji18) then (if (ji18) < (x4_1.length : Int) then (if ((rd_T44 t241 x5_1).f0) = 32 then (if x4_1.length < 17592186044416 then (flongref17_Normal.l0 kj8 t241 (x4_1 ++ [(⟨((rd_T44 t241 x5_1).f0), 0⟩ : S44)]) (wrap64 (x5_1 + 1))) else (none)) else (if x4_1.length < 17592186044416 then (flongref17_Normal.l0 kj8 t241 (x4_1 ++ [(⟨((rd_T44 t241 x5_1).f0), (rd_T44 x4_1 (ji18)).f1⟩ : S44)]) (wrap64 (x5_1 + 1))) else (none))) else (none)) else (none)) = some r := by first | (rw [hji18] at H; exact H) | (simp only [hji18] at H ⊢; exact H)
        have hji18w : (IntKind.i64.wrap (x5_1 - 1)) = ji18 := (i64_w _).trans hji18
        by_cases c19 : 0 ≤ (ji18)
        ·rw [if_pos c19] at H
         have c19b0 : decide (0 ≤ (ji18)) = true := decide_eq_true c19
         clear c19
         by_cases c20 : (ji18) < (x4_1.length : Int)
         ·rw [if_pos c20] at H
          have c20b0 : decide ((ji18) < (x4_1.length : Int)) = true := decide_eq_true c20
          clear c20
          by_cases c21 : ((rd_T44 t241 x5_1).f0) = 32
          ·rw [if_pos c21] at H
           have c21b0 : (((rd_T44 t241 x5_1).f0) == 32) = true := beq_iff_eq.mpr c21
           have c21b1 : (((rd_T44 t241 x5_1).f0) != 32) = false := bne_eq_false_iff_eq.mpr c21
           clear c21
           by_cases c22 : x4_1.length < 17592186044416
           ·rw [if_pos c22] at H
            have LMc22 := Aside0.mk c22
            clear c22
            obtain ⟨y248, hy248⟩ : ∃ y_ : List (S44), y_ = (x4_1 ++ [(⟨((rd_T44 t241 x5_1).f0), 0⟩ : S44)]) := ⟨_, rfl⟩
            replace H : (flongref17_Normal.l0 kj8 t241 y248 (wrap64 (x5_1 + 1))) = some r := by first | (rw [hy248]; with_reducible exact H) | (have H2_ := (Option.bind_some _ _).symm.trans H; rw [hy248]; with_reducible exact H2_) | (have H2_ := (Option.bind_some _ _).symm.trans H; with_reducible exact H2_) | with_reducible exact H | (rw [hy248]; exact H) | exact H
            have Ny248 := Aside0.mk hy248
            clear hy248
            have H' := Aside0.mk H
            clear H
            obtain ⟨Ao23, co23, eo23⟩ := Kd.R_slice HO_4.out
            subst eo23
            have p247 : 0 ≤ ((ji18) : Int) := of_decide_eq_true (by first | (with_reducible assumption) | assumption)
            have q247 : (ji18) < (x4_1.length : Int) := of_decide_eq_true (by first | (with_reducible assumption) | assumption)
            obtain ⟨ad247, e247, hx247_0, hx247_1⟩ := at_T44 (Kd.R_reads' HO_4.out).2.2 (ji18) p247 q247
            cases e247
            replace p247 := eq_true p247
            replace q247 := eq_true q247
            have hcz24_0 : wc.cell? ⟨gb245, 0, none⟩ = some (.int .i32 ((rd_T44 t241 x5_1).f0)) := (blk_cell BK245.out 0).trans rfl
            have hcz24_1 : wc.cell? ⟨gb245, 1, none⟩ = some (.int .u8 ((rd_T44 t241 x5_1).f1)) := (blk_cell BK245.out 1).trans rfl
            have hfz24_0 := blk_frozen BK245.out 0
            have hfz24_1 := blk_frozen BK245.out 1
            go_wp2_with (first | ((with_reducible refine gate_builtin (b := .append) (xs := #[.tmp 39, .tmp 41]) rfl ?_); at_builtin; refine Kd.R_append k44 (w0 := w) w.heap.size rfl (.tmp 39) (.tmp 41) 33 44 (.agg #[(.int .i32 0), (.int .u8 0)]) 8 rfl Tryd.underlying33 info44 rfl (by decide) (by omega) (.slice (some ad247) x4_1.length co23) x4_1 (⟨((rd_T44 t241 x5_1).f0), 0⟩ : S44) [.int .i32 ((rd_T44 t241 x5_1).f0), .int .u8 0] (fun k_ => k_ ≠ gb245) (fun _ => False) rfl (by first | (go_simp; done) | (go_simp; rfl)) ?aP (fun _ hk => hk.elim) ?aF ?aO ?aB ?aS ?aL ?_; (case aP => exact k44_mkM _ _ _ (⟨((rd_T44 t241 x5_1).f0), 0⟩ : S44)); (case aB => exact (by repeat (first | (with_reducible first | exact HB.out | apply below_alloc | apply pw_below_drewN | apply below_drew1 | refine below_set ?_ GE245.out) | exact HB.out))); (case aF => exact (fun k_ hk => Kd.freshB (g := gb245) (o := .cells #[.int .i32 ((rd_T44 t241 x5_1).f0), .int .u8 0] 44 (0, 0)) (by (with_reducible repeat (first | refine blk_drewN ?_ _ | refine blk_drew ?_ | refine blk_alloc ?_ _)); refine blk_put (cs := #[.int .i32 ((rd_T44 t241 x5_1).f0), .int .u8 ((rd_T44 x4_1 (ji18)).f1)]) ?_ 1 _ rfl; (with_reducible repeat (first | refine blk_drewN ?_ _ | refine blk_drew ?_ | refine blk_alloc ?_ _)); refine blk_put (cs := #[.int .i32 ((rd_T44 t241 x5_1).f0), .int .u8 ((rd_T44 t241 x5_1).f1)]) ?_ 1 _ rfl; (with_reducible repeat (first | refine blk_drewN ?_ _ | refine blk_drew ?_ | refine blk_alloc ?_ _)); exact BK245.out) k_ hk)); (case aO => exact (by (with_reducible repeat (first | apply Kd.R_alloc | apply Kd.R_drewN | apply Kd.R_drew)); exact Kd.R_mono (Kd.R_far (p := ⟨gb245, 1, none⟩) (Kd.R_far (p := ⟨gb245, 1, none⟩) (Kd.R_mono HO_4.out (fun k_ hk => (⟨hk, hk⟩ : _ ∧ k_ ≠ gb245))) (fun _ hk => hk.2) (.int .u8 ((rd_T44 x4_1 (ji18)).f1))) (fun _ hk => hk.2) (.int .u8 0)) (fun _ hk => hk.1))); (case aS => exact (below_size (by repeat (first | (with_reducible first | exact HB.out | apply below_alloc | apply pw_below_drewN | apply below_drew1 | refine below_set ?_ GE245.out) | exact HB.out)))); (case aL => have := LMc22.out; omega); intro v249 w25 ho hb hg hat; rw [← Ny248.out] at ho; have n0_ := Aside0.mk (Kd.V_afterv (ok := (fun k_ => k_ ≠ gb245)) (by (with_reducible repeat (first | apply Kd.V_alloc | apply Kd.V_drewN | apply Kd.V_drew)); exact Kd.V_mono (Kd.V_far (p := ⟨gb245, 1, none⟩) (Kd.V_far (p := ⟨gb245, 1, none⟩) (Kd.V_mono HO_3.out (fun k_ hk => (⟨hk, hk.2⟩ : _ ∧ k_ ≠ gb245))) (fun _ hk => hk.2) (.int .u8 ((rd_T44 x4_1 (ji18)).f1))) (fun _ hk => hk.2) (.int .u8 0)) (fun _ hk => ⟨hk.1.2, hk.1.1⟩)) hg hat); have n1_ := Aside0.mk (blk_grown (g := gb245) (o := .cells #[.int .i32 ((rd_T44 t241 x5_1).f0), .int .u8 0] 44 (0, 0)) (by (with_reducible repeat (first | refine blk_drewN ?_ _ | refine blk_drew ?_ | refine blk_alloc ?_ _)); refine blk_put (cs := #[.int .i32 ((rd_T44 t241 x5_1).f0), .int .u8 ((rd_T44 x4_1 (ji18)).f1)]) ?_ 1 _ rfl; (with_reducible repeat (first | refine blk_drewN ?_ _ | refine blk_drew ?_ | refine blk_alloc ?_ _)); refine blk_put (cs := #[.int .i32 ((rd_T44 t241 x5_1).f0), .int .u8 ((rd_T44 t241 x5_1).f1)]) ?_ 1 _ rfl; (with_reducible repeat (first | refine blk_drewN ?_ _ | refine blk_drew ?_ | refine blk_alloc ?_ _)); exact BK245.out) hg (Kd.R_away HO_4.out (fun _ hk => hk))); have n2_ := Aside0.mk (hb); have n3_ := Aside0.mk (ho); clear HO_3; clear BK245; clear HB; clear HO_4; have HO_3 := n0_; have BK245 := n1_; have HB := n2_; have HO250 := n3_; clear n0_ n1_ n2_ n3_; clear ho hb hg hat))
            go_roundg kj8
            case measure => have := HK1.out; have := HJ8.out; omega
            case rel => exact ⟨(y248), (wrap64 (x5_1 + 1)), (by first | rfl | (simp; done) | (simp [*]; done)), H', ⟨by have := HK1.out; have := HJ8.out; omega⟩, ⟨by (with_reducible repeat (first | apply Kd.V_alloc | apply Kd.V_drewN | apply Kd.V_drew)); exact Kd.V_mono HO_3.out (fun _ hk => hk.2)⟩, ⟨by (with_reducible repeat (first | apply Kd.R_alloc | apply Kd.R_drewN | apply Kd.R_drew)); exact Kd.R_mono HO250.out (fun _ hk => trivial)⟩, ⟨by repeat (first | (with_reducible first | exact HB.out | apply below_alloc | apply pw_below_drewN | apply below_drew1 | refine below_set ?_ GE245.out) | exact HB.out)⟩⟩
           ·rw [if_neg c22] at H
            exact absurd H (by simp)
          ·rw [if_neg c21] at H
           have c21b0 : (((rd_T44 t241 x5_1).f0) == 32) = false := beq_eq_false_iff_ne.mpr c21
           have c21b1 : (((rd_T44 t241 x5_1).f0) != 32) = true := bne_iff_ne.mpr c21
           by_cases c26 : x4_1.length < 17592186044416
           ·rw [if_pos c26] at H
            have LMc26 := Aside0.mk c26
            clear c26
            obtain ⟨y251, hy251⟩ : ∃ y_ : List (S44), y_ = (x4_1 ++ [(⟨((rd_T44 t241 x5_1).f0), (rd_T44 x4_1 (ji18)).f1⟩ : S44)]) := ⟨_, rfl⟩
            replace H : (flongref17_Normal.l0 kj8 t241 y251 (wrap64 (x5_1 + 1))) = some r := by first | (rw [hy251]; with_reducible exact H) | (have H2_ := (Option.bind_some _ _).symm.trans H; rw [hy251]; with_reducible exact H2_) | (have H2_ := (Option.bind_some _ _).symm.trans H; with_reducible exact H2_) | with_reducible exact H | (rw [hy251]; exact H) | exact H
            have Ny251 := Aside0.mk hy251
            clear hy251
            have H' := Aside0.mk H
            clear H
            obtain ⟨Ao27, co27, eo27⟩ := Kd.R_slice HO_4.out
            subst eo27
            have p247 : 0 ≤ ((ji18) : Int) := of_decide_eq_true (by first | (with_reducible assumption) | assumption)
            have q247 : (ji18) < (x4_1.length : Int) := of_decide_eq_true (by first | (with_reducible assumption) | assumption)
            obtain ⟨ad247, e247, hx247_0, hx247_1⟩ := at_T44 (Kd.R_reads' HO_4.out).2.2 (ji18) p247 q247
            cases e247
            replace p247 := eq_true p247
            replace q247 := eq_true q247
            have hcz28_0 : wc.cell? ⟨gb245, 0, none⟩ = some (.int .i32 ((rd_T44 t241 x5_1).f0)) := (blk_cell BK245.out 0).trans rfl
            have hcz28_1 : wc.cell? ⟨gb245, 1, none⟩ = some (.int .u8 ((rd_T44 t241 x5_1).f1)) := (blk_cell BK245.out 1).trans rfl
            have hfz28_0 := blk_frozen BK245.out 0
            have hfz28_1 := blk_frozen BK245.out 1
            go_wp2_with (first | ((with_reducible refine gate_builtin (b := .append) (xs := #[.tmp 39, .tmp 41]) rfl ?_); at_builtin; refine Kd.R_append k44 (w0 := w) w.heap.size rfl (.tmp 39) (.tmp 41) 33 44 (.agg #[(.int .i32 0), (.int .u8 0)]) 8 rfl Tryd.underlying33 info44 rfl (by decide) (by omega) (.slice (some ad247) x4_1.length co27) x4_1 (⟨((rd_T44 t241 x5_1).f0), (rd_T44 x4_1 (ji18)).f1⟩ : S44) [.int .i32 ((rd_T44 t241 x5_1).f0), .int .u8 ((rd_T44 x4_1 (ji18)).f1)] (fun k_ => k_ ≠ gb245) (fun _ => False) rfl (by first | (go_simp; done) | (go_simp; rfl)) ?aP (fun _ hk => hk.elim) ?aF ?aO ?aB ?aS ?aL ?_; (case aP => exact k44_mkM _ _ _ (⟨((rd_T44 t241 x5_1).f0), (rd_T44 x4_1 (ji18)).f1⟩ : S44)); (case aB => exact (by repeat (first | (with_reducible first | exact HB.out | apply below_alloc | apply pw_below_drewN | apply below_drew1 | refine below_set ?_ GE245.out) | exact HB.out))); (case aF => exact (fun k_ hk => Kd.freshB (g := gb245) (o := .cells #[.int .i32 ((rd_T44 t241 x5_1).f0), .int .u8 ((rd_T44 x4_1 (ji18)).f1)] 44 (0, 0)) (by (with_reducible repeat (first | refine blk_drewN ?_ _ | refine blk_drew ?_ | refine blk_alloc ?_ _)); refine blk_put (cs := #[.int .i32 ((rd_T44 t241 x5_1).f0), .int .u8 ((rd_T44 t241 x5_1).f1)]) ?_ 1 _ rfl; (with_reducible repeat (first | refine blk_drewN ?_ _ | refine blk_drew ?_ | refine blk_alloc ?_ _)); exact BK245.out) k_ hk)); (case aO => exact (by (with_reducible repeat (first | apply Kd.R_alloc | apply Kd.R_drewN | apply Kd.R_drew)); exact Kd.R_mono (Kd.R_far (p := ⟨gb245, 1, none⟩) (Kd.R_mono HO_4.out (fun k_ hk => (⟨hk, hk⟩ : _ ∧ k_ ≠ gb245))) (fun _ hk => hk.2) (.int .u8 ((rd_T44 x4_1 (ji18)).f1))) (fun _ hk => hk.1))); (case aS => exact (below_size (by repeat (first | (with_reducible first | exact HB.out | apply below_alloc | apply pw_below_drewN | apply below_drew1 | refine below_set ?_ GE245.out) | exact HB.out)))); (case aL => have := LMc26.out; omega); intro v252 w29 ho hb hg hat; rw [← Ny251.out] at ho; have n0_ := Aside0.mk (Kd.V_afterv (ok := (fun k_ => k_ ≠ gb245)) (by (with_reducible repeat (first | apply Kd.V_alloc | apply Kd.V_drewN | apply Kd.V_drew)); exact Kd.V_mono (Kd.V_far (p := ⟨gb245, 1, none⟩) (Kd.V_mono HO_3.out (fun k_ hk => (⟨hk, hk.2⟩ : _ ∧ k_ ≠ gb245))) (fun _ hk => hk.2) (.int .u8 ((rd_T44 x4_1 (ji18)).f1))) (fun _ hk => ⟨hk.1.2, hk.1.1⟩)) hg hat); have n1_ := Aside0.mk (blk_grown (g := gb245) (o := .cells #[.int .i32 ((rd_T44 t241 x5_1).f0), .int .u8 ((rd_T44 x4_1 (ji18)).f1)] 44 (0, 0)) (by (with_reducible repeat (first | refine blk_drewN ?_ _ | refine blk_drew ?_ | refine blk_alloc ?_ _)); refine blk_put (cs := #[.int .i32 ((rd_T44 t241 x5_1).f0), .int .u8 ((rd_T44 t241 x5_1).f1)]) ?_ 1 _ rfl; (with_reducible repeat (first | refine blk_drewN ?_ _ | refine blk_drew ?_ | refine blk_alloc ?_ _)); exact BK245.out) hg (Kd.R_away HO_4.out (fun _ hk => hk))); have n2_ := Aside0.mk (hb); have n3_ := Aside0.mk (ho); clear HO_3; clear BK245; clear HB; clear HO_4; have HO_3 := n0_; have BK245 := n1_; have HB := n2_; have HO253 := n3_; clear n0_ n1_ n2_ n3_; clear ho hb hg hat))
            go_roundg kj8
            case measure => have := HK1.out; have := HJ8.out; omega
            case rel => exact ⟨(y251), (wrap64 (x5_1 + 1)), (by first | rfl | (simp; done) | (simp [*]; done)), H', ⟨by have := HK1.out; have := HJ8.out; omega⟩, ⟨by (with_reducible repeat (first | apply Kd.V_alloc | apply Kd.V_drewN | apply Kd.V_drew)); exact Kd.V_mono HO_3.out (fun _ hk => hk.2)⟩, ⟨by (with_reducible repeat (first | apply Kd.R_alloc | apply Kd.R_drewN | apply Kd.R_drew)); exact Kd.R_mono HO253.out (fun _ hk => trivial)⟩, ⟨by repeat (first | (with_reducible first | exact HB.out | apply below_alloc | apply pw_below_drewN | apply below_drew1 | refine below_set ?_ GE245.out) | exact HB.out)⟩⟩
           ·rw [if_neg c26] at H
            exact absurd H (by simp)
         ·rw [if_neg c20] at H
          exact absurd H (by simp)
        ·rw [if_neg c19] at H
         exact absurd H (by simp)
       ·replace c17 := Bool.eq_false_iff.mpr c17
        subst c17
        have H1 : (if ((rd_T44 t241 x5_1).f0) = 32 then (if x4_1.length < 17592186044416 then (flongref17_Normal.l0 kj8 t241 (x4_1 ++ [(⟨((rd_T44 t241 x5_1).f0), 0⟩ : S44)]) (wrap64 (x5_1 + 1))) else (none)) else (if x4_1.length < 17592186044416 then (flongref17_Normal.l0 kj8 t241 (x4_1 ++ [(⟨((rd_T44 t241 x5_1).f0), ((rd_T44 t241 x5_1).f1)⟩ : S44)]) (wrap64 (x5_1 + 1))) else (none))) = some r := by rw [if_neg (show ¬ (false = true) by decide)] at H; exact H
        clear H
        have H := H1
        clear H1
        by_cases c30 : ((rd_T44 t241 x5_1).f0) = 32
        ·rw [if_pos c30] at H
         have c30b0 : (((rd_T44 t241 x5_1).f0) == 32) = true := beq_iff_eq.mpr c30
         have c30b1 : (((rd_T44 t241 x5_1).f0) != 32) = false := bne_eq_false_iff_eq.mpr c30
         clear c30
         by_cases c31 : x4_1.length < 17592186044416
         ·rw [if_pos c31] at H
          have LMc31 := Aside0.mk c31
          clear c31
          obtain ⟨y254, hy254⟩ : ∃ y_ : List (S44), y_ = (x4_1 ++ [(⟨((rd_T44 t241 x5_1).f0), 0⟩ : S44)]) := ⟨_, rfl⟩
          replace H : (flongref17_Normal.l0 kj8 t241 y254 (wrap64 (x5_1 + 1))) = some r := by first | (rw [hy254]; with_reducible exact H) | (have H2_ := (Option.bind_some _ _).symm.trans H; rw [hy254]; with_reducible exact H2_) | (have H2_ := (Option.bind_some _ _).symm.trans H; with_reducible exact H2_) | with_reducible exact H | (rw [hy254]; exact H) | exact H
          have Ny254 := Aside0.mk hy254
          clear hy254
          have H' := Aside0.mk H
          clear H
          have hcz32_0 : wc.cell? ⟨gb245, 0, none⟩ = some (.int .i32 ((rd_T44 t241 x5_1).f0)) := (blk_cell BK245.out 0).trans rfl
          have hcz32_1 : wc.cell? ⟨gb245, 1, none⟩ = some (.int .u8 ((rd_T44 t241 x5_1).f1)) := (blk_cell BK245.out 1).trans rfl
          have hfz32_0 := blk_frozen BK245.out 0
          have hfz32_1 := blk_frozen BK245.out 1
          go_wp2_with (first | ((with_reducible refine gate_builtin (b := .append) (xs := #[.tmp 39, .tmp 41]) rfl ?_); at_builtin; refine Kd.R_append k44 (w0 := w) w.heap.size rfl (.tmp 39) (.tmp 41) 33 44 (.agg #[(.int .i32 0), (.int .u8 0)]) 8 rfl Tryd.underlying33 info44 rfl (by decide) (by omega) u4 x4_1 (⟨((rd_T44 t241 x5_1).f0), 0⟩ : S44) [.int .i32 ((rd_T44 t241 x5_1).f0), .int .u8 0] (fun k_ => k_ ≠ gb245) (fun _ => False) rfl (by first | (go_simp; done) | (go_simp; rfl)) ?aP (fun _ hk => hk.elim) ?aF ?aO ?aB ?aS ?aL ?_; (case aP => exact k44_mkM _ _ _ (⟨((rd_T44 t241 x5_1).f0), 0⟩ : S44)); (case aB => exact (by repeat (first | (with_reducible first | exact HB.out | apply below_alloc | apply pw_below_drewN | apply below_drew1 | refine below_set ?_ GE245.out) | exact HB.out))); (case aF => exact (fun k_ hk => Kd.freshB (g := gb245) (o := .cells #[.int .i32 ((rd_T44 t241 x5_1).f0), .int .u8 0] 44 (0, 0)) (by (with_reducible repeat (first | refine blk_drewN ?_ _ | refine blk_drew ?_ | refine blk_alloc ?_ _)); refine blk_put (cs := #[.int .i32 ((rd_T44 t241 x5_1).f0), .int .u8 ((rd_T44 t241 x5_1).f1)]) ?_ 1 _ rfl; (with_reducible repeat (first | refine blk_drewN ?_ _ | refine blk_drew ?_ | refine blk_alloc ?_ _)); exact BK245.out) k_ hk)); (case aO => exact (by (with_reducible repeat (first | apply Kd.R_alloc | apply Kd.R_drewN | apply Kd.R_drew)); exact Kd.R_mono (Kd.R_far (p := ⟨gb245, 1, none⟩) (Kd.R_mono HO_4.out (fun k_ hk => (⟨hk, hk⟩ : _ ∧ k_ ≠ gb245))) (fun _ hk => hk.2) (.int .u8 0)) (fun _ hk => hk.1))); (case aS => exact (below_size (by repeat (first | (with_reducible first | exact HB.out | apply below_alloc | apply pw_below_drewN | apply below_drew1 | refine below_set ?_ GE245.out) | exact HB.out)))); (case aL => have := LMc31.out; omega); intro v255 w33 ho hb hg hat; rw [← Ny254.out] at ho; have n0_ := Aside0.mk (Kd.V_afterv (ok := (fun k_ => k_ ≠ gb245)) (by (with_reducible repeat (first | apply Kd.V_alloc | apply Kd.V_drewN | apply Kd.V_drew)); exact Kd.V_mono (Kd.V_far (p := ⟨gb245, 1, none⟩) (Kd.V_mono HO_3.out (fun k_ hk => (⟨hk, hk.2⟩ : _ ∧ k_ ≠ gb245))) (fun _ hk => hk.2) (.int .u8 0)) (fun _ hk => ⟨hk.1.2, hk.1.1⟩)) hg hat); have n1_ := Aside0.mk (blk_grown (g := gb245) (o := .cells #[.int .i32 ((rd_T44 t241 x5_1).f0), .int .u8 0] 44 (0, 0)) (by (with_reducible repeat (first | refine blk_drewN ?_ _ | refine blk_drew ?_ | refine blk_alloc ?_ _)); refine blk_put (cs := #[.int .i32 ((rd_T44 t241 x5_1).f0), .int .u8 ((rd_T44 t241 x5_1).f1)]) ?_ 1 _ rfl; (with_reducible repeat (first | refine blk_drewN ?_ _ | refine blk_drew ?_ | refine blk_alloc ?_ _)); exact BK245.out) hg (Kd.R_away HO_4.out (fun _ hk => hk))); have n2_ := Aside0.mk (hb); have n3_ := Aside0.mk (ho); clear HO_3; clear BK245; clear HB; clear HO_4; have HO_3 := n0_; have BK245 := n1_; have HB := n2_; have HO256 := n3_; clear n0_ n1_ n2_ n3_; clear ho hb hg hat))
          go_roundg kj8
          case measure => have := HK1.out; have := HJ8.out; omega
          case rel => exact ⟨(y254), (wrap64 (x5_1 + 1)), (by first | rfl | (simp; done) | (simp [*]; done)), H', ⟨by have := HK1.out; have := HJ8.out; omega⟩, ⟨by (with_reducible repeat (first | apply Kd.V_alloc | apply Kd.V_drewN | apply Kd.V_drew)); exact Kd.V_mono HO_3.out (fun _ hk => hk.2)⟩, ⟨by (with_reducible repeat (first | apply Kd.R_alloc | apply Kd.R_drewN | apply Kd.R_drew)); exact Kd.R_mono HO256.out (fun _ hk => trivial)⟩, ⟨by repeat (first | (with_reducible first | exact HB.out | apply below_alloc | apply pw_below_drewN | apply below_drew1 | refine below_set ?_ GE245.out) | exact HB.out)⟩⟩
         ·rw [if_neg c31] at H
          exact absurd H (by simp)
        ·rw [if_neg c30] at H
         have c30b0 : (((rd_T44 t241 x5_1).f0) == 32) = false := beq_eq_false_iff_ne.mpr c30
         have c30b1 : (((rd_T44 t241 x5_1).f0) != 32) = true := bne_iff_ne.mpr c30
         by_cases c34 : x4_1.length < 17592186044416
         ·rw [if_pos c34] at H
          have LMc34 := Aside0.mk c34
          clear c34
          obtain ⟨y257, hy257⟩ : ∃ y_ : List (S44), y_ = (x4_1 ++ [(⟨((rd_T44 t241 x5_1).f0), ((rd_T44 t241 x5_1).f1)⟩ : S44)]) := ⟨_, rfl⟩
          replace H : (flongref17_Normal.l0 kj8 t241 y257 (wrap64 (x5_1 + 1))) = some r := by first | (rw [hy257]; with_reducible exact H) | (have H2_ := (Option.bind_some _ _).symm.trans H; rw [hy257]; with_reducible exact H2_) | (have H2_ := (Option.bind_some _ _).symm.trans H; with_reducible exact H2_) | with_reducible exact H | (rw [hy257]; exact H) | exact H
          have Ny257 := Aside0.mk hy257
          clear hy257
          have H' := Aside0.mk H
          clear H
          have hcz35_0 : wc.cell? ⟨gb245, 0, none⟩ = some (.int .i32 ((rd_T44 t241 x5_1).f0)) := (blk_cell BK245.out 0).trans rfl
          have hcz35_1 : wc.cell? ⟨gb245, 1, none⟩ = some (.int .u8 ((rd_T44 t241 x5_1).f1)) := (blk_cell BK245.out 1).trans rfl
          have hfz35_0 := blk_frozen BK245.out 0
          have hfz35_1 := blk_frozen BK245.out 1
          go_wp2_with (first | ((with_reducible refine gate_builtin (b := .append) (xs := #[.tmp 39, .tmp 41]) rfl ?_); at_builtin; refine Kd.R_append k44 (w0 := w) w.heap.size rfl (.tmp 39) (.tmp 41) 33 44 (.agg #[(.int .i32 0), (.int .u8 0)]) 8 rfl Tryd.underlying33 info44 rfl (by decide) (by omega) u4 x4_1 (⟨((rd_T44 t241 x5_1).f0), ((rd_T44 t241 x5_1).f1)⟩ : S44) [.int .i32 ((rd_T44 t241 x5_1).f0), .int .u8 ((rd_T44 t241 x5_1).f1)] (fun k_ => k_ ≠ gb245) (fun _ => False) rfl rfl ?aP (fun _ hk => hk.elim) ?aF ?aO ?aB ?aS ?aL ?_; (case aP => exact k44_mkM _ _ _ (⟨((rd_T44 t241 x5_1).f0), ((rd_T44 t241 x5_1).f1)⟩ : S44)); (case aB => exact (by repeat (first | (with_reducible first | exact HB.out | apply below_alloc | apply pw_below_drewN | apply below_drew1 | refine below_set ?_ GE245.out) | exact HB.out))); (case aF => exact (fun k_ hk => Kd.freshB (g := gb245) (o := .cells #[.int .i32 ((rd_T44 t241 x5_1).f0), .int .u8 ((rd_T44 t241 x5_1).f1)] 44 (0, 0)) (by (with_reducible repeat (first | refine blk_drewN ?_ _ | refine blk_drew ?_ | refine blk_alloc ?_ _)); exact BK245.out) k_ hk)); (case aO => exact (by (with_reducible repeat (first | apply Kd.R_alloc | apply Kd.R_drewN | apply Kd.R_drew)); exact HO_4.out)); (case aS => exact (below_size (by repeat (first | (with_reducible first | exact HB.out | apply below_alloc | apply pw_below_drewN | apply below_drew1 | refine below_set ?_ GE245.out) | exact HB.out)))); (case aL => have := LMc34.out; omega); intro v258 w36 ho hb hg hat; rw [← Ny257.out] at ho; have n0_ := Aside0.mk (Kd.V_afterv (ok := (fun k_ => k_ ≠ gb245)) (by (with_reducible repeat (first | apply Kd.V_alloc | apply Kd.V_drewN | apply Kd.V_drew)); exact Kd.V_mono HO_3.out (fun _ hk => ⟨hk.2, hk.1⟩)) hg hat); have n1_ := Aside0.mk (blk_grown (g := gb245) (o := .cells #[.int .i32 ((rd_T44 t241 x5_1).f0), .int .u8 ((rd_T44 t241 x5_1).f1)] 44 (0, 0)) (by (with_reducible repeat (first | refine blk_drewN ?_ _ | refine blk_drew ?_ | refine blk_alloc ?_ _)); exact BK245.out) hg (Kd.R_away HO_4.out (fun _ hk => hk))); have n2_ := Aside0.mk (hb); have n3_ := Aside0.mk (ho); clear HO_3; clear BK245; clear HB; clear HO_4; have HO_3 := n0_; have BK245 := n1_; have HB := n2_; have HO259 := n3_; clear n0_ n1_ n2_ n3_; clear ho hb hg hat))
          go_roundg kj8
          case measure => have := HK1.out; have := HJ8.out; omega
          case rel => exact ⟨(y257), (wrap64 (x5_1 + 1)), (by first | rfl | (simp; done) | (simp [*]; done)), H', ⟨by have := HK1.out; have := HJ8.out; omega⟩, ⟨by (with_reducible repeat (first | apply Kd.V_alloc | apply Kd.V_drewN | apply Kd.V_drew)); exact Kd.V_mono HO_3.out (fun _ hk => hk.2)⟩, ⟨by (with_reducible repeat (first | apply Kd.R_alloc | apply Kd.R_drewN | apply Kd.R_drew)); exact Kd.R_mono HO259.out (fun _ hk => trivial)⟩, ⟨by repeat (first | (with_reducible first | exact HB.out | apply below_alloc | apply pw_below_drewN | apply below_drew1 | refine below_set ?_ GE245.out) | exact HB.out)⟩⟩
         ·rw [if_neg c34] at H
          exact absurd H (by simp)
    ·rw [if_neg c8] at H
     exact absurd H (by simp)
   ·rw [if_neg c7] at H
    have c7b0 : decide (x5_1 < (t241.length : Int)) = false := decide_eq_false c7
    clear c7
    obtain rfl := Option.some.inj H
    obtain ⟨Ao37, co37, eo37⟩ := Kd.V_slice HO_3.out
    subst eo37
    go_wp2
    go_ret
    exact ⟨_, by first | rfl | (simp [errW_none, errW_some] <;> rfl) | (simp [*, errW_none, errW_some] <;> rfl), by (with_reducible repeat (first | apply Kd.R_alloc | apply Kd.R_drewN | apply Kd.R_drew)); exact HO_4.out, by repeat (first | (with_reducible first | exact HB.out | apply below_alloc | apply pw_below_drewN | apply below_drew1) | exact HB.out)⟩

end Go.Proofs.YtdjepocklmlnbaaDoor.X
