-- Written by this session's xprint.py (a variant of the kit's printer). Not trusted: Lean checks it.
import Derived.Test.YtdjepocklmlnbaaDoorX0
import Derived.Test.YtdjepocklmlnbaaDoorSlim
import Derived.Test.YtdjepocklmlnbaaDoorX7
namespace Go.Proofs.YtdjepocklmlnbaaDoor.X
open Go.RowKit Go.Proofs.YtdjepocklmlnbaaDoorW.PrintWords Go.Proofs.YtdjepocklmlnbaaDoorW.PrintLast Go.Proofs.YtdjepocklmlnbaaDoorW.PrintMore
attribute [local go_sem] max2_int min2_int max_two min_two max_three min_three max_four min_four   -- for this text's walks alone
set_option linter.unusedVariables false
set_option maxHeartbeats 8000000
set_option maxRecDepth 100000
set_option linter.unusedSimpArgs false

/-! ### flongref02_Control: function 60 -/
def flongref02_Control.f (a0 : Int) : Option (Bool) := if a0 ≥ 0 then (if a0 ≤ 31 then (some true) else (if a0 ≥ 127 then (if a0 ≤ 159 then (some true) else (if a0 = 8232 then (some true) else (some (a0 == 8233)))) else (if a0 = 8232 then (some true) else (some (a0 == 8233))))) else (if a0 ≥ 127 then (if a0 ≤ 159 then (some true) else (if a0 = 8232 then (some true) else (some (a0 == 8233)))) else (if a0 = 8232 then (some true) else (some (a0 == 8233))))
theorem flongref02_Control.calls (a0 : Int) (r : Bool) (w : World) (h : flongref02_Control.f a0 = some r) :
  Calls Tryd.prog 60 #[.int .i32 a0] w fun e w' => e = .returned (.bool r) ∧ Drawn0 w w' := by
 have H : (if a0 ≥ 0 then (if a0 ≤ 31 then (some true) else (if a0 ≥ 127 then (if a0 ≤ 159 then (some true) else (if a0 = 8232 then (some true) else (some (a0 == 8233)))) else (if a0 = 8232 then (some true) else (some (a0 == 8233))))) else (if a0 ≥ 127 then (if a0 ≤ 159 then (some true) else (if a0 = 8232 then (some true) else (some (a0 == 8233)))) else (if a0 = 8232 then (some true) else (some (a0 == 8233))))) = some r := h
 clear h
 by_cases c2 : a0 ≥ 0
 ·rw [if_pos c2] at H
  have c2b0 : decide (0 ≤ a0) = true := decide_eq_true c2
  clear c2
  by_cases c3 : a0 ≤ 31
  ·rw [if_pos c3] at H
   have c3b0 : decide (a0 ≤ 31) = true := decide_eq_true c3
   clear c3
   obtain rfl := Option.some.inj H
   go_enter Tryd.func60, Tryd.ntmps60
   go_wp2
   go_ret
   exact ⟨sA, by repeat (first | exact Drawn0.refl _ | apply Drawn0.step)⟩
  ·rw [if_neg c3] at H
   have c3b0 : decide (a0 ≤ 31) = false := decide_eq_false c3
   clear c3
   by_cases c4 : a0 ≥ 127
   ·rw [if_pos c4] at H
    have c4b0 : decide (127 ≤ a0) = true := decide_eq_true c4
    clear c4
    by_cases c5 : a0 ≤ 159
    ·rw [if_pos c5] at H
     have c5b0 : decide (a0 ≤ 159) = true := decide_eq_true c5
     clear c5
     obtain rfl := Option.some.inj H
     go_enter Tryd.func60, Tryd.ntmps60
     go_wp2
     go_ret
     exact ⟨sA, by repeat (first | exact Drawn0.refl _ | apply Drawn0.step)⟩
    ·rw [if_neg c5] at H
     have c5b0 : decide (a0 ≤ 159) = false := decide_eq_false c5
     clear c5
     by_cases c6 : a0 = 8232
     ·rw [if_pos c6] at H
      have c6b0 : (a0 == 8232) = true := beq_iff_eq.mpr c6
      have c6b1 : (a0 != 8232) = false := bne_eq_false_iff_eq.mpr c6
      clear c6
      obtain rfl := Option.some.inj H
      go_enter Tryd.func60, Tryd.ntmps60
      go_wp2
      go_ret
      exact ⟨sA, by repeat (first | exact Drawn0.refl _ | apply Drawn0.step)⟩
     ·rw [if_neg c6] at H
      have c6b0 : (a0 == 8232) = false := beq_eq_false_iff_ne.mpr c6
      have c6b1 : (a0 != 8232) = true := bne_iff_ne.mpr c6
      obtain rfl := Option.some.inj H
      go_enter Tryd.func60, Tryd.ntmps60
      go_wp2
      go_ret
      exact ⟨sA, by repeat (first | exact Drawn0.refl _ | apply Drawn0.step)⟩
   ·rw [if_neg c4] at H
    have c4b0 : decide (127 ≤ a0) = false := decide_eq_false c4
    clear c4
    by_cases c7 : a0 = 8232
    ·rw [if_pos c7] at H
     have c7b0 : (a0 == 8232) = true := beq_iff_eq.mpr c7
     have c7b1 : (a0 != 8232) = false := bne_eq_false_iff_eq.mpr c7
     clear c7
     obtain rfl := Option.some.inj H
     go_enter Tryd.func60, Tryd.ntmps60
     go_wp2
     go_ret
     exact ⟨sA, by repeat (first | exact Drawn0.refl _ | apply Drawn0.step)⟩
    ·rw [if_neg c7] at H
     have c7b0 : (a0 == 8232) = false := beq_eq_false_iff_ne.mpr c7
     have c7b1 : (a0 != 8232) = true := bne_iff_ne.mpr c7
     obtain rfl := Option.some.inj H
     go_enter Tryd.func60, Tryd.ntmps60
     go_wp2
     go_ret
     exact ⟨sA, by repeat (first | exact Drawn0.refl _ | apply Drawn0.step)⟩
 ·rw [if_neg c2] at H
  have c2b0 : decide (0 ≤ a0) = false := decide_eq_false c2
  clear c2
  by_cases c8 : a0 ≥ 127
  ·rw [if_pos c8] at H
   have c8b0 : decide (127 ≤ a0) = true := decide_eq_true c8
   clear c8
   by_cases c9 : a0 ≤ 159
   ·rw [if_pos c9] at H
    have c9b0 : decide (a0 ≤ 159) = true := decide_eq_true c9
    clear c9
    obtain rfl := Option.some.inj H
    go_enter Tryd.func60, Tryd.ntmps60
    go_wp2
    go_ret
    exact ⟨sA, by repeat (first | exact Drawn0.refl _ | apply Drawn0.step)⟩
   ·rw [if_neg c9] at H
    have c9b0 : decide (a0 ≤ 159) = false := decide_eq_false c9
    clear c9
    by_cases c10 : a0 = 8232
    ·rw [if_pos c10] at H
     have c10b0 : (a0 == 8232) = true := beq_iff_eq.mpr c10
     have c10b1 : (a0 != 8232) = false := bne_eq_false_iff_eq.mpr c10
     clear c10
     obtain rfl := Option.some.inj H
     go_enter Tryd.func60, Tryd.ntmps60
     go_wp2
     go_ret
     exact ⟨sA, by repeat (first | exact Drawn0.refl _ | apply Drawn0.step)⟩
    ·rw [if_neg c10] at H
     have c10b0 : (a0 == 8232) = false := beq_eq_false_iff_ne.mpr c10
     have c10b1 : (a0 != 8232) = true := bne_iff_ne.mpr c10
     obtain rfl := Option.some.inj H
     go_enter Tryd.func60, Tryd.ntmps60
     go_wp2
     go_ret
     exact ⟨sA, by repeat (first | exact Drawn0.refl _ | apply Drawn0.step)⟩
  ·rw [if_neg c8] at H
   have c8b0 : decide (127 ≤ a0) = false := decide_eq_false c8
   clear c8
   by_cases c11 : a0 = 8232
   ·rw [if_pos c11] at H
    have c11b0 : (a0 == 8232) = true := beq_iff_eq.mpr c11
    have c11b1 : (a0 != 8232) = false := bne_eq_false_iff_eq.mpr c11
    clear c11
    obtain rfl := Option.some.inj H
    go_enter Tryd.func60, Tryd.ntmps60
    go_wp2
    go_ret
    exact ⟨sA, by repeat (first | exact Drawn0.refl _ | apply Drawn0.step)⟩
   ·rw [if_neg c11] at H
    have c11b0 : (a0 == 8232) = false := beq_eq_false_iff_ne.mpr c11
    have c11b1 : (a0 != 8232) = true := bne_iff_ne.mpr c11
    obtain rfl := Option.some.inj H
    go_enter Tryd.func60, Tryd.ntmps60
    go_wp2
    go_ret
    exact ⟨sA, by repeat (first | exact Drawn0.refl _ | apply Drawn0.step)⟩

/-! ### flongref02_within: function 61 -/
def flongref02_within.l0 : Nat → Int → List Int → Int → Option (Bool)
 | 0, _, _, _ => none
 | k + 1, x0, x1, x5 => if (wrap64 (x5 + 1)) < (x1.length : Int) then (if 0 ≤ x5 then (if x5 < (x1.length : Int) then (if x0 ≥ (rd x1 x5) then (if 0 ≤ (wrap64 (x5 + 1)) then (if x0 ≤ (rd x1 (wrap64 (x5 + 1))) then (some true) else (flongref02_within.l0 k x0 x1 (wrap64 (x5 + 2)))) else (none)) else (flongref02_within.l0 k x0 x1 (wrap64 (x5 + 2)))) else (none)) else (none)) else (some false)
def flongref02_within.f (k : Nat) (a0 : Int) (l1 : List Int) : Option (Bool) := flongref02_within.l0 k a0 l1 0
theorem flongref02_within.mono_l : ∀ k, (∀ y0 y1 y2, LeO (flongref02_within.l0 k y0 y1 y2) (flongref02_within.l0 (k + 1) y0 y1 y2))
 | 0 => fun _ _ _ r h => by simp [flongref02_within.l0] at h
 | k + 1 => by
  have ih0 := flongref02_within.mono_l k
  ·intro y0 y1 y2
   unfold flongref02_within.l0
   repeat' first
   | (with_reducible exact ih0 _ _ _)
   | (with_reducible exact LeO.refl _)
   | (with_reducible exact LeO.none _)
   | (with_reducible refine LeO.ite ?_ ?_)
   | (with_reducible refine LeO.bind ?_ (fun _ => ?_))
theorem flongref02_within.mono : ∀ a0 a1 k, LeO (flongref02_within.f k a0 a1) (flongref02_within.f (k + 1) a0 a1) := by
 intro a0 a1 k
 have ih0 := flongref02_within.mono_l k
 unfold flongref02_within.f
 repeat' first
   | (with_reducible exact ih0 _ _ _)
   | (with_reducible exact LeO.refl _)
   | (with_reducible exact LeO.none _)
   | (with_reducible refine LeO.ite ?_ ?_)
   | (with_reducible refine LeO.bind ?_ (fun _ => ?_))
theorem flongref02_within.calls (k : Nat) (a0 : Int) (A1 : Option Addr) (c1 : Nat) (l1 : List Int) (r : Bool) (w : World) (hr1 : Kd.C (Kd.int .i32) w A1 l1.length l1) (hc1 : l1.length ≤ c1) (h : flongref02_within.f k a0 l1 = some r) :
  Calls Tryd.prog 61 #[.int .i32 a0, .slice A1 l1.length c1] w fun e w' => e = .returned (.bool r) ∧ Drawn0 w w' := by
 have HR1 := Aside0.mk hr1
 have HC1 := Aside0.mk hc1
 clear hr1 hc1
 have H : (flongref02_within.l0 k a0 l1 0) = some r := h
 clear h
 have H' := Aside0.mk H
 clear H
 go_enter Tryd.func61, Tryd.ntmps61
 go_wp2
 go_loopg [5] k (fun kq v5 w' => ∃ (x5_1 : Int), v5 = .int .i64 x5_1 ∧ Aside0 (flongref02_within.l0 kq a0 l1 x5_1 = some r) ∧ Aside0 (kq ≤ k) ∧ Drawn0 w w')
 case atStart => exact ⟨(0), sA, H', ⟨Nat.le_refl _⟩, by repeat (first | exact Drawn0.refl _ | apply Drawn0.step)⟩
 case round =>
  clear H'
  try clear c1
  try clear p2
  obtain ⟨x5_1, rfl, HA, HK1, ⟨m1, rfl⟩⟩ := hrel
  cases gk with
  | zero => exact absurd HA.out (by simp [flongref02_within.l0])
  | succ k1 =>
   have H := HA.out
   clear HA
   simp only [flongref02_within.l0] at H
   by_cases c3 : (wrap64 (x5_1 + 1)) < (l1.length : Int)
   ·rw [if_pos c3] at H
    have c3b0 : decide ((wrap64 (x5_1 + 1)) < (l1.length : Int)) = true := decide_eq_true c3
    clear c3
    by_cases c4 : 0 ≤ x5_1
    ·rw [if_pos c4] at H
     have c4b0 : decide (0 ≤ x5_1) = true := decide_eq_true c4
     clear c4
     by_cases c5 : x5_1 < (l1.length : Int)
     ·rw [if_pos c5] at H
      have c5b0 : decide (x5_1 < (l1.length : Int)) = true := decide_eq_true c5
      clear c5
      by_cases c6 : a0 ≥ (rd l1 x5_1)
      ·rw [if_pos c6] at H
       have c6b0 : decide ((rd l1 x5_1) ≤ a0) = true := decide_eq_true c6
       clear c6
       obtain ⟨ji7, hji7⟩ : ∃ j_ : Int, (wrap64 (x5_1 + 1)) = j_ := ⟨_, rfl⟩
       replace H : (if 0 ≤ (ji7) then (if a0 ≤ (rd l1 (ji7)) then (some true) else (flongref02_within.l0 k1 a0 l1 (wrap64 (x5_1 + 2)))) else (none)) = some r := by first | (rw [hji7] at H; exact H) | (simp only [hji7] at H ⊢; exact H)
       (try rw [hji7] at c3b0)
       have hji7w : (IntKind.i64.wrap (x5_1 + 1)) = ji7 := (i64_w _).trans hji7
       by_cases c8 : 0 ≤ (ji7)
       ·rw [if_pos c8] at H
        have c8b0 : decide (0 ≤ (ji7)) = true := decide_eq_true c8
        clear c8
        by_cases c9 : a0 ≤ (rd l1 (ji7))
        ·rw [if_pos c9] at H
         have c9b0 : decide (a0 ≤ (rd l1 (ji7))) = true := decide_eq_true c9
         clear c9
         obtain rfl := Option.some.inj H
         have p266 : 0 ≤ (x5_1 : Int) := of_decide_eq_true asA
         have q266 : x5_1 < (l1.length : Int) := of_decide_eq_true asA
         obtain ⟨ad266, e266, hx266_0⟩ := Kd.at_int HR1.out x5_1 p266 q266
         cases e266
         replace p266 := eq_true p266
         replace q266 := eq_true q266
         have p267 : 0 ≤ ((ji7) : Int) := of_decide_eq_true asA
         have q267 : (ji7) < (l1.length : Int) := of_decide_eq_true asA
         obtain ⟨ad267, e267, hx267_0⟩ := Kd.at_int HR1.out (ji7) p267 q267
         obtain rfl : ad266 = ad267 := (by injection e267)
         replace p267 := eq_true p267
         replace q267 := eq_true q267
         go_wp2
         go_ret
         exact ⟨by first | rfl | (simp; done) | (simp only [← hji7] <;> (first | rfl | simp)) | (simp [*]; done), by repeat (first | exact Drawn0.refl _ | apply Drawn0.step)⟩
        ·rw [if_neg c9] at H
         have c9b0 : decide (a0 ≤ (rd l1 (ji7))) = false := decide_eq_false c9
         clear c9
         have H' := Aside0.mk H
         clear H
         have p266 : 0 ≤ (x5_1 : Int) := of_decide_eq_true asA
         have q266 : x5_1 < (l1.length : Int) := of_decide_eq_true asA
         obtain ⟨ad266, e266, hx266_0⟩ := Kd.at_int HR1.out x5_1 p266 q266
         cases e266
         replace p266 := eq_true p266
         replace q266 := eq_true q266
         have p267 : 0 ≤ ((ji7) : Int) := of_decide_eq_true asA
         have q267 : (ji7) < (l1.length : Int) := of_decide_eq_true asA
         obtain ⟨ad267, e267, hx267_0⟩ := Kd.at_int HR1.out (ji7) p267 q267
         obtain rfl : ad266 = ad267 := (by injection e267)
         replace p267 := eq_true p267
         replace q267 := eq_true q267
         go_wp2
         go_roundg k1
         case measure => have := HK1.out; omega
         case rel => exact ⟨(wrap64 (x5_1 + 2)), sA, H', ⟨by have := HK1.out; omega⟩, by repeat (first | exact Drawn0.refl _ | apply Drawn0.step)⟩
       ·rw [if_neg c8] at H
        exact absurd H (by simp)
      ·rw [if_neg c6] at H
       have c6b0 : decide ((rd l1 x5_1) ≤ a0) = false := decide_eq_false c6
       clear c6
       have H' := Aside0.mk H
       clear H
       have p266 : 0 ≤ (x5_1 : Int) := of_decide_eq_true asA
       have q266 : x5_1 < (l1.length : Int) := of_decide_eq_true asA
       obtain ⟨ad266, e266, hx266_0⟩ := Kd.at_int HR1.out x5_1 p266 q266
       cases e266
       replace p266 := eq_true p266
       replace q266 := eq_true q266
       go_wp2
       go_roundg k1
       case measure => have := HK1.out; omega
       case rel => exact ⟨(wrap64 (x5_1 + 2)), sA, H', ⟨by have := HK1.out; omega⟩, by repeat (first | exact Drawn0.refl _ | apply Drawn0.step)⟩
     ·rw [if_neg c5] at H
      exact absurd H (by simp)
    ·rw [if_neg c4] at H
     exact absurd H (by simp)
   ·rw [if_neg c3] at H
    have c3b0 : decide ((wrap64 (x5_1 + 1)) < (l1.length : Int)) = false := decide_eq_false c3
    clear c3
    obtain rfl := Option.some.inj H
    go_wp2
    go_ret
    exact ⟨sA, by repeat (first | exact Drawn0.refl _ | apply Drawn0.step)⟩

/-! ### flongref02_Width: function 43 -/
def flongref02_Width.j0 : Nat → Int → Bool → Option (Int)
 | 0, _, _ => none
 | k + 1, x0, x9 => if x9 = true then (some 0) else ((flongref02_within.f k x0 (([768, 879, 1155, 1161, 1425, 1469, 1552, 1562, 1611, 1631, 6832, 6911, 7616, 7679, 8203, 8207, 8400, 8447, 65024, 65039, 65056, 65071, 917760, 917999] : List Int))).bind fun t273 => (if t273 = true then (some 0) else ((flongref02_within.f k x0 (([4352, 4447, 9001, 9002, 11904, 12350, 12353, 13311, 13312, 19903, 19968, 42191, 43360, 43391, 44032, 55203, 63744, 64255, 65072, 65135, 65280, 65376, 65504, 65510, 127744, 128591, 129280, 129535, 131072, 196605, 196608, 262141] : List Int))).bind fun t277 => (if t277 = true then (some 2) else (some 1)))))
def flongref02_Width.f (k : Nat) (a0 : Int) : Option (Int) := (flongref02_Valid.f a0).bind fun t268 => (if t268 = true then ((flongref02_Control.f a0).bind fun t269 => (flongref02_Width.j0 k a0 t269)) else (flongref02_Width.j0 k a0 true))
theorem flongref02_Width.mono_l : ∀ k, (∀ y0 y1, LeO (flongref02_Width.j0 k y0 y1) (flongref02_Width.j0 (k + 1) y0 y1))
 | 0 => fun _ _ r h => by simp [flongref02_Width.j0] at h
 | k + 1 => by
  have ih0 := flongref02_Width.mono_l k
  ·intro y0 y1
   unfold flongref02_Width.j0
   repeat' first
   | (with_reducible exact ih0 _ _)
   | (with_reducible exact flongref02_within.mono _ _ _)
   | (with_reducible exact LeO.refl _)
   | (with_reducible exact LeO.none _)
   | (with_reducible refine LeO.ite ?_ ?_)
   | (with_reducible refine LeO.bind ?_ (fun _ => ?_))
theorem flongref02_Width.mono : ∀ a0 k, LeO (flongref02_Width.f k a0) (flongref02_Width.f (k + 1) a0) := by
 intro a0 k
 have ih0 := flongref02_Width.mono_l k
 unfold flongref02_Width.f
 repeat' first
   | (with_reducible exact ih0 _ _)
   | (with_reducible exact flongref02_within.mono _ _ _)
   | (with_reducible exact LeO.refl _)
   | (with_reducible exact LeO.none _)
   | (with_reducible refine LeO.ite ?_ ?_)
   | (with_reducible refine LeO.bind ?_ (fun _ => ?_))
theorem flongref02_Width.calls (k : Nat) (a0 : Int) (r : Int) (w : World) (h : flongref02_Width.f k a0 = some r) :
  Calls Tryd.prog 43 #[.int .i32 a0] w fun e w' => e = .returned (.int .i64 r) ∧ Below w.heap.size w w' := by
 have HB := Aside0.mk (Below.refl w.heap.size w)
 have H : ((flongref02_Valid.f a0).bind fun t268 => (if t268 = true then ((flongref02_Control.f a0).bind fun t269 => (flongref02_Width.j0 k a0 t269)) else (flongref02_Width.j0 k a0 true))) = some r := h
 clear h
 have HC2 := Aside0.mk H
 clear H
 go_enter Tryd.func43, Tryd.ntmps43
 go_upto_region 1 with (fail)
 go_cut [9] (fun v9 wc => ∃ (kq : Nat) (x9_1 : Bool), v9 = .bool x9_1 ∧ Aside0 (flongref02_Width.j0 kq a0 x9_1 = some r) ∧ Aside0 (kq ≤ k) ∧ Aside0 (Below w.heap.size w wc))
 case first =>
  have H := HC2.out
  clear HC2
  replace H := Option.bind_eq_some_iff.mp H
  obtain ⟨t268, A30, H⟩ := H
  replace H : (if t268 = true then ((flongref02_Control.f a0).bind fun t269 => (flongref02_Width.j0 k a0 t269)) else (flongref02_Width.j0 k a0 true)) = some r := H
  have A3 := Aside0.mk A30
  clear A30
  by_cases c4 : t268 = true
  ·subst c4
   have H1 : ((flongref02_Control.f a0).bind fun t269 => (flongref02_Width.j0 k a0 t269)) = some r := by rw [if_pos rfl] at H; exact H
   clear H
   have H := H1
   clear H1
   replace H := Option.bind_eq_some_iff.mp H
   obtain ⟨t269, A50, H⟩ := H
   replace H : (flongref02_Width.j0 k a0 t269) = some r := H
   have A5 := Aside0.mk A50
   clear A50
   have H' := Aside0.mk H
   clear H
   go_wp2_with (first | ((with_reducible refine gate_callee (f := 58) rfl ?_); refine goesL_ (some 4) rfl rfl Tryd.func58 (by kernel_rfl) rfl #[.int .i32 a0] rfl aP ?_; (with_reducible refine (flongref02_Valid.calls a0 true _ A3.out).mono ?_); rintro e w' ⟨rfl, ⟨nd, rfl⟩⟩; refine ⟨_, rfl, ?_⟩) | (go_at_call 60; (with_reducible refine (flongref02_Control.calls a0 t269 _ A5.out).mono ?_); rintro e w' ⟨rfl, ⟨nd, rfl⟩⟩))
   go_meet
   case rel => exact ⟨_, (t269), sA, H', ⟨by first | omega | exact Nat.le_refl _⟩, ⟨bA⟩⟩
  ·replace c4 := Bool.eq_false_iff.mpr c4
   subst c4
   have H1 : (flongref02_Width.j0 k a0 true) = some r := by rw [if_neg (show ¬ (false = true) by decide)] at H; exact H
   clear H
   have H := H1
   clear H1
   have H' := Aside0.mk H
   clear H
   go_wp2_with (first | ((with_reducible refine gate_callee (f := 58) rfl ?_); refine goesL_ (some 4) rfl rfl Tryd.func58 (by kernel_rfl) rfl #[.int .i32 a0] rfl aP ?_; (with_reducible refine (flongref02_Valid.calls a0 false _ A3.out).mono ?_); rintro e w' ⟨rfl, ⟨nd, rfl⟩⟩; refine ⟨_, rfl, ?_⟩))
   go_meet
   case rel => exact ⟨_, (true), sA, H', ⟨by first | omega | exact Nat.le_refl _⟩, ⟨bA⟩⟩
 case rest =>
  clear HC2
  try clear p2
  try clear c4
  try clear c5
  obtain ⟨kq, x9_1, rfl, HA, HJ1, HB⟩ := hcut
  cases kq with
  | zero => exact absurd HA.out (by simp [flongref02_Width.j0])
  | succ kj1 =>
   have H := HA.out
   clear HA
   simp only [flongref02_Width.j0] at H
   by_cases c6 : x9_1 = true
   ·subst c6
    have H1 : (some 0) = some r := by rw [if_pos rfl] at H; exact H
    clear H
    have H := H1
    clear H1
    obtain rfl := Option.some.inj H
    go_wp2
    go_ret
    exact ⟨eW, bA⟩
   ·replace c6 := Bool.eq_false_iff.mpr c6
    subst c6
    have H1 : ((flongref02_within.f kj1 a0 (([768, 879, 1155, 1161, 1425, 1469, 1552, 1562, 1611, 1631, 6832, 6911, 7616, 7679, 8203, 8207, 8400, 8447, 65024, 65039, 65056, 65071, 917760, 917999] : List Int))).bind fun t273 => (if t273 = true then (some 0) else ((flongref02_within.f kj1 a0 (([4352, 4447, 9001, 9002, 11904, 12350, 12353, 13311, 13312, 19903, 19968, 42191, 43360, 43391, 44032, 55203, 63744, 64255, 65072, 65135, 65280, 65376, 65504, 65510, 127744, 128591, 129280, 129535, 131072, 196605, 196608, 262141] : List Int))).bind fun t277 => (if t277 = true then (some 2) else (some 1))))) = some r := by rw [if_neg (show ¬ (false = true) by decide)] at H; exact H
    clear H
    have H := H1
    clear H1
    obtain ⟨y270, hy270⟩ : ∃ y_ : List Int, y_ = (([768, 879, 1155, 1161, 1425, 1469, 1552, 1562, 1611, 1631, 6832, 6911, 7616, 7679, 8203, 8207, 8400, 8447, 65024, 65039, 65056, 65071, 917760, 917999] : List Int)) := ⟨_, rfl⟩
    replace H : ((flongref02_within.f kj1 a0 y270).bind fun t273 => (if t273 = true then (some 0) else ((flongref02_within.f kj1 a0 (([4352, 4447, 9001, 9002, 11904, 12350, 12353, 13311, 13312, 19903, 19968, 42191, 43360, 43391, 44032, 55203, 63744, 64255, 65072, 65135, 65280, 65376, 65504, 65510, 127744, 128591, 129280, 129535, 131072, 196605, 196608, 262141] : List Int))).bind fun t277 => (if t277 = true then (some 2) else (some 1))))) = some r := hyA hy270 H
    have Ny270 := Aside0.mk hy270
    clear hy270
    replace H := Option.bind_eq_some_iff.mp H
    obtain ⟨t273, A70, H⟩ := H
    replace H : (if t273 = true then (some 0) else ((flongref02_within.f kj1 a0 (([4352, 4447, 9001, 9002, 11904, 12350, 12353, 13311, 13312, 19903, 19968, 42191, 43360, 43391, 44032, 55203, 63744, 64255, 65072, 65135, 65280, 65376, 65504, 65510, 127744, 128591, 129280, 129535, 131072, 196605, 196608, 262141] : List Int))).bind fun t277 => (if t277 = true then (some 2) else (some 1)))) = some r := H
    have A7 := Aside0.mk A70
    clear A70
    by_cases c8 : t273 = true
    ·subst c8
     have H1 : (some 0) = some r := by rw [if_pos rfl] at H; exact H
     clear H
     have H := H1
     clear H1
     obtain rfl := Option.some.inj H
     go_wp2_with (first | ((with_reducible refine gate_dst (N := 11) rfl ?_); refine Kd.R_lit (Kd.int .i32) _ 21 ?hg (N := 11) ?hd (xs := ([768, 879, 1155, 1161, 1425, 1469, 1552, 1562, 1611, 1631, 6832, 6911, 7616, 7679, 8203, 8207, 8400, 8447, 65024, 65039, 65056, 65071, 917760, 917999] : List Int)) (inner := [.int .i32 768, .int .i32 879, .int .i32 1155, .int .i32 1161, .int .i32 1425, .int .i32 1469, .int .i32 1552, .int .i32 1562, .int .i32 1611, .int .i32 1631, .int .i32 6832, .int .i32 6911, .int .i32 7616, .int .i32 7679, .int .i32 8203, .int .i32 8207, .int .i32 8400, .int .i32 8447, .int .i32 65024, .int .i32 65039, .int .i32 65056, .int .i32 65071, .int .i32 917760, .int .i32 917999]) (ok := fun _ => True) (okp := fun _ => True) ?hr ?hp (fun _ hk => hk) trivial (Below.refl _ _) (Nat.le_refl _) (by simp) ?_; (case hd => rfl); (case hg => rfl); (case hr => first | (go_simp; done) | (go_simp; rfl)); (case hp => exact (Reps.one (show Kd.M (Kd.int .i32) _ _ _ 768 [.int .i32 768] from rfl) (Reps.one (show Kd.M (Kd.int .i32) _ _ _ 879 [.int .i32 879] from rfl) (Reps.one (show Kd.M (Kd.int .i32) _ _ _ 1155 [.int .i32 1155] from rfl) (Reps.one (show Kd.M (Kd.int .i32) _ _ _ 1161 [.int .i32 1161] from rfl) (Reps.one (show Kd.M (Kd.int .i32) _ _ _ 1425 [.int .i32 1425] from rfl) (Reps.one (show Kd.M (Kd.int .i32) _ _ _ 1469 [.int .i32 1469] from rfl) (Reps.one (show Kd.M (Kd.int .i32) _ _ _ 1552 [.int .i32 1552] from rfl) (Reps.one (show Kd.M (Kd.int .i32) _ _ _ 1562 [.int .i32 1562] from rfl) (Reps.one (show Kd.M (Kd.int .i32) _ _ _ 1611 [.int .i32 1611] from rfl) (Reps.one (show Kd.M (Kd.int .i32) _ _ _ 1631 [.int .i32 1631] from rfl) (Reps.one (show Kd.M (Kd.int .i32) _ _ _ 6832 [.int .i32 6832] from rfl) (Reps.one (show Kd.M (Kd.int .i32) _ _ _ 6911 [.int .i32 6911] from rfl) (Reps.one (show Kd.M (Kd.int .i32) _ _ _ 7616 [.int .i32 7616] from rfl) (Reps.one (show Kd.M (Kd.int .i32) _ _ _ 7679 [.int .i32 7679] from rfl) (Reps.one (show Kd.M (Kd.int .i32) _ _ _ 8203 [.int .i32 8203] from rfl) (Reps.one (show Kd.M (Kd.int .i32) _ _ _ 8207 [.int .i32 8207] from rfl) (Reps.one (show Kd.M (Kd.int .i32) _ _ _ 8400 [.int .i32 8400] from rfl) (Reps.one (show Kd.M (Kd.int .i32) _ _ _ 8447 [.int .i32 8447] from rfl) (Reps.one (show Kd.M (Kd.int .i32) _ _ _ 65024 [.int .i32 65024] from rfl) (Reps.one (show Kd.M (Kd.int .i32) _ _ _ 65039 [.int .i32 65039] from rfl) (Reps.one (show Kd.M (Kd.int .i32) _ _ _ 65056 [.int .i32 65056] from rfl) (Reps.one (show Kd.M (Kd.int .i32) _ _ _ 65071 [.int .i32 65071] from rfl) (Reps.one (show Kd.M (Kd.int .i32) _ _ _ 917760 [.int .i32 917760] from rfl) (Reps.one (show Kd.M (Kd.int .i32) _ _ _ 917999 [.int .i32 917999] from rfl) (Reps.none _ _)))))))))))))))))))))))))); intro v271 w9 ho10 hb hg_ hnew_; clear hg_ hnew_; (first | rw [← Ny270.out] at ho10 | (simp only [Int.reduceToNat] at ho10; rw [← Ny270.out] at ho10)); have HO272 := Aside0.mk (Kd.R_lower ho10 (below_size bA)); replace HB := Aside0.mk (below_step bA hb); clear hb ho10; obtain ⟨Ao11, co11, eo11⟩ := Kd.R_slice HO272.out; subst eo11) | ((with_reducible refine gate_callee (f := 61) rfl ?_); refine goesL_ (some 12) rfl rfl Tryd.func61 (by kernel_rfl) rfl #[.int .i32 a0, .slice Ao11 y270.length co11] rfl aP ?_; (with_reducible refine (flongref02_within.calls kj1 a0 _ _ y270 true _ ?side1 ?side2 A7.out).mono ?_); (case side1 => repeat (first | exact (Kd.R_reads' HO272.out).2.2 | (with_reducible refine Kd.C_alloc ?_ _) | (with_reducible refine Kd.C_drewN ?_ _) | (with_reducible refine Kd.C_drew ?_))); (case side2 => exact (Kd.R_reads' HO272.out).2.1); rintro e w' ⟨rfl, ⟨nd, rfl⟩⟩; refine ⟨_, rfl, ?_⟩))
     go_ret
     exact ⟨eW, bA⟩
    ·replace c8 := Bool.eq_false_iff.mpr c8
     subst c8
     have H1 : ((flongref02_within.f kj1 a0 (([4352, 4447, 9001, 9002, 11904, 12350, 12353, 13311, 13312, 19903, 19968, 42191, 43360, 43391, 44032, 55203, 63744, 64255, 65072, 65135, 65280, 65376, 65504, 65510, 127744, 128591, 129280, 129535, 131072, 196605, 196608, 262141] : List Int))).bind fun t277 => (if t277 = true then (some 2) else (some 1))) = some r := by rw [if_neg (show ¬ (false = true) by decide)] at H; exact H
     clear H
     have H := H1
     clear H1
     obtain ⟨y274, hy274⟩ : ∃ y_ : List Int, y_ = (([4352, 4447, 9001, 9002, 11904, 12350, 12353, 13311, 13312, 19903, 19968, 42191, 43360, 43391, 44032, 55203, 63744, 64255, 65072, 65135, 65280, 65376, 65504, 65510, 127744, 128591, 129280, 129535, 131072, 196605, 196608, 262141] : List Int)) := ⟨_, rfl⟩
     replace H : ((flongref02_within.f kj1 a0 y274).bind fun t277 => (if t277 = true then (some 2) else (some 1))) = some r := hyA hy274 H
     have Ny274 := Aside0.mk hy274
     clear hy274
     replace H := Option.bind_eq_some_iff.mp H
     obtain ⟨t277, A120, H⟩ := H
     replace H : (if t277 = true then (some 2) else (some 1)) = some r := H
     have A12 := Aside0.mk A120
     clear A120
     by_cases c13 : t277 = true
     ·subst c13
      have H1 : (some 2) = some r := by rw [if_pos rfl] at H; exact H
      clear H
      have H := H1
      clear H1
      obtain rfl := Option.some.inj H
      go_wp2_with (first | ((with_reducible refine gate_dst (N := 11) rfl ?_); refine Kd.R_lit (Kd.int .i32) _ 21 ?hg (N := 11) ?hd (xs := ([768, 879, 1155, 1161, 1425, 1469, 1552, 1562, 1611, 1631, 6832, 6911, 7616, 7679, 8203, 8207, 8400, 8447, 65024, 65039, 65056, 65071, 917760, 917999] : List Int)) (inner := [.int .i32 768, .int .i32 879, .int .i32 1155, .int .i32 1161, .int .i32 1425, .int .i32 1469, .int .i32 1552, .int .i32 1562, .int .i32 1611, .int .i32 1631, .int .i32 6832, .int .i32 6911, .int .i32 7616, .int .i32 7679, .int .i32 8203, .int .i32 8207, .int .i32 8400, .int .i32 8447, .int .i32 65024, .int .i32 65039, .int .i32 65056, .int .i32 65071, .int .i32 917760, .int .i32 917999]) (ok := fun _ => True) (okp := fun _ => True) ?hr ?hp (fun _ hk => hk) trivial (Below.refl _ _) (Nat.le_refl _) (by simp) ?_; (case hd => rfl); (case hg => rfl); (case hr => first | (go_simp; done) | (go_simp; rfl)); (case hp => exact (Reps.one (show Kd.M (Kd.int .i32) _ _ _ 768 [.int .i32 768] from rfl) (Reps.one (show Kd.M (Kd.int .i32) _ _ _ 879 [.int .i32 879] from rfl) (Reps.one (show Kd.M (Kd.int .i32) _ _ _ 1155 [.int .i32 1155] from rfl) (Reps.one (show Kd.M (Kd.int .i32) _ _ _ 1161 [.int .i32 1161] from rfl) (Reps.one (show Kd.M (Kd.int .i32) _ _ _ 1425 [.int .i32 1425] from rfl) (Reps.one (show Kd.M (Kd.int .i32) _ _ _ 1469 [.int .i32 1469] from rfl) (Reps.one (show Kd.M (Kd.int .i32) _ _ _ 1552 [.int .i32 1552] from rfl) (Reps.one (show Kd.M (Kd.int .i32) _ _ _ 1562 [.int .i32 1562] from rfl) (Reps.one (show Kd.M (Kd.int .i32) _ _ _ 1611 [.int .i32 1611] from rfl) (Reps.one (show Kd.M (Kd.int .i32) _ _ _ 1631 [.int .i32 1631] from rfl) (Reps.one (show Kd.M (Kd.int .i32) _ _ _ 6832 [.int .i32 6832] from rfl) (Reps.one (show Kd.M (Kd.int .i32) _ _ _ 6911 [.int .i32 6911] from rfl) (Reps.one (show Kd.M (Kd.int .i32) _ _ _ 7616 [.int .i32 7616] from rfl) (Reps.one (show Kd.M (Kd.int .i32) _ _ _ 7679 [.int .i32 7679] from rfl) (Reps.one (show Kd.M (Kd.int .i32) _ _ _ 8203 [.int .i32 8203] from rfl) (Reps.one (show Kd.M (Kd.int .i32) _ _ _ 8207 [.int .i32 8207] from rfl) (Reps.one (show Kd.M (Kd.int .i32) _ _ _ 8400 [.int .i32 8400] from rfl) (Reps.one (show Kd.M (Kd.int .i32) _ _ _ 8447 [.int .i32 8447] from rfl) (Reps.one (show Kd.M (Kd.int .i32) _ _ _ 65024 [.int .i32 65024] from rfl) (Reps.one (show Kd.M (Kd.int .i32) _ _ _ 65039 [.int .i32 65039] from rfl) (Reps.one (show Kd.M (Kd.int .i32) _ _ _ 65056 [.int .i32 65056] from rfl) (Reps.one (show Kd.M (Kd.int .i32) _ _ _ 65071 [.int .i32 65071] from rfl) (Reps.one (show Kd.M (Kd.int .i32) _ _ _ 917760 [.int .i32 917760] from rfl) (Reps.one (show Kd.M (Kd.int .i32) _ _ _ 917999 [.int .i32 917999] from rfl) (Reps.none _ _)))))))))))))))))))))))))); intro v271 w14 ho15 hb hg_ hnew_; clear hg_ hnew_; (first | rw [← Ny270.out] at ho15 | (simp only [Int.reduceToNat] at ho15; rw [← Ny270.out] at ho15)); have HO272 := Aside0.mk (Kd.R_lower ho15 (below_size bA)); replace HB := Aside0.mk (below_step bA hb); clear hb ho15; obtain ⟨Ao16, co16, eo16⟩ := Kd.R_slice HO272.out; subst eo16) | ((with_reducible refine gate_callee (f := 61) rfl ?_); refine goesL_ (some 12) rfl rfl Tryd.func61 (by kernel_rfl) rfl #[.int .i32 a0, .slice Ao16 y270.length co16] rfl aP ?_; (with_reducible refine (flongref02_within.calls kj1 a0 _ _ y270 false _ ?side1 ?side2 A7.out).mono ?_); (case side1 => repeat (first | exact (Kd.R_reads' HO272.out).2.2 | (with_reducible refine Kd.C_alloc ?_ _) | (with_reducible refine Kd.C_drewN ?_ _) | (with_reducible refine Kd.C_drew ?_))); (case side2 => exact (Kd.R_reads' HO272.out).2.1); rintro e w' ⟨rfl, ⟨nd, rfl⟩⟩; refine ⟨_, rfl, ?_⟩) | ((with_reducible refine gate_dst (N := 14) rfl ?_); refine Kd.R_lit (Kd.int .i32) _ 21 ?hg (N := 14) ?hd (xs := ([4352, 4447, 9001, 9002, 11904, 12350, 12353, 13311, 13312, 19903, 19968, 42191, 43360, 43391, 44032, 55203, 63744, 64255, 65072, 65135, 65280, 65376, 65504, 65510, 127744, 128591, 129280, 129535, 131072, 196605, 196608, 262141] : List Int)) (inner := [.int .i32 4352, .int .i32 4447, .int .i32 9001, .int .i32 9002, .int .i32 11904, .int .i32 12350, .int .i32 12353, .int .i32 13311, .int .i32 13312, .int .i32 19903, .int .i32 19968, .int .i32 42191, .int .i32 43360, .int .i32 43391, .int .i32 44032, .int .i32 55203, .int .i32 63744, .int .i32 64255, .int .i32 65072, .int .i32 65135, .int .i32 65280, .int .i32 65376, .int .i32 65504, .int .i32 65510, .int .i32 127744, .int .i32 128591, .int .i32 129280, .int .i32 129535, .int .i32 131072, .int .i32 196605, .int .i32 196608, .int .i32 262141]) (ok := fun _ => True) (okp := fun _ => True) ?hr ?hp (fun _ hk => hk) trivial (Below.refl _ _) (Nat.le_refl _) (by simp) ?_; (case hd => rfl); (case hg => rfl); (case hr => first | (go_simp; done) | (go_simp; rfl)); (case hp => exact (Reps.one (show Kd.M (Kd.int .i32) _ _ _ 4352 [.int .i32 4352] from rfl) (Reps.one (show Kd.M (Kd.int .i32) _ _ _ 4447 [.int .i32 4447] from rfl) (Reps.one (show Kd.M (Kd.int .i32) _ _ _ 9001 [.int .i32 9001] from rfl) (Reps.one (show Kd.M (Kd.int .i32) _ _ _ 9002 [.int .i32 9002] from rfl) (Reps.one (show Kd.M (Kd.int .i32) _ _ _ 11904 [.int .i32 11904] from rfl) (Reps.one (show Kd.M (Kd.int .i32) _ _ _ 12350 [.int .i32 12350] from rfl) (Reps.one (show Kd.M (Kd.int .i32) _ _ _ 12353 [.int .i32 12353] from rfl) (Reps.one (show Kd.M (Kd.int .i32) _ _ _ 13311 [.int .i32 13311] from rfl) (Reps.one (show Kd.M (Kd.int .i32) _ _ _ 13312 [.int .i32 13312] from rfl) (Reps.one (show Kd.M (Kd.int .i32) _ _ _ 19903 [.int .i32 19903] from rfl) (Reps.one (show Kd.M (Kd.int .i32) _ _ _ 19968 [.int .i32 19968] from rfl) (Reps.one (show Kd.M (Kd.int .i32) _ _ _ 42191 [.int .i32 42191] from rfl) (Reps.one (show Kd.M (Kd.int .i32) _ _ _ 43360 [.int .i32 43360] from rfl) (Reps.one (show Kd.M (Kd.int .i32) _ _ _ 43391 [.int .i32 43391] from rfl) (Reps.one (show Kd.M (Kd.int .i32) _ _ _ 44032 [.int .i32 44032] from rfl) (Reps.one (show Kd.M (Kd.int .i32) _ _ _ 55203 [.int .i32 55203] from rfl) (Reps.one (show Kd.M (Kd.int .i32) _ _ _ 63744 [.int .i32 63744] from rfl) (Reps.one (show Kd.M (Kd.int .i32) _ _ _ 64255 [.int .i32 64255] from rfl) (Reps.one (show Kd.M (Kd.int .i32) _ _ _ 65072 [.int .i32 65072] from rfl) (Reps.one (show Kd.M (Kd.int .i32) _ _ _ 65135 [.int .i32 65135] from rfl) (Reps.one (show Kd.M (Kd.int .i32) _ _ _ 65280 [.int .i32 65280] from rfl) (Reps.one (show Kd.M (Kd.int .i32) _ _ _ 65376 [.int .i32 65376] from rfl) (Reps.one (show Kd.M (Kd.int .i32) _ _ _ 65504 [.int .i32 65504] from rfl) (Reps.one (show Kd.M (Kd.int .i32) _ _ _ 65510 [.int .i32 65510] from rfl) (Reps.one (show Kd.M (Kd.int .i32) _ _ _ 127744 [.int .i32 127744] from rfl) (Reps.one (show Kd.M (Kd.int .i32) _ _ _ 128591 [.int .i32 128591] from rfl) (Reps.one (show Kd.M (Kd.int .i32) _ _ _ 129280 [.int .i32 129280] from rfl) (Reps.one (show Kd.M (Kd.int .i32) _ _ _ 129535 [.int .i32 129535] from rfl) (Reps.one (show Kd.M (Kd.int .i32) _ _ _ 131072 [.int .i32 131072] from rfl) (Reps.one (show Kd.M (Kd.int .i32) _ _ _ 196605 [.int .i32 196605] from rfl) (Reps.one (show Kd.M (Kd.int .i32) _ _ _ 196608 [.int .i32 196608] from rfl) (Reps.one (show Kd.M (Kd.int .i32) _ _ _ 262141 [.int .i32 262141] from rfl) (Reps.none _ _)))))))))))))))))))))))))))))))))); intro v275 w17 ho18 hb hg_ hnew_; clear hg_ hnew_; (first | rw [← Ny274.out] at ho18 | (simp only [Int.reduceToNat] at ho18; rw [← Ny274.out] at ho18)); have n0_ := Aside0.mk (Kd.R_elder' (kR HO272) (Kd.R_base ho18) hb); have n1_ := Aside0.mk (Kd.R_lower (Kd.R_new' ho18 (Kd.R_lt (kR HO272))) (below_size bA)); have n2_ := Aside0.mk (below_step bA hb); clear HO272; clear HB; have HO272 := n0_; have HO276 := n1_; have HB := n2_; clear n0_ n1_ n2_; clear hb ho18; obtain ⟨Ao19, co19, eo19⟩ := Kd.R_slice HO276.out; subst eo19) | ((with_reducible refine gate_callee (f := 61) rfl ?_); refine goesL_ (some 15) rfl rfl Tryd.func61 (by kernel_rfl) rfl #[.int .i32 a0, .slice Ao19 y274.length co19] rfl aP ?_; (with_reducible refine (flongref02_within.calls kj1 a0 _ _ y274 true _ ?side1 ?side2 A12.out).mono ?_); (case side1 => repeat (first | exact (Kd.R_reads' HO276.out).2.2 | (with_reducible refine Kd.C_alloc ?_ _) | (with_reducible refine Kd.C_drewN ?_ _) | (with_reducible refine Kd.C_drew ?_))); (case side2 => exact (Kd.R_reads' HO276.out).2.1); rintro e w' ⟨rfl, ⟨nd, rfl⟩⟩; refine ⟨_, rfl, ?_⟩))
      go_ret
      exact ⟨eW, bA⟩
     ·replace c13 := Bool.eq_false_iff.mpr c13
      subst c13
      have H1 : (some 1) = some r := by rw [if_neg (show ¬ (false = true) by decide)] at H; exact H
      clear H
      have H := H1
      clear H1
      obtain rfl := Option.some.inj H
      go_wp2_with (first | ((with_reducible refine gate_dst (N := 11) rfl ?_); refine Kd.R_lit (Kd.int .i32) _ 21 ?hg (N := 11) ?hd (xs := ([768, 879, 1155, 1161, 1425, 1469, 1552, 1562, 1611, 1631, 6832, 6911, 7616, 7679, 8203, 8207, 8400, 8447, 65024, 65039, 65056, 65071, 917760, 917999] : List Int)) (inner := [.int .i32 768, .int .i32 879, .int .i32 1155, .int .i32 1161, .int .i32 1425, .int .i32 1469, .int .i32 1552, .int .i32 1562, .int .i32 1611, .int .i32 1631, .int .i32 6832, .int .i32 6911, .int .i32 7616, .int .i32 7679, .int .i32 8203, .int .i32 8207, .int .i32 8400, .int .i32 8447, .int .i32 65024, .int .i32 65039, .int .i32 65056, .int .i32 65071, .int .i32 917760, .int .i32 917999]) (ok := fun _ => True) (okp := fun _ => True) ?hr ?hp (fun _ hk => hk) trivial (Below.refl _ _) (Nat.le_refl _) (by simp) ?_; (case hd => rfl); (case hg => rfl); (case hr => first | (go_simp; done) | (go_simp; rfl)); (case hp => exact (Reps.one (show Kd.M (Kd.int .i32) _ _ _ 768 [.int .i32 768] from rfl) (Reps.one (show Kd.M (Kd.int .i32) _ _ _ 879 [.int .i32 879] from rfl) (Reps.one (show Kd.M (Kd.int .i32) _ _ _ 1155 [.int .i32 1155] from rfl) (Reps.one (show Kd.M (Kd.int .i32) _ _ _ 1161 [.int .i32 1161] from rfl) (Reps.one (show Kd.M (Kd.int .i32) _ _ _ 1425 [.int .i32 1425] from rfl) (Reps.one (show Kd.M (Kd.int .i32) _ _ _ 1469 [.int .i32 1469] from rfl) (Reps.one (show Kd.M (Kd.int .i32) _ _ _ 1552 [.int .i32 1552] from rfl) (Reps.one (show Kd.M (Kd.int .i32) _ _ _ 1562 [.int .i32 1562] from rfl) (Reps.one (show Kd.M (Kd.int .i32) _ _ _ 1611 [.int .i32 1611] from rfl) (Reps.one (show Kd.M (Kd.int .i32) _ _ _ 1631 [.int .i32 1631] from rfl) (Reps.one (show Kd.M (Kd.int .i32) _ _ _ 6832 [.int .i32 6832] from rfl) (Reps.one (show Kd.M (Kd.int .i32) _ _ _ 6911 [.int .i32 6911] from rfl) (Reps.one (show Kd.M (Kd.int .i32) _ _ _ 7616 [.int .i32 7616] from rfl) (Reps.one (show Kd.M (Kd.int .i32) _ _ _ 7679 [.int .i32 7679] from rfl) (Reps.one (show Kd.M (Kd.int .i32) _ _ _ 8203 [.int .i32 8203] from rfl) (Reps.one (show Kd.M (Kd.int .i32) _ _ _ 8207 [.int .i32 8207] from rfl) (Reps.one (show Kd.M (Kd.int .i32) _ _ _ 8400 [.int .i32 8400] from rfl) (Reps.one (show Kd.M (Kd.int .i32) _ _ _ 8447 [.int .i32 8447] from rfl) (Reps.one (show Kd.M (Kd.int .i32) _ _ _ 65024 [.int .i32 65024] from rfl) (Reps.one (show Kd.M (Kd.int .i32) _ _ _ 65039 [.int .i32 65039] from rfl) (Reps.one (show Kd.M (Kd.int .i32) _ _ _ 65056 [.int .i32 65056] from rfl) (Reps.one (show Kd.M (Kd.int .i32) _ _ _ 65071 [.int .i32 65071] from rfl) (Reps.one (show Kd.M (Kd.int .i32) _ _ _ 917760 [.int .i32 917760] from rfl) (Reps.one (show Kd.M (Kd.int .i32) _ _ _ 917999 [.int .i32 917999] from rfl) (Reps.none _ _)))))))))))))))))))))))))); intro v271 w20 ho21 hb hg_ hnew_; clear hg_ hnew_; (first | rw [← Ny270.out] at ho21 | (simp only [Int.reduceToNat] at ho21; rw [← Ny270.out] at ho21)); have HO272 := Aside0.mk (Kd.R_lower ho21 (below_size bA)); replace HB := Aside0.mk (below_step bA hb); clear hb ho21; obtain ⟨Ao22, co22, eo22⟩ := Kd.R_slice HO272.out; subst eo22) | ((with_reducible refine gate_callee (f := 61) rfl ?_); refine goesL_ (some 12) rfl rfl Tryd.func61 (by kernel_rfl) rfl #[.int .i32 a0, .slice Ao22 y270.length co22] rfl aP ?_; (with_reducible refine (flongref02_within.calls kj1 a0 _ _ y270 false _ ?side1 ?side2 A7.out).mono ?_); (case side1 => repeat (first | exact (Kd.R_reads' HO272.out).2.2 | (with_reducible refine Kd.C_alloc ?_ _) | (with_reducible refine Kd.C_drewN ?_ _) | (with_reducible refine Kd.C_drew ?_))); (case side2 => exact (Kd.R_reads' HO272.out).2.1); rintro e w' ⟨rfl, ⟨nd, rfl⟩⟩; refine ⟨_, rfl, ?_⟩) | ((with_reducible refine gate_dst (N := 14) rfl ?_); refine Kd.R_lit (Kd.int .i32) _ 21 ?hg (N := 14) ?hd (xs := ([4352, 4447, 9001, 9002, 11904, 12350, 12353, 13311, 13312, 19903, 19968, 42191, 43360, 43391, 44032, 55203, 63744, 64255, 65072, 65135, 65280, 65376, 65504, 65510, 127744, 128591, 129280, 129535, 131072, 196605, 196608, 262141] : List Int)) (inner := [.int .i32 4352, .int .i32 4447, .int .i32 9001, .int .i32 9002, .int .i32 11904, .int .i32 12350, .int .i32 12353, .int .i32 13311, .int .i32 13312, .int .i32 19903, .int .i32 19968, .int .i32 42191, .int .i32 43360, .int .i32 43391, .int .i32 44032, .int .i32 55203, .int .i32 63744, .int .i32 64255, .int .i32 65072, .int .i32 65135, .int .i32 65280, .int .i32 65376, .int .i32 65504, .int .i32 65510, .int .i32 127744, .int .i32 128591, .int .i32 129280, .int .i32 129535, .int .i32 131072, .int .i32 196605, .int .i32 196608, .int .i32 262141]) (ok := fun _ => True) (okp := fun _ => True) ?hr ?hp (fun _ hk => hk) trivial (Below.refl _ _) (Nat.le_refl _) (by simp) ?_; (case hd => rfl); (case hg => rfl); (case hr => first | (go_simp; done) | (go_simp; rfl)); (case hp => exact (Reps.one (show Kd.M (Kd.int .i32) _ _ _ 4352 [.int .i32 4352] from rfl) (Reps.one (show Kd.M (Kd.int .i32) _ _ _ 4447 [.int .i32 4447] from rfl) (Reps.one (show Kd.M (Kd.int .i32) _ _ _ 9001 [.int .i32 9001] from rfl) (Reps.one (show Kd.M (Kd.int .i32) _ _ _ 9002 [.int .i32 9002] from rfl) (Reps.one (show Kd.M (Kd.int .i32) _ _ _ 11904 [.int .i32 11904] from rfl) (Reps.one (show Kd.M (Kd.int .i32) _ _ _ 12350 [.int .i32 12350] from rfl) (Reps.one (show Kd.M (Kd.int .i32) _ _ _ 12353 [.int .i32 12353] from rfl) (Reps.one (show Kd.M (Kd.int .i32) _ _ _ 13311 [.int .i32 13311] from rfl) (Reps.one (show Kd.M (Kd.int .i32) _ _ _ 13312 [.int .i32 13312] from rfl) (Reps.one (show Kd.M (Kd.int .i32) _ _ _ 19903 [.int .i32 19903] from rfl) (Reps.one (show Kd.M (Kd.int .i32) _ _ _ 19968 [.int .i32 19968] from rfl) (Reps.one (show Kd.M (Kd.int .i32) _ _ _ 42191 [.int .i32 42191] from rfl) (Reps.one (show Kd.M (Kd.int .i32) _ _ _ 43360 [.int .i32 43360] from rfl) (Reps.one (show Kd.M (Kd.int .i32) _ _ _ 43391 [.int .i32 43391] from rfl) (Reps.one (show Kd.M (Kd.int .i32) _ _ _ 44032 [.int .i32 44032] from rfl) (Reps.one (show Kd.M (Kd.int .i32) _ _ _ 55203 [.int .i32 55203] from rfl) (Reps.one (show Kd.M (Kd.int .i32) _ _ _ 63744 [.int .i32 63744] from rfl) (Reps.one (show Kd.M (Kd.int .i32) _ _ _ 64255 [.int .i32 64255] from rfl) (Reps.one (show Kd.M (Kd.int .i32) _ _ _ 65072 [.int .i32 65072] from rfl) (Reps.one (show Kd.M (Kd.int .i32) _ _ _ 65135 [.int .i32 65135] from rfl) (Reps.one (show Kd.M (Kd.int .i32) _ _ _ 65280 [.int .i32 65280] from rfl) (Reps.one (show Kd.M (Kd.int .i32) _ _ _ 65376 [.int .i32 65376] from rfl) (Reps.one (show Kd.M (Kd.int .i32) _ _ _ 65504 [.int .i32 65504] from rfl) (Reps.one (show Kd.M (Kd.int .i32) _ _ _ 65510 [.int .i32 65510] from rfl) (Reps.one (show Kd.M (Kd.int .i32) _ _ _ 127744 [.int .i32 127744] from rfl) (Reps.one (show Kd.M (Kd.int .i32) _ _ _ 128591 [.int .i32 128591] from rfl) (Reps.one (show Kd.M (Kd.int .i32) _ _ _ 129280 [.int .i32 129280] from rfl) (Reps.one (show Kd.M (Kd.int .i32) _ _ _ 129535 [.int .i32 129535] from rfl) (Reps.one (show Kd.M (Kd.int .i32) _ _ _ 131072 [.int .i32 131072] from rfl) (Reps.one (show Kd.M (Kd.int .i32) _ _ _ 196605 [.int .i32 196605] from rfl) (Reps.one (show Kd.M (Kd.int .i32) _ _ _ 196608 [.int .i32 196608] from rfl) (Reps.one (show Kd.M (Kd.int .i32) _ _ _ 262141 [.int .i32 262141] from rfl) (Reps.none _ _)))))))))))))))))))))))))))))))))); intro v275 w23 ho24 hb hg_ hnew_; clear hg_ hnew_; (first | rw [← Ny274.out] at ho24 | (simp only [Int.reduceToNat] at ho24; rw [← Ny274.out] at ho24)); have n0_ := Aside0.mk (Kd.R_elder' (kR HO272) (Kd.R_base ho24) hb); have n1_ := Aside0.mk (Kd.R_lower (Kd.R_new' ho24 (Kd.R_lt (kR HO272))) (below_size bA)); have n2_ := Aside0.mk (below_step bA hb); clear HO272; clear HB; have HO272 := n0_; have HO276 := n1_; have HB := n2_; clear n0_ n1_ n2_; clear hb ho24; obtain ⟨Ao25, co25, eo25⟩ := Kd.R_slice HO276.out; subst eo25) | ((with_reducible refine gate_callee (f := 61) rfl ?_); refine goesL_ (some 15) rfl rfl Tryd.func61 (by kernel_rfl) rfl #[.int .i32 a0, .slice Ao25 y274.length co25] rfl aP ?_; (with_reducible refine (flongref02_within.calls kj1 a0 _ _ y274 false _ ?side1 ?side2 A12.out).mono ?_); (case side1 => repeat (first | exact (Kd.R_reads' HO276.out).2.2 | (with_reducible refine Kd.C_alloc ?_ _) | (with_reducible refine Kd.C_drewN ?_ _) | (with_reducible refine Kd.C_drew ?_))); (case side2 => exact (Kd.R_reads' HO276.out).2.1); rintro e w' ⟨rfl, ⟨nd, rfl⟩⟩; refine ⟨_, rfl, ?_⟩))
      go_ret
      exact ⟨eW, bA⟩

/-! ### flongref02_Safe: function 59 -/
def flongref02_Safe.f (a0 : Int) : Option (Int) := (flongref02_Valid.f a0).bind fun t278 => (if t278 = true then ((flongref02_Control.f a0).bind fun t279 => (if t279 = true then (some 65533) else (some a0))) else (some 65533))
theorem flongref02_Safe.calls (a0 : Int) (r : Int) (w : World) (h : flongref02_Safe.f a0 = some r) :
  Calls Tryd.prog 59 #[.int .i32 a0] w fun e w' => e = .returned (.int .i32 r) ∧ Drawn0 w w' := by
 have H : ((flongref02_Valid.f a0).bind fun t278 => (if t278 = true then ((flongref02_Control.f a0).bind fun t279 => (if t279 = true then (some 65533) else (some a0))) else (some 65533))) = some r := h
 clear h
 replace H := Option.bind_eq_some_iff.mp H
 obtain ⟨t278, A20, H⟩ := H
 replace H : (if t278 = true then ((flongref02_Control.f a0).bind fun t279 => (if t279 = true then (some 65533) else (some a0))) else (some 65533)) = some r := H
 have A2 := Aside0.mk A20
 clear A20
 by_cases c3 : t278 = true
 ·subst c3
  have H1 : ((flongref02_Control.f a0).bind fun t279 => (if t279 = true then (some 65533) else (some a0))) = some r := by rw [if_pos rfl] at H; exact H
  clear H
  have H := H1
  clear H1
  replace H := Option.bind_eq_some_iff.mp H
  obtain ⟨t279, A40, H⟩ := H
  replace H : (if t279 = true then (some 65533) else (some a0)) = some r := H
  have A4 := Aside0.mk A40
  clear A40
  by_cases c5 : t279 = true
  ·subst c5
   have H1 : (some 65533) = some r := by rw [if_pos rfl] at H; exact H
   clear H
   have H := H1
   clear H1
   obtain rfl := Option.some.inj H
   go_enter Tryd.func59, Tryd.ntmps59
   go_wp2_with (first | ((with_reducible refine gate_callee (f := 58) rfl ?_); refine goesL_ (some 4) rfl rfl Tryd.func58 (by kernel_rfl) rfl #[.int .i32 a0] rfl aP ?_; (with_reducible refine (flongref02_Valid.calls a0 true _ A2.out).mono ?_); rintro e w' ⟨rfl, ⟨nd, rfl⟩⟩; refine ⟨_, rfl, ?_⟩) | (go_at_call 60; (with_reducible refine (flongref02_Control.calls a0 true _ A4.out).mono ?_); rintro e w' ⟨rfl, ⟨nd, rfl⟩⟩))
   go_ret
   exact ⟨sA, by repeat (first | exact Drawn0.refl _ | apply Drawn0.step)⟩
  ·replace c5 := Bool.eq_false_iff.mpr c5
   subst c5
   have H1 : (some a0) = some r := by rw [if_neg (show ¬ (false = true) by decide)] at H; exact H
   clear H
   have H := H1
   clear H1
   obtain rfl := Option.some.inj H
   go_enter Tryd.func59, Tryd.ntmps59
   go_wp2_with (first | ((with_reducible refine gate_callee (f := 58) rfl ?_); refine goesL_ (some 4) rfl rfl Tryd.func58 (by kernel_rfl) rfl #[.int .i32 a0] rfl aP ?_; (with_reducible refine (flongref02_Valid.calls a0 true _ A2.out).mono ?_); rintro e w' ⟨rfl, ⟨nd, rfl⟩⟩; refine ⟨_, rfl, ?_⟩) | (go_at_call 60; (with_reducible refine (flongref02_Control.calls a0 false _ A4.out).mono ?_); rintro e w' ⟨rfl, ⟨nd, rfl⟩⟩))
   go_ret
   exact ⟨sA, by repeat (first | exact Drawn0.refl _ | apply Drawn0.step)⟩
 ·replace c3 := Bool.eq_false_iff.mpr c3
  subst c3
  have H1 : (some 65533) = some r := by rw [if_neg (show ¬ (false = true) by decide)] at H; exact H
  clear H
  have H := H1
  clear H1
  obtain rfl := Option.some.inj H
  go_enter Tryd.func59, Tryd.ntmps59
  go_wp2_with (first | ((with_reducible refine gate_callee (f := 58) rfl ?_); refine goesL_ (some 4) rfl rfl Tryd.func58 (by kernel_rfl) rfl #[.int .i32 a0] rfl aP ?_; (with_reducible refine (flongref02_Valid.calls a0 false _ A2.out).mono ?_); rintro e w' ⟨rfl, ⟨nd, rfl⟩⟩; refine ⟨_, rfl, ?_⟩))
  go_ret
  exact ⟨sA, by repeat (first | exact Drawn0.refl _ | apply Drawn0.step)⟩

/-! ### flongref03_Clean: function 42 -/
def flongref03_Clean.l0 : Nat → List (S44) → List (S44) → Int → Option ((List (S44)))
 | 0, _, _, _ => none
 | k + 1, x0, x3, x4 => if x4 < (x0.length : Int) then (if 0 ≤ x4 then ((flongref02_Safe.f ((rd_T44 x0 x4).f0)).bind fun t281 => (if ((rd_T44 x0 x4).f0) = 160 then (if (x3.length : Int) > 0 then (if x3.length < 17592186044416 then (flongref03_Clean.l0 k x0 (x3 ++ [(⟨32, Int.tmod ((rd_T44 x0 x4).f1) 4⟩ : S44)]) (wrap64 (x4 + 1))) else (none)) else ((flongref02_Width.f k 32).bind fun t287 => (if t287 > 0 then (if x3.length < 17592186044416 then (flongref03_Clean.l0 k x0 (x3 ++ [(⟨32, Int.tmod ((rd_T44 x0 x4).f1) 4⟩ : S44)]) (wrap64 (x4 + 1))) else (none)) else (flongref03_Clean.l0 k x0 x3 (wrap64 (x4 + 1)))))) else (if (x3.length : Int) > 0 then (if x3.length < 17592186044416 then (flongref03_Clean.l0 k x0 (x3 ++ [(⟨t281, Int.tmod ((rd_T44 x0 x4).f1) 4⟩ : S44)]) (wrap64 (x4 + 1))) else (none)) else ((flongref02_Width.f k t281).bind fun t296 => (if t296 > 0 then (if x3.length < 17592186044416 then (flongref03_Clean.l0 k x0 (x3 ++ [(⟨t281, Int.tmod ((rd_T44 x0 x4).f1) 4⟩ : S44)]) (wrap64 (x4 + 1))) else (none)) else (flongref03_Clean.l0 k x0 x3 (wrap64 (x4 + 1)))))))) else (none)) else (some x3)
def flongref03_Clean.f (k : Nat) (l0 : List (S44)) : Option ((List (S44))) := flongref03_Clean.l0 k l0 ([] : List (S44)) 0
theorem flongref03_Clean.mono_l : ∀ k, (∀ y0 y1 y2, LeO (flongref03_Clean.l0 k y0 y1 y2) (flongref03_Clean.l0 (k + 1) y0 y1 y2))
 | 0 => fun _ _ _ r h => by simp [flongref03_Clean.l0] at h
 | k + 1 => by
  have ih0 := flongref03_Clean.mono_l k
  ·intro y0 y1 y2
   unfold flongref03_Clean.l0
   repeat' first
   | (with_reducible exact ih0 _ _ _)
   | (with_reducible exact flongref02_Width.mono _ _)
   | (with_reducible exact LeO.refl _)
   | (with_reducible exact LeO.none _)
   | (with_reducible refine LeO.ite ?_ ?_)
   | (with_reducible refine LeO.bind ?_ (fun _ => ?_))
theorem flongref03_Clean.mono : ∀ a0 k, LeO (flongref03_Clean.f k a0) (flongref03_Clean.f (k + 1) a0) := by
 intro a0 k
 have ih0 := flongref03_Clean.mono_l k
 unfold flongref03_Clean.f
 repeat' first
   | (with_reducible exact ih0 _ _ _)
   | (with_reducible exact flongref02_Width.mono _ _)
   | (with_reducible exact LeO.refl _)
   | (with_reducible exact LeO.none _)
   | (with_reducible refine LeO.ite ?_ ?_)
   | (with_reducible refine LeO.bind ?_ (fun _ => ?_))
theorem flongref03_Clean.calls (k : Nat) (A0 : Option Addr) (c0 : Nat) (l0 : List (S44)) (r : List (S44)) (w : World) (hr0 : Kd.C k44 w A0 l0.length l0) (hc0 : l0.length ≤ c0) (h : flongref03_Clean.f k l0 = some r) :
  Calls Tryd.prog 42 #[.slice A0 l0.length c0] w fun e w' => ∃ v0_ : Value, e = .returned (v0_) ∧ Kd.R k44 44 w' w.heap.size (fun _ => True) v0_ r ∧ Below w.heap.size w w' := by
 have hu44 := Tryd.underlying44
 have HR0 := Aside0.mk hr0
 have HC0 := Aside0.mk hc0
 clear hr0 hc0
 have HB := Aside0.mk (Below.refl w.heap.size w)
 have H : (flongref03_Clean.l0 k l0 ([] : List (S44)) 0) = some r := h
 clear h
 have H' := Aside0.mk H
 clear H
 go_enter Tryd.func42, Tryd.ntmps42
 go_wp2
 go_loopg [3, 4] k (fun kq v3 v4 w' => ∃ (x3_1 : List (S44)) (x4_1 : Int), v4 = .int .i64 x4_1 ∧ Aside0 (flongref03_Clean.l0 kq l0 x3_1 x4_1 = some r) ∧ Aside0 (kq ≤ k) ∧ Aside0 (Kd.R k44 44 w' w.heap.size (fun _ => True) v3 x3_1) ∧ Aside0 (Below w.heap.size w w'))
 case atStart => exact ⟨(([] : List (S44))), (0), sA, H', ⟨Nat.le_refl _⟩, ⟨by first | exact Kd.R_nil _ _ _ _ _ | exact Kd.N_nil _ _ _ _ _ | exact Kd.V_nil _ _ _ _ _ | exact Kd.Q_nil _ _ _ _ _ | exact Kd.S_nil _ _ _ _ _⟩, ⟨bA⟩⟩
 case round =>
  clear H'
  obtain ⟨x3_1, x4_1, rfl, HA, HK1, HO_3, HB⟩ := hrel
  cases gk with
  | zero => exact absurd HA.out (by simp [flongref03_Clean.l0])
  | succ k1 =>
   have H := HA.out
   clear HA
   simp only [flongref03_Clean.l0] at H
   by_cases c2 : x4_1 < (l0.length : Int)
   ·rw [if_pos c2] at H
    have c2b0 : decide (x4_1 < (l0.length : Int)) = true := decide_eq_true c2
    clear c2
    by_cases c3 : 0 ≤ x4_1
    ·rw [if_pos c3] at H
     have c3b0 : decide (0 ≤ x4_1) = true := decide_eq_true c3
     clear c3
     replace H := Option.bind_eq_some_iff.mp H
     obtain ⟨t281, A40, H⟩ := H
     replace H : (if ((rd_T44 l0 x4_1).f0) = 160 then (if (x3_1.length : Int) > 0 then (if x3_1.length < 17592186044416 then (flongref03_Clean.l0 k1 l0 (x3_1 ++ [(⟨32, Int.tmod ((rd_T44 l0 x4_1).f1) 4⟩ : S44)]) (wrap64 (x4_1 + 1))) else (none)) else ((flongref02_Width.f k1 32).bind fun t287 => (if t287 > 0 then (if x3_1.length < 17592186044416 then (flongref03_Clean.l0 k1 l0 (x3_1 ++ [(⟨32, Int.tmod ((rd_T44 l0 x4_1).f1) 4⟩ : S44)]) (wrap64 (x4_1 + 1))) else (none)) else (flongref03_Clean.l0 k1 l0 x3_1 (wrap64 (x4_1 + 1)))))) else (if (x3_1.length : Int) > 0 then (if x3_1.length < 17592186044416 then (flongref03_Clean.l0 k1 l0 (x3_1 ++ [(⟨t281, Int.tmod ((rd_T44 l0 x4_1).f1) 4⟩ : S44)]) (wrap64 (x4_1 + 1))) else (none)) else ((flongref02_Width.f k1 t281).bind fun t296 => (if t296 > 0 then (if x3_1.length < 17592186044416 then (flongref03_Clean.l0 k1 l0 (x3_1 ++ [(⟨t281, Int.tmod ((rd_T44 l0 x4_1).f1) 4⟩ : S44)]) (wrap64 (x4_1 + 1))) else (none)) else (flongref03_Clean.l0 k1 l0 x3_1 (wrap64 (x4_1 + 1))))))) = some r := H
     have A4 := Aside0.mk A40
     clear A40
     by_cases c5 : ((rd_T44 l0 x4_1).f0) = 160
     ·rw [if_pos c5] at H
      have c5b0 : (((rd_T44 l0 x4_1).f0) == 160) = true := beq_iff_eq.mpr c5
      have c5b1 : (((rd_T44 l0 x4_1).f0) != 160) = false := bne_eq_false_iff_eq.mpr c5
      clear c5
      by_cases c6 : (x3_1.length : Int) > 0
      ·rw [if_pos c6] at H
       have c6b0 : decide (0 < (x3_1.length : Int)) = true := decide_eq_true c6
       have c6b1 : decide (0 < x3_1.length) = true := decide_eq_true (by omega)
       clear c6
       by_cases c7 : x3_1.length < 17592186044416
       ·rw [if_pos c7] at H
        have LMc7 := Aside0.mk c7
        clear c7
        obtain ⟨y284, hy284⟩ : ∃ y_ : List (S44), y_ = (x3_1 ++ [(⟨32, Int.tmod ((rd_T44 l0 x4_1).f1) 4⟩ : S44)]) := ⟨_, rfl⟩
        replace H : (flongref03_Clean.l0 k1 l0 y284 (wrap64 (x4_1 + 1))) = some r := hyA hy284 H
        have Ny284 := Aside0.mk hy284
        clear hy284
        have H' := Aside0.mk H
        clear H
        have p280 : 0 ≤ (x4_1 : Int) := of_decide_eq_true asA
        have q280 : x4_1 < (l0.length : Int) := of_decide_eq_true asA
        obtain ⟨ad280, e280, hx280_0, hx280_1⟩ := at_T44 HR0.out x4_1 p280 q280
        cases e280
        replace hx280_0 := (HB.out.cell (World.block_lt_of_cell? w _ hx280_0)).trans hx280_0
        replace hx280_1 := (HB.out.cell (World.block_lt_of_cell? w _ hx280_1)).trans hx280_1
        replace p280 := eq_true p280
        replace q280 := eq_true q280
        go_wp2_with (first | ((with_reducible refine gate_callee (f := 59) rfl ?_); refine goesL_ (some 17) rfl rfl Tryd.func59 (by kernel_rfl) rfl #[.int .i32 ((rd_T44 l0 x4_1).f0)] rfl aP ?_; (with_reducible refine (flongref02_Safe.calls ((rd_T44 l0 x4_1).f0) t281 _ A4.out).mono ?_); rintro e w' ⟨rfl, ⟨nd, rfl⟩⟩; refine ⟨_, rfl, ?_⟩; have p282 : 0 ≤ (x4_1 : Int) := of_decide_eq_true asA; have q282 : x4_1 < (l0.length : Int) := of_decide_eq_true asA; obtain ⟨ad282, e282, hx282_0, hx282_1⟩ := at_T44 HR0.out x4_1 p282 q282; obtain rfl : ad280 = ad282 := (by injection e282); replace hx282_0 := (HB.out.cell (World.block_lt_of_cell? w _ hx282_0)).trans hx282_0; replace hx282_1 := (HB.out.cell (World.block_lt_of_cell? w _ hx282_1)).trans hx282_1; replace p282 := eq_true p282; replace q282 := eq_true q282; obtain ⟨Ao8, co8, eo8⟩ := Kd.R_slice HO_3.out; subst eo8; have p283 : 0 ≤ (x4_1 : Int) := of_decide_eq_true asA; have q283 : x4_1 < (l0.length : Int) := of_decide_eq_true asA; obtain ⟨ad283, e283, hx283_0, hx283_1⟩ := at_T44 HR0.out x4_1 p283 q283; obtain rfl : ad280 = ad283 := (by injection e283); replace hx283_0 := (HB.out.cell (World.block_lt_of_cell? w _ hx283_0)).trans hx283_0; replace hx283_1 := (HB.out.cell (World.block_lt_of_cell? w _ hx283_1)).trans hx283_1; replace p283 := eq_true p283; replace q283 := eq_true q283) | ((with_reducible refine gate_builtin (b := .append) (xs := #[.tmp 32, .tmp 41]) rfl ?_); at_builtin; refine Kd.R_append k44 (w0 := w) w.heap.size rfl (.tmp 32) (.tmp 41) 33 44 (.agg #[(.int .i32 0), (.int .u8 0)]) 8 rfl Tryd.underlying33 info44 rfl (by decide) (by omega) (.slice Ao8 x3_1.length co8) x3_1 (⟨32, Int.tmod ((rd_T44 l0 x4_1).f1) 4⟩ : S44) [.int .i32 32, .int .u8 (Int.tmod ((rd_T44 l0 x4_1).f1) 4)] (fun _ => True) (fun _ => False) rfl rfl ?aP (fun _ hk => hk.elim) ?aF ?aO ?aB ?aS ?aL ?_; (case aP => exact k44_mkM _ _ _ (⟨32, Int.tmod ((rd_T44 l0 x4_1).f1) 4⟩ : S44)); (case aB => exact bA); (case aF => exact (fun _ _ => trivial)); (case aO => exact (kR HO_3)); (case aS => exact (below_size bA)); (case aL => have := LMc7.out; omega); intro v285 w9 ho hb hg hat; rw [← Ny284.out] at ho; have n0_ := Aside0.mk (hb); have n1_ := Aside0.mk (ho); clear HB; clear HO_3; have HB := n0_; have HO286 := n1_; clear n0_ n1_; clear ho hb hg hat))
        go_roundg k1
        case measure => have := HK1.out; omega
        case rel => exact ⟨(y284), (wrap64 (x4_1 + 1)), sA, H', ⟨by have := HK1.out; omega⟩, ⟨kR HO286⟩, ⟨bA⟩⟩
       ·rw [if_neg c7] at H
        exact absurd H (by simp)
      ·rw [if_neg c6] at H
       have c6b0 : decide (0 < (x3_1.length : Int)) = false := decide_eq_false c6
       have c6b1 : decide (0 < x3_1.length) = false := decide_eq_false (by omega)
       clear c6
       replace H := Option.bind_eq_some_iff.mp H
       obtain ⟨t287, A100, H⟩ := H
       replace H : (if t287 > 0 then (if x3_1.length < 17592186044416 then (flongref03_Clean.l0 k1 l0 (x3_1 ++ [(⟨32, Int.tmod ((rd_T44 l0 x4_1).f1) 4⟩ : S44)]) (wrap64 (x4_1 + 1))) else (none)) else (flongref03_Clean.l0 k1 l0 x3_1 (wrap64 (x4_1 + 1)))) = some r := H
       have A10 := Aside0.mk A100
       clear A100
       by_cases c11 : t287 > 0
       ·rw [if_pos c11] at H
        have c11b0 : decide (0 < t287) = true := decide_eq_true c11
        clear c11
        by_cases c12 : x3_1.length < 17592186044416
        ·rw [if_pos c12] at H
         have LMc12 := Aside0.mk c12
         clear c12
         obtain ⟨y289, hy289⟩ : ∃ y_ : List (S44), y_ = (x3_1 ++ [(⟨32, Int.tmod ((rd_T44 l0 x4_1).f1) 4⟩ : S44)]) := ⟨_, rfl⟩
         replace H : (flongref03_Clean.l0 k1 l0 y289 (wrap64 (x4_1 + 1))) = some r := hyA hy289 H
         have Ny289 := Aside0.mk hy289
         clear hy289
         have H' := Aside0.mk H
         clear H
         have p280 : 0 ≤ (x4_1 : Int) := of_decide_eq_true asA
         have q280 : x4_1 < (l0.length : Int) := of_decide_eq_true asA
         obtain ⟨ad280, e280, hx280_0, hx280_1⟩ := at_T44 HR0.out x4_1 p280 q280
         cases e280
         replace hx280_0 := (HB.out.cell (World.block_lt_of_cell? w _ hx280_0)).trans hx280_0
         replace hx280_1 := (HB.out.cell (World.block_lt_of_cell? w _ hx280_1)).trans hx280_1
         replace p280 := eq_true p280
         replace q280 := eq_true q280
         go_wp2_with (first | ((with_reducible refine gate_callee (f := 59) rfl ?_); refine goesL_ (some 17) rfl rfl Tryd.func59 (by kernel_rfl) rfl #[.int .i32 ((rd_T44 l0 x4_1).f0)] rfl aP ?_; (with_reducible refine (flongref02_Safe.calls ((rd_T44 l0 x4_1).f0) t281 _ A4.out).mono ?_); rintro e w' ⟨rfl, ⟨nd, rfl⟩⟩; refine ⟨_, rfl, ?_⟩; have p282 : 0 ≤ (x4_1 : Int) := of_decide_eq_true asA; have q282 : x4_1 < (l0.length : Int) := of_decide_eq_true asA; obtain ⟨ad282, e282, hx282_0, hx282_1⟩ := at_T44 HR0.out x4_1 p282 q282; obtain rfl : ad280 = ad282 := (by injection e282); replace hx282_0 := (HB.out.cell (World.block_lt_of_cell? w _ hx282_0)).trans hx282_0; replace hx282_1 := (HB.out.cell (World.block_lt_of_cell? w _ hx282_1)).trans hx282_1; replace p282 := eq_true p282; replace q282 := eq_true q282; obtain ⟨Ao13, co13, eo13⟩ := Kd.R_slice HO_3.out; subst eo13) | (go_at_call 43; (with_reducible refine (flongref02_Width.calls k1 32 t287 _ A10.out).mono ?_); rintro e w14 ⟨rfl, hb⟩; replace HO_3 := Aside0.mk (Kd.R_below (kR HO_3) hb); replace HB := Aside0.mk (below_step bA hb); (try clear hb); (try clear hb2); (try clear hk); (try clear hi); have p288 : 0 ≤ (x4_1 : Int) := of_decide_eq_true asA; have q288 : x4_1 < (l0.length : Int) := of_decide_eq_true asA; obtain ⟨ad288, e288, hx288_0, hx288_1⟩ := at_T44 HR0.out x4_1 p288 q288; obtain rfl : ad280 = ad288 := (by injection e288); replace hx288_0 := (HB.out.cell (World.block_lt_of_cell? w _ hx288_0)).trans hx288_0; replace hx288_1 := (HB.out.cell (World.block_lt_of_cell? w _ hx288_1)).trans hx288_1; replace p288 := eq_true p288; replace q288 := eq_true q288) | ((with_reducible refine gate_builtin (b := .append) (xs := #[.tmp 32, .tmp 41]) rfl ?_); at_builtin; refine Kd.R_append k44 (w0 := w) w.heap.size rfl (.tmp 32) (.tmp 41) 33 44 (.agg #[(.int .i32 0), (.int .u8 0)]) 8 rfl Tryd.underlying33 info44 rfl (by decide) (by omega) (.slice Ao13 x3_1.length co13) x3_1 (⟨32, Int.tmod ((rd_T44 l0 x4_1).f1) 4⟩ : S44) [.int .i32 32, .int .u8 (Int.tmod ((rd_T44 l0 x4_1).f1) 4)] (fun _ => True) (fun _ => False) rfl rfl ?aP (fun _ hk => hk.elim) ?aF ?aO ?aB ?aS ?aL ?_; (case aP => exact k44_mkM _ _ _ (⟨32, Int.tmod ((rd_T44 l0 x4_1).f1) 4⟩ : S44)); (case aB => exact bA); (case aF => exact (fun _ _ => trivial)); (case aO => exact (kR HO_3)); (case aS => exact (below_size bA)); (case aL => have := LMc12.out; omega); intro v290 w15 ho hb hg hat; rw [← Ny289.out] at ho; have n0_ := Aside0.mk (hb); have n1_ := Aside0.mk (ho); clear HB; clear HO_3; have HB := n0_; have HO291 := n1_; clear n0_ n1_; clear ho hb hg hat))
         go_roundg k1
         case measure => have := HK1.out; omega
         case rel => exact ⟨(y289), (wrap64 (x4_1 + 1)), sA, H', ⟨by have := HK1.out; omega⟩, ⟨kR HO291⟩, ⟨bA⟩⟩
        ·rw [if_neg c12] at H
         exact absurd H (by simp)
       ·rw [if_neg c11] at H
        have c11b0 : decide (0 < t287) = false := decide_eq_false c11
        clear c11
        have H' := Aside0.mk H
        clear H
        have p280 : 0 ≤ (x4_1 : Int) := of_decide_eq_true asA
        have q280 : x4_1 < (l0.length : Int) := of_decide_eq_true asA
        obtain ⟨ad280, e280, hx280_0, hx280_1⟩ := at_T44 HR0.out x4_1 p280 q280
        cases e280
        replace hx280_0 := (HB.out.cell (World.block_lt_of_cell? w _ hx280_0)).trans hx280_0
        replace hx280_1 := (HB.out.cell (World.block_lt_of_cell? w _ hx280_1)).trans hx280_1
        replace p280 := eq_true p280
        replace q280 := eq_true q280
        go_wp2_with (first | ((with_reducible refine gate_callee (f := 59) rfl ?_); refine goesL_ (some 17) rfl rfl Tryd.func59 (by kernel_rfl) rfl #[.int .i32 ((rd_T44 l0 x4_1).f0)] rfl aP ?_; (with_reducible refine (flongref02_Safe.calls ((rd_T44 l0 x4_1).f0) t281 _ A4.out).mono ?_); rintro e w' ⟨rfl, ⟨nd, rfl⟩⟩; refine ⟨_, rfl, ?_⟩; have p282 : 0 ≤ (x4_1 : Int) := of_decide_eq_true asA; have q282 : x4_1 < (l0.length : Int) := of_decide_eq_true asA; obtain ⟨ad282, e282, hx282_0, hx282_1⟩ := at_T44 HR0.out x4_1 p282 q282; obtain rfl : ad280 = ad282 := (by injection e282); replace hx282_0 := (HB.out.cell (World.block_lt_of_cell? w _ hx282_0)).trans hx282_0; replace hx282_1 := (HB.out.cell (World.block_lt_of_cell? w _ hx282_1)).trans hx282_1; replace p282 := eq_true p282; replace q282 := eq_true q282; obtain ⟨Ao16, co16, eo16⟩ := Kd.R_slice HO_3.out; subst eo16) | (go_at_call 43; (with_reducible refine (flongref02_Width.calls k1 32 t287 _ A10.out).mono ?_); rintro e w17 ⟨rfl, hb⟩; replace HO_3 := Aside0.mk (Kd.R_below (kR HO_3) hb); replace HB := Aside0.mk (below_step bA hb); (try clear hb); (try clear hb2); (try clear hk); (try clear hi)))
        go_roundg k1
        case measure => have := HK1.out; omega
        case rel => exact ⟨(x3_1), (wrap64 (x4_1 + 1)), sA, H', ⟨by have := HK1.out; omega⟩, ⟨kR HO_3⟩, ⟨bA⟩⟩
     ·rw [if_neg c5] at H
      have c5b0 : (((rd_T44 l0 x4_1).f0) == 160) = false := beq_eq_false_iff_ne.mpr c5
      have c5b1 : (((rd_T44 l0 x4_1).f0) != 160) = true := bne_iff_ne.mpr c5
      by_cases c18 : (x3_1.length : Int) > 0
      ·rw [if_pos c18] at H
       have c18b0 : decide (0 < (x3_1.length : Int)) = true := decide_eq_true c18
       have c18b1 : decide (0 < x3_1.length) = true := decide_eq_true (by omega)
       clear c18
       by_cases c19 : x3_1.length < 17592186044416
       ·rw [if_pos c19] at H
        have LMc19 := Aside0.mk c19
        clear c19
        obtain ⟨y293, hy293⟩ : ∃ y_ : List (S44), y_ = (x3_1 ++ [(⟨t281, Int.tmod ((rd_T44 l0 x4_1).f1) 4⟩ : S44)]) := ⟨_, rfl⟩
        replace H : (flongref03_Clean.l0 k1 l0 y293 (wrap64 (x4_1 + 1))) = some r := hyA hy293 H
        have Ny293 := Aside0.mk hy293
        clear hy293
        have H' := Aside0.mk H
        clear H
        have p280 : 0 ≤ (x4_1 : Int) := of_decide_eq_true asA
        have q280 : x4_1 < (l0.length : Int) := of_decide_eq_true asA
        obtain ⟨ad280, e280, hx280_0, hx280_1⟩ := at_T44 HR0.out x4_1 p280 q280
        cases e280
        replace hx280_0 := (HB.out.cell (World.block_lt_of_cell? w _ hx280_0)).trans hx280_0
        replace hx280_1 := (HB.out.cell (World.block_lt_of_cell? w _ hx280_1)).trans hx280_1
        replace p280 := eq_true p280
        replace q280 := eq_true q280
        go_wp2_with (first | ((with_reducible refine gate_callee (f := 59) rfl ?_); refine goesL_ (some 17) rfl rfl Tryd.func59 (by kernel_rfl) rfl #[.int .i32 ((rd_T44 l0 x4_1).f0)] rfl aP ?_; (with_reducible refine (flongref02_Safe.calls ((rd_T44 l0 x4_1).f0) t281 _ A4.out).mono ?_); rintro e w' ⟨rfl, ⟨nd, rfl⟩⟩; refine ⟨_, rfl, ?_⟩; have p282 : 0 ≤ (x4_1 : Int) := of_decide_eq_true asA; have q282 : x4_1 < (l0.length : Int) := of_decide_eq_true asA; obtain ⟨ad282, e282, hx282_0, hx282_1⟩ := at_T44 HR0.out x4_1 p282 q282; obtain rfl : ad280 = ad282 := (by injection e282); replace hx282_0 := (HB.out.cell (World.block_lt_of_cell? w _ hx282_0)).trans hx282_0; replace hx282_1 := (HB.out.cell (World.block_lt_of_cell? w _ hx282_1)).trans hx282_1; replace p282 := eq_true p282; replace q282 := eq_true q282; obtain ⟨Ao20, co20, eo20⟩ := Kd.R_slice HO_3.out; subst eo20; have p292 : 0 ≤ (x4_1 : Int) := of_decide_eq_true asA; have q292 : x4_1 < (l0.length : Int) := of_decide_eq_true asA; obtain ⟨ad292, e292, hx292_0, hx292_1⟩ := at_T44 HR0.out x4_1 p292 q292; obtain rfl : ad280 = ad292 := (by injection e292); replace hx292_0 := (HB.out.cell (World.block_lt_of_cell? w _ hx292_0)).trans hx292_0; replace hx292_1 := (HB.out.cell (World.block_lt_of_cell? w _ hx292_1)).trans hx292_1; replace p292 := eq_true p292; replace q292 := eq_true q292) | ((with_reducible refine gate_builtin (b := .append) (xs := #[.tmp 32, .tmp 41]) rfl ?_); at_builtin; refine Kd.R_append k44 (w0 := w) w.heap.size rfl (.tmp 32) (.tmp 41) 33 44 (.agg #[(.int .i32 0), (.int .u8 0)]) 8 rfl Tryd.underlying33 info44 rfl (by decide) (by omega) (.slice Ao20 x3_1.length co20) x3_1 (⟨t281, Int.tmod ((rd_T44 l0 x4_1).f1) 4⟩ : S44) [.int .i32 t281, .int .u8 (Int.tmod ((rd_T44 l0 x4_1).f1) 4)] (fun _ => True) (fun _ => False) rfl rfl ?aP (fun _ hk => hk.elim) ?aF ?aO ?aB ?aS ?aL ?_; (case aP => exact k44_mkM _ _ _ (⟨t281, Int.tmod ((rd_T44 l0 x4_1).f1) 4⟩ : S44)); (case aB => exact bA); (case aF => exact (fun _ _ => trivial)); (case aO => exact (kR HO_3)); (case aS => exact (below_size bA)); (case aL => have := LMc19.out; omega); intro v294 w21 ho hb hg hat; rw [← Ny293.out] at ho; have n0_ := Aside0.mk (hb); have n1_ := Aside0.mk (ho); clear HB; clear HO_3; have HB := n0_; have HO295 := n1_; clear n0_ n1_; clear ho hb hg hat))
        go_roundg k1
        case measure => have := HK1.out; omega
        case rel => exact ⟨(y293), (wrap64 (x4_1 + 1)), sA, H', ⟨by have := HK1.out; omega⟩, ⟨kR HO295⟩, ⟨bA⟩⟩
       ·rw [if_neg c19] at H
        exact absurd H (by simp)
      ·rw [if_neg c18] at H
       have c18b0 : decide (0 < (x3_1.length : Int)) = false := decide_eq_false c18
       have c18b1 : decide (0 < x3_1.length) = false := decide_eq_false (by omega)
       clear c18
       replace H := Option.bind_eq_some_iff.mp H
       obtain ⟨t296, A220, H⟩ := H
       replace H : (if t296 > 0 then (if x3_1.length < 17592186044416 then (flongref03_Clean.l0 k1 l0 (x3_1 ++ [(⟨t281, Int.tmod ((rd_T44 l0 x4_1).f1) 4⟩ : S44)]) (wrap64 (x4_1 + 1))) else (none)) else (flongref03_Clean.l0 k1 l0 x3_1 (wrap64 (x4_1 + 1)))) = some r := H
       have A22 := Aside0.mk A220
       clear A220
       by_cases c23 : t296 > 0
       ·rw [if_pos c23] at H
        have c23b0 : decide (0 < t296) = true := decide_eq_true c23
        clear c23
        by_cases c24 : x3_1.length < 17592186044416
        ·rw [if_pos c24] at H
         have LMc24 := Aside0.mk c24
         clear c24
         obtain ⟨y298, hy298⟩ : ∃ y_ : List (S44), y_ = (x3_1 ++ [(⟨t281, Int.tmod ((rd_T44 l0 x4_1).f1) 4⟩ : S44)]) := ⟨_, rfl⟩
         replace H : (flongref03_Clean.l0 k1 l0 y298 (wrap64 (x4_1 + 1))) = some r := hyA hy298 H
         have Ny298 := Aside0.mk hy298
         clear hy298
         have H' := Aside0.mk H
         clear H
         have p280 : 0 ≤ (x4_1 : Int) := of_decide_eq_true asA
         have q280 : x4_1 < (l0.length : Int) := of_decide_eq_true asA
         obtain ⟨ad280, e280, hx280_0, hx280_1⟩ := at_T44 HR0.out x4_1 p280 q280
         cases e280
         replace hx280_0 := (HB.out.cell (World.block_lt_of_cell? w _ hx280_0)).trans hx280_0
         replace hx280_1 := (HB.out.cell (World.block_lt_of_cell? w _ hx280_1)).trans hx280_1
         replace p280 := eq_true p280
         replace q280 := eq_true q280
         go_wp2_with (first | ((with_reducible refine gate_callee (f := 59) rfl ?_); refine goesL_ (some 17) rfl rfl Tryd.func59 (by kernel_rfl) rfl #[.int .i32 ((rd_T44 l0 x4_1).f0)] rfl aP ?_; (with_reducible refine (flongref02_Safe.calls ((rd_T44 l0 x4_1).f0) t281 _ A4.out).mono ?_); rintro e w' ⟨rfl, ⟨nd, rfl⟩⟩; refine ⟨_, rfl, ?_⟩; have p282 : 0 ≤ (x4_1 : Int) := of_decide_eq_true asA; have q282 : x4_1 < (l0.length : Int) := of_decide_eq_true asA; obtain ⟨ad282, e282, hx282_0, hx282_1⟩ := at_T44 HR0.out x4_1 p282 q282; obtain rfl : ad280 = ad282 := (by injection e282); replace hx282_0 := (HB.out.cell (World.block_lt_of_cell? w _ hx282_0)).trans hx282_0; replace hx282_1 := (HB.out.cell (World.block_lt_of_cell? w _ hx282_1)).trans hx282_1; replace p282 := eq_true p282; replace q282 := eq_true q282; obtain ⟨Ao25, co25, eo25⟩ := Kd.R_slice HO_3.out; subst eo25) | (go_at_call 43; (with_reducible refine (flongref02_Width.calls k1 t281 t296 _ A22.out).mono ?_); rintro e w26 ⟨rfl, hb⟩; replace HO_3 := Aside0.mk (Kd.R_below (kR HO_3) hb); replace HB := Aside0.mk (below_step bA hb); (try clear hb); (try clear hb2); (try clear hk); (try clear hi); have p297 : 0 ≤ (x4_1 : Int) := of_decide_eq_true asA; have q297 : x4_1 < (l0.length : Int) := of_decide_eq_true asA; obtain ⟨ad297, e297, hx297_0, hx297_1⟩ := at_T44 HR0.out x4_1 p297 q297; obtain rfl : ad280 = ad297 := (by injection e297); replace hx297_0 := (HB.out.cell (World.block_lt_of_cell? w _ hx297_0)).trans hx297_0; replace hx297_1 := (HB.out.cell (World.block_lt_of_cell? w _ hx297_1)).trans hx297_1; replace p297 := eq_true p297; replace q297 := eq_true q297) | ((with_reducible refine gate_builtin (b := .append) (xs := #[.tmp 32, .tmp 41]) rfl ?_); at_builtin; refine Kd.R_append k44 (w0 := w) w.heap.size rfl (.tmp 32) (.tmp 41) 33 44 (.agg #[(.int .i32 0), (.int .u8 0)]) 8 rfl Tryd.underlying33 info44 rfl (by decide) (by omega) (.slice Ao25 x3_1.length co25) x3_1 (⟨t281, Int.tmod ((rd_T44 l0 x4_1).f1) 4⟩ : S44) [.int .i32 t281, .int .u8 (Int.tmod ((rd_T44 l0 x4_1).f1) 4)] (fun _ => True) (fun _ => False) rfl rfl ?aP (fun _ hk => hk.elim) ?aF ?aO ?aB ?aS ?aL ?_; (case aP => exact k44_mkM _ _ _ (⟨t281, Int.tmod ((rd_T44 l0 x4_1).f1) 4⟩ : S44)); (case aB => exact bA); (case aF => exact (fun _ _ => trivial)); (case aO => exact (kR HO_3)); (case aS => exact (below_size bA)); (case aL => have := LMc24.out; omega); intro v299 w27 ho hb hg hat; rw [← Ny298.out] at ho; have n0_ := Aside0.mk (hb); have n1_ := Aside0.mk (ho); clear HB; clear HO_3; have HB := n0_; have HO300 := n1_; clear n0_ n1_; clear ho hb hg hat))
         go_roundg k1
         case measure => have := HK1.out; omega
         case rel => exact ⟨(y298), (wrap64 (x4_1 + 1)), sA, H', ⟨by have := HK1.out; omega⟩, ⟨kR HO300⟩, ⟨bA⟩⟩
        ·rw [if_neg c24] at H
         exact absurd H (by simp)
       ·rw [if_neg c23] at H
        have c23b0 : decide (0 < t296) = false := decide_eq_false c23
        clear c23
        have H' := Aside0.mk H
        clear H
        have p280 : 0 ≤ (x4_1 : Int) := of_decide_eq_true asA
        have q280 : x4_1 < (l0.length : Int) := of_decide_eq_true asA
        obtain ⟨ad280, e280, hx280_0, hx280_1⟩ := at_T44 HR0.out x4_1 p280 q280
        cases e280
        replace hx280_0 := (HB.out.cell (World.block_lt_of_cell? w _ hx280_0)).trans hx280_0
        replace hx280_1 := (HB.out.cell (World.block_lt_of_cell? w _ hx280_1)).trans hx280_1
        replace p280 := eq_true p280
        replace q280 := eq_true q280
        go_wp2_with (first | ((with_reducible refine gate_callee (f := 59) rfl ?_); refine goesL_ (some 17) rfl rfl Tryd.func59 (by kernel_rfl) rfl #[.int .i32 ((rd_T44 l0 x4_1).f0)] rfl aP ?_; (with_reducible refine (flongref02_Safe.calls ((rd_T44 l0 x4_1).f0) t281 _ A4.out).mono ?_); rintro e w' ⟨rfl, ⟨nd, rfl⟩⟩; refine ⟨_, rfl, ?_⟩; have p282 : 0 ≤ (x4_1 : Int) := of_decide_eq_true asA; have q282 : x4_1 < (l0.length : Int) := of_decide_eq_true asA; obtain ⟨ad282, e282, hx282_0, hx282_1⟩ := at_T44 HR0.out x4_1 p282 q282; obtain rfl : ad280 = ad282 := (by injection e282); replace hx282_0 := (HB.out.cell (World.block_lt_of_cell? w _ hx282_0)).trans hx282_0; replace hx282_1 := (HB.out.cell (World.block_lt_of_cell? w _ hx282_1)).trans hx282_1; replace p282 := eq_true p282; replace q282 := eq_true q282; obtain ⟨Ao28, co28, eo28⟩ := Kd.R_slice HO_3.out; subst eo28) | (go_at_call 43; (with_reducible refine (flongref02_Width.calls k1 t281 t296 _ A22.out).mono ?_); rintro e w29 ⟨rfl, hb⟩; replace HO_3 := Aside0.mk (Kd.R_below (kR HO_3) hb); replace HB := Aside0.mk (below_step bA hb); (try clear hb); (try clear hb2); (try clear hk); (try clear hi)))
        go_roundg k1
        case measure => have := HK1.out; omega
        case rel => exact ⟨(x3_1), (wrap64 (x4_1 + 1)), sA, H', ⟨by have := HK1.out; omega⟩, ⟨kR HO_3⟩, ⟨bA⟩⟩
    ·rw [if_neg c3] at H
     exact absurd H (by simp)
   ·rw [if_neg c2] at H
    have c2b0 : decide (x4_1 < (l0.length : Int)) = false := decide_eq_false c2
    clear c2
    obtain rfl := Option.some.inj H
    go_wp2
    go_ret
    exact ⟨_, eW, kR HO_3, bA⟩

/-! ### flongref17_Normal: function 25 -/
mutual
def flongref17_Normal.l0 : Nat → List (S44) → List (S44) → Int → Option ((List (S44)))
 | 0, _, _, _ => none
 | k + 1, x3, x4, x5 => if x5 < (x3.length : Int) then (if 0 ≤ x5 then (if x5 > 0 then ((flongref02_Width.f k ((rd_T44 x3 x5).f0)).bind fun t309 => (flongref17_Normal.j1 k x3 x4 x5 (t309 == 0) ((rd_T44 x3 x5).f0) ((rd_T44 x3 x5).f1))) else (flongref17_Normal.j1 k x3 x4 x5 false ((rd_T44 x3 x5).f0) ((rd_T44 x3 x5).f1))) else (none)) else (some x4)
def flongref17_Normal.j1 : Nat → List (S44) → List (S44) → Int → Bool → Int → Int → Option ((List (S44)))
 | 0, _, _, _, _, _, _ => none
 | k + 1, x3, x4, x5, x27, x309000, x309001 => if x27 = true then (if 0 ≤ (wrap64 (x5 - 1)) then (if (wrap64 (x5 - 1)) < (x4.length : Int) then (if x309000 = 32 then (if x4.length < 17592186044416 then (flongref17_Normal.l0 k x3 (x4 ++ [(⟨x309000, 0⟩ : S44)]) (wrap64 (x5 + 1))) else (none)) else (if x4.length < 17592186044416 then (flongref17_Normal.l0 k x3 (x4 ++ [(⟨x309000, (rd_T44 x4 (wrap64 (x5 - 1))).f1⟩ : S44)]) (wrap64 (x5 + 1))) else (none))) else (none)) else (none)) else (if x309000 = 32 then (if x4.length < 17592186044416 then (flongref17_Normal.l0 k x3 (x4 ++ [(⟨x309000, 0⟩ : S44)]) (wrap64 (x5 + 1))) else (none)) else (if x4.length < 17592186044416 then (flongref17_Normal.l0 k x3 (x4 ++ [(⟨x309000, x309001⟩ : S44)]) (wrap64 (x5 + 1))) else (none)))
end
def flongref17_Normal.f (k : Nat) (l0 : List (S44)) : Option ((List (S44))) := (flongref03_Clean.f k l0).bind fun t301 => ((flongref03_Trim.f k t301).bind fun t304 => (flongref17_Normal.l0 k t304 ([] : List (S44)) 0))
theorem flongref17_Normal.mono_l : ∀ k, (∀ y0 y1 y2, LeO (flongref17_Normal.l0 k y0 y1 y2) (flongref17_Normal.l0 (k + 1) y0 y1 y2)) ∧ (∀ y0 y1 y2 y3 y4 y5, LeO (flongref17_Normal.j1 k y0 y1 y2 y3 y4 y5) (flongref17_Normal.j1 (k + 1) y0 y1 y2 y3 y4 y5))
 | 0 => ⟨fun _ _ _ r h => by simp [flongref17_Normal.l0] at h, fun _ _ _ _ _ _ r h => by simp [flongref17_Normal.j1] at h⟩
 | k + 1 => by
  obtain ⟨ih0, ih1⟩ := flongref17_Normal.mono_l k
  refine ⟨?_, ?_⟩
  ·intro y0 y1 y2
   unfold flongref17_Normal.l0
   repeat' first
   | (with_reducible exact ih0 _ _ _)
   | (with_reducible exact ih1 _ _ _ _ _ _)
   | (with_reducible exact flongref02_Width.mono _ _)
   | (with_reducible exact flongref03_Clean.mono _ _)
   | (with_reducible exact flongref03_Trim.mono _ _)
   | (with_reducible exact LeO.refl _)
   | (with_reducible exact LeO.none _)
   | (with_reducible refine LeO.ite ?_ ?_)
   | (with_reducible refine LeO.bind ?_ (fun _ => ?_))
  ·intro y0 y1 y2 y3 y4 y5
   unfold flongref17_Normal.j1
   repeat' first
   | (with_reducible exact ih0 _ _ _)
   | (with_reducible exact ih1 _ _ _ _ _ _)
   | (with_reducible exact flongref02_Width.mono _ _)
   | (with_reducible exact flongref03_Clean.mono _ _)
   | (with_reducible exact flongref03_Trim.mono _ _)
   | (with_reducible exact LeO.refl _)
   | (with_reducible exact LeO.none _)
   | (with_reducible refine LeO.ite ?_ ?_)
   | (with_reducible refine LeO.bind ?_ (fun _ => ?_))
theorem flongref17_Normal.mono : ∀ a0 k, LeO (flongref17_Normal.f k a0) (flongref17_Normal.f (k + 1) a0) := by
 intro a0 k
 obtain ⟨ih0, ih1⟩ := flongref17_Normal.mono_l k
 unfold flongref17_Normal.f
 repeat' first
   | (with_reducible exact ih0 _ _ _)
   | (with_reducible exact ih1 _ _ _ _ _ _)
   | (with_reducible exact flongref02_Width.mono _ _)
   | (with_reducible exact flongref03_Clean.mono _ _)
   | (with_reducible exact flongref03_Trim.mono _ _)
   | (with_reducible exact LeO.refl _)
   | (with_reducible exact LeO.none _)
   | (with_reducible refine LeO.ite ?_ ?_)
   | (with_reducible refine LeO.bind ?_ (fun _ => ?_))
theorem flongref17_Normal.calls (k : Nat) (A0 : Option Addr) (c0 : Nat) (l0 : List (S44)) (r : List (S44)) (w : World) (hr0 : Kd.C k44 w A0 l0.length l0) (hc0 : l0.length ≤ c0) (h : flongref17_Normal.f k l0 = some r) :
  Calls Tryd.prog 25 #[.slice A0 l0.length c0] w fun e w' => ∃ v0_ : Value, e = .returned (v0_) ∧ Kd.R k44 44 w' w.heap.size (fun _ => True) v0_ r ∧ Below w.heap.size w w' := by
 have hu44 := Tryd.underlying44
 have HR0 := Aside0.mk hr0
 have HC0 := Aside0.mk hc0
 clear hr0 hc0
 have HB := Aside0.mk (Below.refl w.heap.size w)
 have H : ((flongref03_Clean.f k l0).bind fun t301 => ((flongref03_Trim.f k t301).bind fun t304 => (flongref17_Normal.l0 k t304 ([] : List (S44)) 0))) = some r := h
 clear h
 replace H := Option.bind_eq_some_iff.mp H
 obtain ⟨t301, A20, H⟩ := H
 replace H : ((flongref03_Trim.f k t301).bind fun t304 => (flongref17_Normal.l0 k t304 ([] : List (S44)) 0)) = some r := H
 have A2 := Aside0.mk A20
 clear A20
 replace H := Option.bind_eq_some_iff.mp H
 obtain ⟨t304, A30, H⟩ := H
 replace H : (flongref17_Normal.l0 k t304 ([] : List (S44)) 0) = some r := H
 have A3 := Aside0.mk A30
 clear A30
 have H' := Aside0.mk H
 clear H
 go_enter Tryd.func25, Tryd.ntmps25
 go_wp2_with (first | ((with_reducible refine gate_callee (f := 42) rfl ?_); refine goesL_ (some 8) rfl rfl Tryd.func42 (by kernel_rfl) rfl #[.slice A0 l0.length c0] rfl aP ?_; (with_reducible refine (flongref03_Clean.calls k _ _ l0 t301 _ ?side1 ?side2 A2.out).mono ?_); (case side1 => repeat (first | exact HR0.out | (with_reducible refine Kd.C_alloc ?_ _) | (with_reducible refine Kd.C_drewN ?_ _) | (with_reducible refine Kd.C_drew ?_))); (case side2 => exact HC0.out); rintro e w4 ⟨v302, rfl, ho0, hb⟩; refine ⟨_, rfl, ?_⟩; have HO303 := Aside0.mk (Kd.R_lower ho0 (below_size bA)); replace HB := Aside0.mk (below_step bA hb); (try clear hb); (try clear hb2); (try clear hk); (try clear hi); (try clear ho0); obtain ⟨Ao5, co5, eo5⟩ := Kd.R_slice HO303.out; subst eo5) | ((with_reducible refine gate_callee (f := 41) rfl ?_); refine goesL_ (some 9) rfl rfl Tryd.func41 (by kernel_rfl) rfl #[.slice Ao5 t301.length co5] rfl aP ?_; (with_reducible refine (flongref03_Trim.calls k (fun k_ => some k_ = (.slice Ao5 t301.length co5 : Value).ownBlock) _ _ t301 t304 _ ?side1 A3.out).mono ?_); (case side1 => exact Kd.R_V (Kd.R_tight rfl (HO303.out))); rintro e w6 ⟨v305, rfl, ho0, hb⟩; refine ⟨_, rfl, ?_⟩; replace HO303 := Aside0.mk (Kd.R_below (kR HO303) hb); have HO306 := Aside0.mk (Kd.V_lower (Kd.V_mono (ok' := fun k_ => True) ho0 (fun k_ hk_ => trivial)) (below_size bA)); replace HB := Aside0.mk (below_step bA hb); (try clear hb); (try clear hb2); (try clear hk); (try clear hi); (try clear ho0)))
 go_loopg [4, 5] k (fun kq v4 v5 w' => ∃ (x4_1 : List (S44)) (x5_1 : Int), v5 = .int .i64 x5_1 ∧ Aside0 (flongref17_Normal.l0 kq t304 x4_1 x5_1 = some r) ∧ Aside0 (kq ≤ k) ∧ Aside0 (Kd.V k44 44 w' w.heap.size (fun k_ => some k_ ≠ (v4 : Value).ownBlock) v305 t304) ∧ Aside0 (Kd.R k44 44 w' w.heap.size (fun _ => True) v4 x4_1) ∧ Aside0 (Below w.heap.size w w'))
 case atStart => exact ⟨(([] : List (S44))), (0), sA, H', ⟨Nat.le_refl _⟩, ⟨by (with_reducible repeat (first | apply Kd.V_alloc | apply Kd.V_drewN | apply Kd.V_drew)); exact Kd.V_mono HO306.out (fun _ hk => (by simp [Value.ownBlock]))⟩, ⟨by first | exact Kd.R_nil _ _ _ _ _ | exact Kd.N_nil _ _ _ _ _ | exact Kd.V_nil _ _ _ _ _ | exact Kd.Q_nil _ _ _ _ _ | exact Kd.S_nil _ _ _ _ _⟩, ⟨bA⟩⟩
 case round =>
  clear H'
  try clear c2
  try clear p2
  try clear c4
  obtain ⟨x4_1, x5_1, rfl, HA, HK1, HO_3, HO_4, HB⟩ := hrel
  cases gk with
  | zero => exact absurd HA.out (by simp [flongref17_Normal.l0])
  | succ k1 =>
   have H := HA.out
   clear HA
   simp only [flongref17_Normal.l0] at H
   by_cases c7 : x5_1 < (t304.length : Int)
   ·rw [if_pos c7] at H
    have c7b0 : decide (x5_1 < (t304.length : Int)) = true := decide_eq_true c7
    clear c7
    by_cases c8 : 0 ≤ x5_1
    ·rw [if_pos c8] at H
     have c8b0 : decide (0 ≤ x5_1) = true := decide_eq_true c8
     clear c8
     have HC9 := Aside0.mk H
     clear H
     obtain ⟨Ao10, co10, eo10⟩ := Kd.V_slice HO_3.out
     subst eo10
     have p307 : 0 ≤ (x5_1 : Int) := of_decide_eq_true asA
     have q307 : x5_1 < (t304.length : Int) := of_decide_eq_true asA
     obtain ⟨ad307, e307, hx307_0, hx307_1⟩ := at_T44 (Kd.V_reads' HO_3.out).2.2 x5_1 p307 q307
     cases e307
     replace p307 := eq_true p307
     replace q307 := eq_true q307
     go_upto_region 7 with (first | ((with_reducible refine gate_dst (N := 6) rfl ?_); refine box_event ?hg (N := 6) ?hd (cs := #[.int .i32 0, .int .u8 0]) (t := 44) ?hr ?_; (case hd => rfl); (case hg => rfl); (case hr => first | (go_simp; done) | (go_simp; rfl)); intro gb308 hg w11 hbox hb; replace HO_3 := Aside0.mk (Kd.V_below (Kd.V_elderB (kV HO_3) gb308 (Nat.le_of_eq hg.symm)) hb); replace HO_4 := Aside0.mk (Kd.R_below (Kd.R_elderB (kR HO_4) gb308 (Nat.le_of_eq hg.symm)) hb); have BK308 := Aside0.mk (hbox); have GW308 := Aside0.mk ((geA hg : w.heap.size ≤ gb308)); have GE308 := Aside0.mk ((geA hg : w.heap.size ≤ gb308)); replace HB := Aside0.mk (below_step bA hb); clear hb hbox hg; have hcz12_0 : w11.cell? ⟨gb308, 0, none⟩ = some (.int .i32 0) := (blk_cell BK308.out 0).trans rfl; have hcz12_1 : w11.cell? ⟨gb308, 1, none⟩ = some (.int .u8 0) := (blk_cell BK308.out 1).trans rfl; have hfz12_0 := blk_frozen BK308.out 0; have hfz12_1 := blk_frozen BK308.out 1))
     (try simp only [Act.put, List.setIfInBounds_toArray, List.set_cons_zero, List.set_cons_succ])
     go_cut [27] (fun v27 wc => ∃ (kq : Nat) (x27_8 : Bool), v27 = .bool x27_8 ∧ Aside0 (flongref17_Normal.j1 kq t304 x4_1 x5_1 x27_8 ((rd_T44 t304 x5_1).f0) ((rd_T44 t304 x5_1).f1) = some r) ∧ Aside0 (kq ≤ k1) ∧ Aside0 (Kd.V k44 44 wc w.heap.size (fun k_ => some k_ ≠ (u4 : Value).ownBlock ∧ k_ ≠ gb308) (.slice (some ad307) t304.length co10) t304) ∧ Aside0 (Kd.R k44 44 wc w.heap.size (fun k_ => k_ ≠ gb308) u4 x4_1) ∧ Aside0 (wc.heap[gb308]? = some (.cells #[.int .i32 ((rd_T44 t304 x5_1).f0), .int .u8 ((rd_T44 t304 x5_1).f1)] 44 (0, 0))) ∧ Aside0 (Below w.heap.size w wc))
     case first =>
      have H := HC9.out
      clear HC9
      by_cases c13 : x5_1 > 0
      ·rw [if_pos c13] at H
       have c13b0 : decide (0 < x5_1) = true := decide_eq_true c13
       clear c13
       (first | rw [c13b0] | (simp only [i64_w, i32_w]; rw [c13b0]) | skip)
       replace H := Option.bind_eq_some_iff.mp H
       obtain ⟨t309, A140, H⟩ := H
       replace H : (flongref17_Normal.j1 k1 t304 x4_1 x5_1 (t309 == 0) ((rd_T44 t304 x5_1).f0) ((rd_T44 t304 x5_1).f1)) = some r := H
       have A14 := Aside0.mk A140
       clear A140
       have H' := Aside0.mk H
       clear H
       have hcz15_0 : w11.cell? ⟨gb308, 0, none⟩ = some (.int .i32 0) := (blk_cell BK308.out 0).trans rfl
       have hcz15_1 : w11.cell? ⟨gb308, 1, none⟩ = some (.int .u8 0) := (blk_cell BK308.out 1).trans rfl
       have hfz15_0 := blk_frozen BK308.out 0
       have hfz15_1 := blk_frozen BK308.out 1
       go_wp2_with (first | (go_at_call 43; (with_reducible refine (flongref02_Width.calls k1 ((rd_T44 t304 x5_1).f0) t309 _ A14.out).mono ?_); rintro e w16 ⟨rfl, hb⟩; have n0_ := Aside0.mk (Kd.V_below (by (with_reducible repeat (first | apply Kd.V_alloc | apply Kd.V_drewN | apply Kd.V_drew)); exact (Kd.V_mono (Kd.V_far (p := ⟨gb308, 1, none⟩) (Kd.V_far (p := ⟨gb308, 0, none⟩) (Kd.V_mono HO_3.out (fun k_ hk => (⟨hk, hk.2⟩ : _ ∧ k_ ≠ gb308))) (fun _ hk => hk.2) (.int .i32 ((rd_T44 t304 x5_1).f0))) (fun _ hk => hk.2) (.int .u8 ((rd_T44 t304 x5_1).f1))) (fun _ h_ => h_.1))) hb); have n1_ := Aside0.mk (Kd.R_below (by (with_reducible repeat (first | apply Kd.R_alloc | apply Kd.R_drewN | apply Kd.R_drew)); exact (Kd.R_mono (Kd.R_far (p := ⟨gb308, 1, none⟩) (Kd.R_far (p := ⟨gb308, 0, none⟩) (Kd.R_mono HO_4.out (fun k_ hk => (⟨hk, hk.2⟩ : _ ∧ k_ ≠ gb308))) (fun _ hk => hk.2) (.int .i32 ((rd_T44 t304 x5_1).f0))) (fun _ hk => hk.2) (.int .u8 ((rd_T44 t304 x5_1).f1))) (fun _ h_ => h_.1))) hb); have n2_ := Aside0.mk (blk_below (g := gb308) (o := .cells #[.int .i32 ((rd_T44 t304 x5_1).f0), .int .u8 ((rd_T44 t304 x5_1).f1)] 44 (0, 0)) (by (with_reducible repeat (first | refine blk_drewN ?_ _ | refine blk_drew ?_ | refine blk_alloc ?_ _)); refine blk_put (cs := #[.int .i32 ((rd_T44 t304 x5_1).f0), .int .u8 0]) ?_ 1 _ rfl; (with_reducible repeat (first | refine blk_drewN ?_ _ | refine blk_drew ?_ | refine blk_alloc ?_ _)); refine blk_put (cs := #[.int .i32 0, .int .u8 0]) ?_ 0 _ rfl; (with_reducible repeat (first | refine blk_drewN ?_ _ | refine blk_drew ?_ | refine blk_alloc ?_ _)); exact BK308.out) hb); have n3_ := Aside0.mk (below_step bG hb); clear HO_3; clear HO_4; clear BK308; clear HB; have HO_3 := n0_; have HO_4 := n1_; have BK308 := n2_; have HB := n3_; clear n0_ n1_ n2_ n3_; (try clear hb); (try clear hb2); (try clear hk); (try clear hi)))
       go_meet
       case rel => exact ⟨_, ((t309 == 0)), sA, H', ⟨by have := HK1.out; first | omega | exact Nat.le_refl _⟩, ⟨kV HO_3⟩, ⟨by (with_reducible repeat (first | apply Kd.R_alloc | apply Kd.R_drewN | apply Kd.R_drew)); exact Kd.R_mono HO_4.out (fun _ hk => hk.2)⟩, ⟨kB BK308⟩, ⟨bG⟩⟩
      ·rw [if_neg c13] at H
       have c13b0 : decide (0 < x5_1) = false := decide_eq_false c13
       clear c13
       (first | rw [c13b0] | (simp only [i64_w, i32_w]; rw [c13b0]) | skip)
       have H' := Aside0.mk H
       clear H
       go_wp2
       go_meet
       case rel => exact ⟨_, (false), sA, H', ⟨by have := HK1.out; first | omega | exact Nat.le_refl _⟩, ⟨by (with_reducible repeat (first | apply Kd.V_alloc | apply Kd.V_drewN | apply Kd.V_drew)); exact Kd.V_mono (Kd.V_far (p := ⟨gb308, 1, none⟩) (Kd.V_far (p := ⟨gb308, 0, none⟩) (Kd.V_mono HO_3.out (fun k_ hk => (⟨hk, hk.2⟩ : _ ∧ k_ ≠ gb308))) (fun _ hk => hk.2) (.int .i32 ((rd_T44 t304 x5_1).f0))) (fun _ hk => hk.2) (.int .u8 ((rd_T44 t304 x5_1).f1))) (fun _ hk => ⟨hk.1.1, hk.1.2⟩)⟩, ⟨by (with_reducible repeat (first | apply Kd.R_alloc | apply Kd.R_drewN | apply Kd.R_drew)); exact Kd.R_mono (Kd.R_far (p := ⟨gb308, 1, none⟩) (Kd.R_far (p := ⟨gb308, 0, none⟩) (Kd.R_mono HO_4.out (fun k_ hk => (⟨hk, hk.2⟩ : _ ∧ k_ ≠ gb308))) (fun _ hk => hk.2) (.int .i32 ((rd_T44 t304 x5_1).f0))) (fun _ hk => hk.2) (.int .u8 ((rd_T44 t304 x5_1).f1))) (fun _ hk => hk.1.2)⟩, ⟨by (with_reducible repeat (first | refine blk_drewN ?_ _ | refine blk_drew ?_ | refine blk_alloc ?_ _)); refine blk_put (cs := #[.int .i32 ((rd_T44 t304 x5_1).f0), .int .u8 0]) ?_ 1 _ rfl; (with_reducible repeat (first | refine blk_drewN ?_ _ | refine blk_drew ?_ | refine blk_alloc ?_ _)); refine blk_put (cs := #[.int .i32 0, .int .u8 0]) ?_ 0 _ rfl; (with_reducible repeat (first | refine blk_drewN ?_ _ | refine blk_drew ?_ | refine blk_alloc ?_ _)); exact BK308.out⟩, ⟨bG⟩⟩
     case rest =>
      clear HC9
      try clear c1
      try clear c2
      try clear p2
      try clear p3
      try clear q3
      try clear hx3
      try clear c4
      try clear c7
      try clear c7b0
      try clear c8
      try clear c8b0
      try clear c13
      try clear c13b0
      try clear hcz12_0
      try clear hcz12_1
      try clear hcz15_0
      try clear hcz15_1
      try clear hfz12_0
      try clear hfz12_1
      try clear hfz15_0
      try clear hfz15_1
      try clear hx307_0
      try clear hx307_1
      try clear p2
      try clear p307
      try clear q307
      obtain ⟨kq, x27_8, rfl, HA, HJ8, HO_3, HO_4, BK308, HB⟩ := hcut
      cases kq with
      | zero => exact absurd HA.out (by simp [flongref17_Normal.j1])
      | succ kj8 =>
       have H := HA.out
       clear HA
       simp only [flongref17_Normal.j1] at H
       by_cases c17 : x27_8 = true
       ·subst c17
        have H1 : (if 0 ≤ (wrap64 (x5_1 - 1)) then (if (wrap64 (x5_1 - 1)) < (x4_1.length : Int) then (if ((rd_T44 t304 x5_1).f0) = 32 then (if x4_1.length < 17592186044416 then (flongref17_Normal.l0 kj8 t304 (x4_1 ++ [(⟨((rd_T44 t304 x5_1).f0), 0⟩ : S44)]) (wrap64 (x5_1 + 1))) else (none)) else (if x4_1.length < 17592186044416 then (flongref17_Normal.l0 kj8 t304 (x4_1 ++ [(⟨((rd_T44 t304 x5_1).f0), (rd_T44 x4_1 (wrap64 (x5_1 - 1))).f1⟩ : S44)]) (wrap64 (x5_1 + 1))) else (none))) else (none)) else (none)) = some r := by rw [if_pos rfl] at H; exact H
        clear H
        have H := H1
        clear H1
        obtain ⟨ji18, hji18⟩ : ∃ j_ : Int, (wrap64 (x5_1 - 1)) = j_ := ⟨_, rfl⟩
        replace H : (if 0 ≤ (ji18) then (if (ji18) < (x4_1.length : Int) then (if ((rd_T44 t304 x5_1).f0) = 32 then (if x4_1.length < 17592186044416 then (flongref17_Normal.l0 kj8 t304 (x4_1 ++ [(⟨((rd_T44 t304 x5_1).f0), 0⟩ : S44)]) (wrap64 (x5_1 + 1))) else (none)) else (if x4_1.length < 17592186044416 then (flongref17_Normal.l0 kj8 t304 (x4_1 ++ [(⟨((rd_T44 t304 x5_1).f0), (rd_T44 x4_1 (ji18)).f1⟩ : S44)]) (wrap64 (x5_1 + 1))) else (none))) else (none)) else (none)) = some r := by first | (rw [hji18] at H; exact H) | (simp only [hji18] at H ⊢; exact H)
        have hji18w : (IntKind.i64.wrap (x5_1 - 1)) = ji18 := (i64_w _).trans hji18
        by_cases c19 : 0 ≤ (ji18)
        ·rw [if_pos c19] at H
         have c19b0 : decide (0 ≤ (ji18)) = true := decide_eq_true c19
         clear c19
         by_cases c20 : (ji18) < (x4_1.length : Int)
         ·rw [if_pos c20] at H
          have c20b0 : decide ((ji18) < (x4_1.length : Int)) = true := decide_eq_true c20
          clear c20
          by_cases c21 : ((rd_T44 t304 x5_1).f0) = 32
          ·rw [if_pos c21] at H
           have c21b0 : (((rd_T44 t304 x5_1).f0) == 32) = true := beq_iff_eq.mpr c21
           have c21b1 : (((rd_T44 t304 x5_1).f0) != 32) = false := bne_eq_false_iff_eq.mpr c21
           clear c21
           by_cases c22 : x4_1.length < 17592186044416
           ·rw [if_pos c22] at H
            have LMc22 := Aside0.mk c22
            clear c22
            obtain ⟨y311, hy311⟩ : ∃ y_ : List (S44), y_ = (x4_1 ++ [(⟨((rd_T44 t304 x5_1).f0), 0⟩ : S44)]) := ⟨_, rfl⟩
            replace H : (flongref17_Normal.l0 kj8 t304 y311 (wrap64 (x5_1 + 1))) = some r := hyA hy311 H
            have Ny311 := Aside0.mk hy311
            clear hy311
            have H' := Aside0.mk H
            clear H
            obtain ⟨Ao23, co23, eo23⟩ := Kd.R_slice HO_4.out
            subst eo23
            have p310 : 0 ≤ ((ji18) : Int) := of_decide_eq_true asA
            have q310 : (ji18) < (x4_1.length : Int) := of_decide_eq_true asA
            obtain ⟨ad310, e310, hx310_0, hx310_1⟩ := at_T44 (Kd.R_reads' HO_4.out).2.2 (ji18) p310 q310
            cases e310
            replace p310 := eq_true p310
            replace q310 := eq_true q310
            have hcz24_0 : wc.cell? ⟨gb308, 0, none⟩ = some (.int .i32 ((rd_T44 t304 x5_1).f0)) := (blk_cell BK308.out 0).trans rfl
            have hcz24_1 : wc.cell? ⟨gb308, 1, none⟩ = some (.int .u8 ((rd_T44 t304 x5_1).f1)) := (blk_cell BK308.out 1).trans rfl
            have hfz24_0 := blk_frozen BK308.out 0
            have hfz24_1 := blk_frozen BK308.out 1
            go_wp2_with (first | ((with_reducible refine gate_builtin (b := .append) (xs := #[.tmp 39, .tmp 41]) rfl ?_); at_builtin; refine Kd.R_append k44 (w0 := w) w.heap.size rfl (.tmp 39) (.tmp 41) 33 44 (.agg #[(.int .i32 0), (.int .u8 0)]) 8 rfl Tryd.underlying33 info44 rfl (by decide) (by omega) (.slice (some ad310) x4_1.length co23) x4_1 (⟨((rd_T44 t304 x5_1).f0), 0⟩ : S44) [.int .i32 ((rd_T44 t304 x5_1).f0), .int .u8 0] (fun k_ => k_ ≠ gb308) (fun _ => False) rfl (by first | (go_simp; done) | (go_simp; rfl)) ?aP (fun _ hk => hk.elim) ?aF ?aO ?aB ?aS ?aL ?_; (case aP => exact k44_mkM _ _ _ (⟨((rd_T44 t304 x5_1).f0), 0⟩ : S44)); (case aB => exact bG); (case aF => exact (fun k_ hk => Kd.freshB (g := gb308) (o := .cells #[.int .i32 ((rd_T44 t304 x5_1).f0), .int .u8 0] 44 (0, 0)) (by (with_reducible repeat (first | refine blk_drewN ?_ _ | refine blk_drew ?_ | refine blk_alloc ?_ _)); refine blk_put (cs := #[.int .i32 ((rd_T44 t304 x5_1).f0), .int .u8 ((rd_T44 x4_1 (ji18)).f1)]) ?_ 1 _ rfl; (with_reducible repeat (first | refine blk_drewN ?_ _ | refine blk_drew ?_ | refine blk_alloc ?_ _)); refine blk_put (cs := #[.int .i32 ((rd_T44 t304 x5_1).f0), .int .u8 ((rd_T44 t304 x5_1).f1)]) ?_ 1 _ rfl; (with_reducible repeat (first | refine blk_drewN ?_ _ | refine blk_drew ?_ | refine blk_alloc ?_ _)); exact BK308.out) k_ hk)); (case aO => exact (by (with_reducible repeat (first | apply Kd.R_alloc | apply Kd.R_drewN | apply Kd.R_drew)); exact Kd.R_mono (Kd.R_far (p := ⟨gb308, 1, none⟩) (Kd.R_far (p := ⟨gb308, 1, none⟩) (Kd.R_mono HO_4.out (fun k_ hk => (⟨hk, hk⟩ : _ ∧ k_ ≠ gb308))) (fun _ hk => hk.2) (.int .u8 ((rd_T44 x4_1 (ji18)).f1))) (fun _ hk => hk.2) (.int .u8 0)) (fun _ hk => hk.1))); (case aS => exact (below_size bG)); (case aL => have := LMc22.out; omega); intro v312 w25 ho hb hg hat; rw [← Ny311.out] at ho; have n0_ := Aside0.mk (Kd.V_afterv (ok := (fun k_ => k_ ≠ gb308)) (by (with_reducible repeat (first | apply Kd.V_alloc | apply Kd.V_drewN | apply Kd.V_drew)); exact Kd.V_mono (Kd.V_far (p := ⟨gb308, 1, none⟩) (Kd.V_far (p := ⟨gb308, 1, none⟩) (Kd.V_mono HO_3.out (fun k_ hk => (⟨hk, hk.2⟩ : _ ∧ k_ ≠ gb308))) (fun _ hk => hk.2) (.int .u8 ((rd_T44 x4_1 (ji18)).f1))) (fun _ hk => hk.2) (.int .u8 0)) (fun _ hk => ⟨hk.1.2, hk.1.1⟩)) hg hat); have n1_ := Aside0.mk (blk_grown (g := gb308) (o := .cells #[.int .i32 ((rd_T44 t304 x5_1).f0), .int .u8 0] 44 (0, 0)) (by (with_reducible repeat (first | refine blk_drewN ?_ _ | refine blk_drew ?_ | refine blk_alloc ?_ _)); refine blk_put (cs := #[.int .i32 ((rd_T44 t304 x5_1).f0), .int .u8 ((rd_T44 x4_1 (ji18)).f1)]) ?_ 1 _ rfl; (with_reducible repeat (first | refine blk_drewN ?_ _ | refine blk_drew ?_ | refine blk_alloc ?_ _)); refine blk_put (cs := #[.int .i32 ((rd_T44 t304 x5_1).f0), .int .u8 ((rd_T44 t304 x5_1).f1)]) ?_ 1 _ rfl; (with_reducible repeat (first | refine blk_drewN ?_ _ | refine blk_drew ?_ | refine blk_alloc ?_ _)); exact BK308.out) hg (Kd.R_away HO_4.out (fun _ hk => hk))); have n2_ := Aside0.mk (hb); have n3_ := Aside0.mk (ho); clear HO_3; clear BK308; clear HB; clear HO_4; have HO_3 := n0_; have BK308 := n1_; have HB := n2_; have HO313 := n3_; clear n0_ n1_ n2_ n3_; clear ho hb hg hat))
            go_roundg kj8
            case measure => have := HK1.out; have := HJ8.out; omega
            case rel => exact ⟨(y311), (wrap64 (x5_1 + 1)), sA, H', ⟨by have := HK1.out; have := HJ8.out; omega⟩, ⟨by (with_reducible repeat (first | apply Kd.V_alloc | apply Kd.V_drewN | apply Kd.V_drew)); exact Kd.V_mono HO_3.out (fun _ hk => hk.2)⟩, ⟨by (with_reducible repeat (first | apply Kd.R_alloc | apply Kd.R_drewN | apply Kd.R_drew)); exact Kd.R_mono HO313.out (fun _ hk => trivial)⟩, ⟨bG⟩⟩
           ·rw [if_neg c22] at H
            exact absurd H (by simp)
          ·rw [if_neg c21] at H
           have c21b0 : (((rd_T44 t304 x5_1).f0) == 32) = false := beq_eq_false_iff_ne.mpr c21
           have c21b1 : (((rd_T44 t304 x5_1).f0) != 32) = true := bne_iff_ne.mpr c21
           by_cases c26 : x4_1.length < 17592186044416
           ·rw [if_pos c26] at H
            have LMc26 := Aside0.mk c26
            clear c26
            obtain ⟨y314, hy314⟩ : ∃ y_ : List (S44), y_ = (x4_1 ++ [(⟨((rd_T44 t304 x5_1).f0), (rd_T44 x4_1 (ji18)).f1⟩ : S44)]) := ⟨_, rfl⟩
            replace H : (flongref17_Normal.l0 kj8 t304 y314 (wrap64 (x5_1 + 1))) = some r := hyA hy314 H
            have Ny314 := Aside0.mk hy314
            clear hy314
            have H' := Aside0.mk H
            clear H
            obtain ⟨Ao27, co27, eo27⟩ := Kd.R_slice HO_4.out
            subst eo27
            have p310 : 0 ≤ ((ji18) : Int) := of_decide_eq_true asA
            have q310 : (ji18) < (x4_1.length : Int) := of_decide_eq_true asA
            obtain ⟨ad310, e310, hx310_0, hx310_1⟩ := at_T44 (Kd.R_reads' HO_4.out).2.2 (ji18) p310 q310
            cases e310
            replace p310 := eq_true p310
            replace q310 := eq_true q310
            have hcz28_0 : wc.cell? ⟨gb308, 0, none⟩ = some (.int .i32 ((rd_T44 t304 x5_1).f0)) := (blk_cell BK308.out 0).trans rfl
            have hcz28_1 : wc.cell? ⟨gb308, 1, none⟩ = some (.int .u8 ((rd_T44 t304 x5_1).f1)) := (blk_cell BK308.out 1).trans rfl
            have hfz28_0 := blk_frozen BK308.out 0
            have hfz28_1 := blk_frozen BK308.out 1
            go_wp2_with (first | ((with_reducible refine gate_builtin (b := .append) (xs := #[.tmp 39, .tmp 41]) rfl ?_); at_builtin; refine Kd.R_append k44 (w0 := w) w.heap.size rfl (.tmp 39) (.tmp 41) 33 44 (.agg #[(.int .i32 0), (.int .u8 0)]) 8 rfl Tryd.underlying33 info44 rfl (by decide) (by omega) (.slice (some ad310) x4_1.length co27) x4_1 (⟨((rd_T44 t304 x5_1).f0), (rd_T44 x4_1 (ji18)).f1⟩ : S44) [.int .i32 ((rd_T44 t304 x5_1).f0), .int .u8 ((rd_T44 x4_1 (ji18)).f1)] (fun k_ => k_ ≠ gb308) (fun _ => False) rfl (by first | (go_simp; done) | (go_simp; rfl)) ?aP (fun _ hk => hk.elim) ?aF ?aO ?aB ?aS ?aL ?_; (case aP => exact k44_mkM _ _ _ (⟨((rd_T44 t304 x5_1).f0), (rd_T44 x4_1 (ji18)).f1⟩ : S44)); (case aB => exact bG); (case aF => exact (fun k_ hk => Kd.freshB (g := gb308) (o := .cells #[.int .i32 ((rd_T44 t304 x5_1).f0), .int .u8 ((rd_T44 x4_1 (ji18)).f1)] 44 (0, 0)) (by (with_reducible repeat (first | refine blk_drewN ?_ _ | refine blk_drew ?_ | refine blk_alloc ?_ _)); refine blk_put (cs := #[.int .i32 ((rd_T44 t304 x5_1).f0), .int .u8 ((rd_T44 t304 x5_1).f1)]) ?_ 1 _ rfl; (with_reducible repeat (first | refine blk_drewN ?_ _ | refine blk_drew ?_ | refine blk_alloc ?_ _)); exact BK308.out) k_ hk)); (case aO => exact (by (with_reducible repeat (first | apply Kd.R_alloc | apply Kd.R_drewN | apply Kd.R_drew)); exact Kd.R_mono (Kd.R_far (p := ⟨gb308, 1, none⟩) (Kd.R_mono HO_4.out (fun k_ hk => (⟨hk, hk⟩ : _ ∧ k_ ≠ gb308))) (fun _ hk => hk.2) (.int .u8 ((rd_T44 x4_1 (ji18)).f1))) (fun _ hk => hk.1))); (case aS => exact (below_size bG)); (case aL => have := LMc26.out; omega); intro v315 w29 ho hb hg hat; rw [← Ny314.out] at ho; have n0_ := Aside0.mk (Kd.V_afterv (ok := (fun k_ => k_ ≠ gb308)) (by (with_reducible repeat (first | apply Kd.V_alloc | apply Kd.V_drewN | apply Kd.V_drew)); exact Kd.V_mono (Kd.V_far (p := ⟨gb308, 1, none⟩) (Kd.V_mono HO_3.out (fun k_ hk => (⟨hk, hk.2⟩ : _ ∧ k_ ≠ gb308))) (fun _ hk => hk.2) (.int .u8 ((rd_T44 x4_1 (ji18)).f1))) (fun _ hk => ⟨hk.1.2, hk.1.1⟩)) hg hat); have n1_ := Aside0.mk (blk_grown (g := gb308) (o := .cells #[.int .i32 ((rd_T44 t304 x5_1).f0), .int .u8 ((rd_T44 x4_1 (ji18)).f1)] 44 (0, 0)) (by (with_reducible repeat (first | refine blk_drewN ?_ _ | refine blk_drew ?_ | refine blk_alloc ?_ _)); refine blk_put (cs := #[.int .i32 ((rd_T44 t304 x5_1).f0), .int .u8 ((rd_T44 t304 x5_1).f1)]) ?_ 1 _ rfl; (with_reducible repeat (first | refine blk_drewN ?_ _ | refine blk_drew ?_ | refine blk_alloc ?_ _)); exact BK308.out) hg (Kd.R_away HO_4.out (fun _ hk => hk))); have n2_ := Aside0.mk (hb); have n3_ := Aside0.mk (ho); clear HO_3; clear BK308; clear HB; clear HO_4; have HO_3 := n0_; have BK308 := n1_; have HB := n2_; have HO316 := n3_; clear n0_ n1_ n2_ n3_; clear ho hb hg hat))
            go_roundg kj8
            case measure => have := HK1.out; have := HJ8.out; omega
            case rel => exact ⟨(y314), (wrap64 (x5_1 + 1)), sA, H', ⟨by have := HK1.out; have := HJ8.out; omega⟩, ⟨by (with_reducible repeat (first | apply Kd.V_alloc | apply Kd.V_drewN | apply Kd.V_drew)); exact Kd.V_mono HO_3.out (fun _ hk => hk.2)⟩, ⟨by (with_reducible repeat (first | apply Kd.R_alloc | apply Kd.R_drewN | apply Kd.R_drew)); exact Kd.R_mono HO316.out (fun _ hk => trivial)⟩, ⟨bG⟩⟩
           ·rw [if_neg c26] at H
            exact absurd H (by simp)
         ·rw [if_neg c20] at H
          exact absurd H (by simp)
        ·rw [if_neg c19] at H
         exact absurd H (by simp)
       ·replace c17 := Bool.eq_false_iff.mpr c17
        subst c17
        have H1 : (if ((rd_T44 t304 x5_1).f0) = 32 then (if x4_1.length < 17592186044416 then (flongref17_Normal.l0 kj8 t304 (x4_1 ++ [(⟨((rd_T44 t304 x5_1).f0), 0⟩ : S44)]) (wrap64 (x5_1 + 1))) else (none)) else (if x4_1.length < 17592186044416 then (flongref17_Normal.l0 kj8 t304 (x4_1 ++ [(⟨((rd_T44 t304 x5_1).f0), ((rd_T44 t304 x5_1).f1)⟩ : S44)]) (wrap64 (x5_1 + 1))) else (none))) = some r := by rw [if_neg (show ¬ (false = true) by decide)] at H; exact H
        clear H
        have H := H1
        clear H1
        by_cases c30 : ((rd_T44 t304 x5_1).f0) = 32
        ·rw [if_pos c30] at H
         have c30b0 : (((rd_T44 t304 x5_1).f0) == 32) = true := beq_iff_eq.mpr c30
         have c30b1 : (((rd_T44 t304 x5_1).f0) != 32) = false := bne_eq_false_iff_eq.mpr c30
         clear c30
         by_cases c31 : x4_1.length < 17592186044416
         ·rw [if_pos c31] at H
          have LMc31 := Aside0.mk c31
          clear c31
          obtain ⟨y317, hy317⟩ : ∃ y_ : List (S44), y_ = (x4_1 ++ [(⟨((rd_T44 t304 x5_1).f0), 0⟩ : S44)]) := ⟨_, rfl⟩
          replace H : (flongref17_Normal.l0 kj8 t304 y317 (wrap64 (x5_1 + 1))) = some r := hyA hy317 H
          have Ny317 := Aside0.mk hy317
          clear hy317
          have H' := Aside0.mk H
          clear H
          have hcz32_0 : wc.cell? ⟨gb308, 0, none⟩ = some (.int .i32 ((rd_T44 t304 x5_1).f0)) := (blk_cell BK308.out 0).trans rfl
          have hcz32_1 : wc.cell? ⟨gb308, 1, none⟩ = some (.int .u8 ((rd_T44 t304 x5_1).f1)) := (blk_cell BK308.out 1).trans rfl
          have hfz32_0 := blk_frozen BK308.out 0
          have hfz32_1 := blk_frozen BK308.out 1
          go_wp2_with (first | ((with_reducible refine gate_builtin (b := .append) (xs := #[.tmp 39, .tmp 41]) rfl ?_); at_builtin; refine Kd.R_append k44 (w0 := w) w.heap.size rfl (.tmp 39) (.tmp 41) 33 44 (.agg #[(.int .i32 0), (.int .u8 0)]) 8 rfl Tryd.underlying33 info44 rfl (by decide) (by omega) u4 x4_1 (⟨((rd_T44 t304 x5_1).f0), 0⟩ : S44) [.int .i32 ((rd_T44 t304 x5_1).f0), .int .u8 0] (fun k_ => k_ ≠ gb308) (fun _ => False) rfl (by first | (go_simp; done) | (go_simp; rfl)) ?aP (fun _ hk => hk.elim) ?aF ?aO ?aB ?aS ?aL ?_; (case aP => exact k44_mkM _ _ _ (⟨((rd_T44 t304 x5_1).f0), 0⟩ : S44)); (case aB => exact bG); (case aF => exact (fun k_ hk => Kd.freshB (g := gb308) (o := .cells #[.int .i32 ((rd_T44 t304 x5_1).f0), .int .u8 0] 44 (0, 0)) (by (with_reducible repeat (first | refine blk_drewN ?_ _ | refine blk_drew ?_ | refine blk_alloc ?_ _)); refine blk_put (cs := #[.int .i32 ((rd_T44 t304 x5_1).f0), .int .u8 ((rd_T44 t304 x5_1).f1)]) ?_ 1 _ rfl; (with_reducible repeat (first | refine blk_drewN ?_ _ | refine blk_drew ?_ | refine blk_alloc ?_ _)); exact BK308.out) k_ hk)); (case aO => exact (by (with_reducible repeat (first | apply Kd.R_alloc | apply Kd.R_drewN | apply Kd.R_drew)); exact Kd.R_mono (Kd.R_far (p := ⟨gb308, 1, none⟩) (Kd.R_mono HO_4.out (fun k_ hk => (⟨hk, hk⟩ : _ ∧ k_ ≠ gb308))) (fun _ hk => hk.2) (.int .u8 0)) (fun _ hk => hk.1))); (case aS => exact (below_size bG)); (case aL => have := LMc31.out; omega); intro v318 w33 ho hb hg hat; rw [← Ny317.out] at ho; have n0_ := Aside0.mk (Kd.V_afterv (ok := (fun k_ => k_ ≠ gb308)) (by (with_reducible repeat (first | apply Kd.V_alloc | apply Kd.V_drewN | apply Kd.V_drew)); exact Kd.V_mono (Kd.V_far (p := ⟨gb308, 1, none⟩) (Kd.V_mono HO_3.out (fun k_ hk => (⟨hk, hk.2⟩ : _ ∧ k_ ≠ gb308))) (fun _ hk => hk.2) (.int .u8 0)) (fun _ hk => ⟨hk.1.2, hk.1.1⟩)) hg hat); have n1_ := Aside0.mk (blk_grown (g := gb308) (o := .cells #[.int .i32 ((rd_T44 t304 x5_1).f0), .int .u8 0] 44 (0, 0)) (by (with_reducible repeat (first | refine blk_drewN ?_ _ | refine blk_drew ?_ | refine blk_alloc ?_ _)); refine blk_put (cs := #[.int .i32 ((rd_T44 t304 x5_1).f0), .int .u8 ((rd_T44 t304 x5_1).f1)]) ?_ 1 _ rfl; (with_reducible repeat (first | refine blk_drewN ?_ _ | refine blk_drew ?_ | refine blk_alloc ?_ _)); exact BK308.out) hg (Kd.R_away HO_4.out (fun _ hk => hk))); have n2_ := Aside0.mk (hb); have n3_ := Aside0.mk (ho); clear HO_3; clear BK308; clear HB; clear HO_4; have HO_3 := n0_; have BK308 := n1_; have HB := n2_; have HO319 := n3_; clear n0_ n1_ n2_ n3_; clear ho hb hg hat))
          go_roundg kj8
          case measure => have := HK1.out; have := HJ8.out; omega
          case rel => exact ⟨(y317), (wrap64 (x5_1 + 1)), sA, H', ⟨by have := HK1.out; have := HJ8.out; omega⟩, ⟨by (with_reducible repeat (first | apply Kd.V_alloc | apply Kd.V_drewN | apply Kd.V_drew)); exact Kd.V_mono HO_3.out (fun _ hk => hk.2)⟩, ⟨by (with_reducible repeat (first | apply Kd.R_alloc | apply Kd.R_drewN | apply Kd.R_drew)); exact Kd.R_mono HO319.out (fun _ hk => trivial)⟩, ⟨bG⟩⟩
         ·rw [if_neg c31] at H
          exact absurd H (by simp)
        ·rw [if_neg c30] at H
         have c30b0 : (((rd_T44 t304 x5_1).f0) == 32) = false := beq_eq_false_iff_ne.mpr c30
         have c30b1 : (((rd_T44 t304 x5_1).f0) != 32) = true := bne_iff_ne.mpr c30
         by_cases c34 : x4_1.length < 17592186044416
         ·rw [if_pos c34] at H
          have LMc34 := Aside0.mk c34
          clear c34
          obtain ⟨y320, hy320⟩ : ∃ y_ : List (S44), y_ = (x4_1 ++ [(⟨((rd_T44 t304 x5_1).f0), ((rd_T44 t304 x5_1).f1)⟩ : S44)]) := ⟨_, rfl⟩
          replace H : (flongref17_Normal.l0 kj8 t304 y320 (wrap64 (x5_1 + 1))) = some r := hyA hy320 H
          have Ny320 := Aside0.mk hy320
          clear hy320
          have H' := Aside0.mk H
          clear H
          have hcz35_0 : wc.cell? ⟨gb308, 0, none⟩ = some (.int .i32 ((rd_T44 t304 x5_1).f0)) := (blk_cell BK308.out 0).trans rfl
          have hcz35_1 : wc.cell? ⟨gb308, 1, none⟩ = some (.int .u8 ((rd_T44 t304 x5_1).f1)) := (blk_cell BK308.out 1).trans rfl
          have hfz35_0 := blk_frozen BK308.out 0
          have hfz35_1 := blk_frozen BK308.out 1
          go_wp2_with (first | ((with_reducible refine gate_builtin (b := .append) (xs := #[.tmp 39, .tmp 41]) rfl ?_); at_builtin; refine Kd.R_append k44 (w0 := w) w.heap.size rfl (.tmp 39) (.tmp 41) 33 44 (.agg #[(.int .i32 0), (.int .u8 0)]) 8 rfl Tryd.underlying33 info44 rfl (by decide) (by omega) u4 x4_1 (⟨((rd_T44 t304 x5_1).f0), ((rd_T44 t304 x5_1).f1)⟩ : S44) [.int .i32 ((rd_T44 t304 x5_1).f0), .int .u8 ((rd_T44 t304 x5_1).f1)] (fun k_ => k_ ≠ gb308) (fun _ => False) rfl rfl ?aP (fun _ hk => hk.elim) ?aF ?aO ?aB ?aS ?aL ?_; (case aP => exact k44_mkM _ _ _ (⟨((rd_T44 t304 x5_1).f0), ((rd_T44 t304 x5_1).f1)⟩ : S44)); (case aB => exact bG); (case aF => exact (fun k_ hk => Kd.freshB (g := gb308) (o := .cells #[.int .i32 ((rd_T44 t304 x5_1).f0), .int .u8 ((rd_T44 t304 x5_1).f1)] 44 (0, 0)) (kB BK308) k_ hk)); (case aO => exact (kR HO_4)); (case aS => exact (below_size bG)); (case aL => have := LMc34.out; omega); intro v321 w36 ho hb hg hat; rw [← Ny320.out] at ho; have n0_ := Aside0.mk (Kd.V_afterv (ok := (fun k_ => k_ ≠ gb308)) (by (with_reducible repeat (first | apply Kd.V_alloc | apply Kd.V_drewN | apply Kd.V_drew)); exact Kd.V_mono HO_3.out (fun _ hk => ⟨hk.2, hk.1⟩)) hg hat); have n1_ := Aside0.mk (blk_grown (g := gb308) (o := .cells #[.int .i32 ((rd_T44 t304 x5_1).f0), .int .u8 ((rd_T44 t304 x5_1).f1)] 44 (0, 0)) (kB BK308) hg (Kd.R_away HO_4.out (fun _ hk => hk))); have n2_ := Aside0.mk (hb); have n3_ := Aside0.mk (ho); clear HO_3; clear BK308; clear HB; clear HO_4; have HO_3 := n0_; have BK308 := n1_; have HB := n2_; have HO322 := n3_; clear n0_ n1_ n2_ n3_; clear ho hb hg hat))
          go_roundg kj8
          case measure => have := HK1.out; have := HJ8.out; omega
          case rel => exact ⟨(y320), (wrap64 (x5_1 + 1)), sA, H', ⟨by have := HK1.out; have := HJ8.out; omega⟩, ⟨by (with_reducible repeat (first | apply Kd.V_alloc | apply Kd.V_drewN | apply Kd.V_drew)); exact Kd.V_mono HO_3.out (fun _ hk => hk.2)⟩, ⟨by (with_reducible repeat (first | apply Kd.R_alloc | apply Kd.R_drewN | apply Kd.R_drew)); exact Kd.R_mono HO322.out (fun _ hk => trivial)⟩, ⟨bG⟩⟩
         ·rw [if_neg c34] at H
          exact absurd H (by simp)
    ·rw [if_neg c8] at H
     exact absurd H (by simp)
   ·rw [if_neg c7] at H
    have c7b0 : decide (x5_1 < (t304.length : Int)) = false := decide_eq_false c7
    clear c7
    obtain rfl := Option.some.inj H
    obtain ⟨Ao37, co37, eo37⟩ := Kd.V_slice HO_3.out
    subst eo37
    go_wp2
    go_ret
    exact ⟨_, eW, kR HO_4, bA⟩

end Go.Proofs.YtdjepocklmlnbaaDoor.X
