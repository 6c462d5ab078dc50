-- Written by this session's xprint.py (a variant of the kit's printer). Not trusted: Lean checks it.
import Derived.Test.YtmeinakeiefcdaaDoorX0
import Derived.Test.YtmeinakeiefcdaaDoorSlim
import Derived.Test.YtmeinakeiefcdaaDoorHandA
namespace Go.Proofs.YtmeinakeiefcdaaDoor.X
open Go.Proofs.YtmeinakeiefcdaaDoor.Hand
open Go.RowKit Go.Proofs.YtmeinakeiefcdaaDoorW.PrintWords Go.Proofs.YtmeinakeiefcdaaDoorW.PrintLast Go.Proofs.YtmeinakeiefcdaaDoorW.PrintMore
attribute [local go_sem] max2_int min2_int max_two min_two max_three min_three max_four min_four   -- for this text's walks alone
set_option linter.unusedVariables false
set_option maxHeartbeats 8000000
set_option maxRecDepth 100000
set_option linter.unusedSimpArgs false

/-! ### flongref17_Long: function 8 -/
def flongref17_Long.l0 : Nat → List (S30) → Int → Int → Option (Bool)
 | 0, _, _, _ => none
 | k + 1, x0, x3, x4 => if x4 < (x0.length : Int) then (if 0 ≤ x4 then (if ((rd_T30 x0 x4).f0) > 2000 then (some true) else (flongref17_Long.l0 k x0 (wrap64 ((wrap64 (x3 + 1)) + (((rd_T30 x0 x4).f1).length : Int))) (wrap64 (x4 + 1)))) else (none)) else (some (decide (x3 > 400)))
def flongref17_Long.f (k : Nat) (l0 : List (S30)) : Option (Bool) := flongref17_Long.l0 k l0 0 0
theorem flongref17_Long.mono_l : ∀ k, (∀ y0 y1 y2, LeO (flongref17_Long.l0 k y0 y1 y2) (flongref17_Long.l0 (k + 1) y0 y1 y2))
 | 0 => fun _ _ _ r h => by simp [flongref17_Long.l0] at h
 | k + 1 => by
  have ih0 := flongref17_Long.mono_l k
  ·intro y0 y1 y2
   unfold flongref17_Long.l0
   repeat' first
   | (with_reducible exact ih0 _ _ _)
   | (with_reducible exact LeO.refl _)
   | (with_reducible exact LeO.none _)
   | (with_reducible refine LeO.ite ?_ ?_)
   | (with_reducible refine LeO.bind ?_ (fun _ => ?_))
theorem flongref17_Long.mono : ∀ a0 k, LeO (flongref17_Long.f k a0) (flongref17_Long.f (k + 1) a0) := by
 intro a0 k
 have ih0 := flongref17_Long.mono_l k
 unfold flongref17_Long.f
 repeat' first
   | (with_reducible exact ih0 _ _ _)
   | (with_reducible exact LeO.refl _)
   | (with_reducible exact LeO.none _)
   | (with_reducible refine LeO.ite ?_ ?_)
   | (with_reducible refine LeO.bind ?_ (fun _ => ?_))
theorem flongref17_Long.calls (k : Nat) (A0 : Option Addr) (c0 : Nat) (l0 : List (S30)) (r : Bool) (w : World) (hr0 : Kd.C k30 w A0 l0.length l0) (hc0 : l0.length ≤ c0) (h : flongref17_Long.f k l0 = some r) :
  Calls Tryd.prog 8 #[.slice A0 l0.length c0] w fun e w' => e = .returned (.bool r) ∧ Drawn0 w w' := by
 have HR0 := Aside0.mk hr0
 have HC0 := Aside0.mk hc0
 clear hr0 hc0
 have H : (flongref17_Long.l0 k l0 0 0) = some r := h
 clear h
 have H' := Aside0.mk H
 clear H
 go_enter Tryd.func8, Tryd.ntmps8
 go_wp2
 go_loopg [3, 4] k (fun kq v3 v4 w' => ∃ (x3_1 : Int) (x4_1 : Int), v3 = .int .i64 x3_1 ∧ v4 = .int .i64 x4_1 ∧ Aside0 (flongref17_Long.l0 kq l0 x3_1 x4_1 = some r) ∧ Aside0 (kq ≤ k) ∧ Drawn0 w w')
 case atStart => exact ⟨(0), (0), sA, sA, H', ⟨Nat.le_refl _⟩, by repeat (first | exact Drawn0.refl _ | apply Drawn0.step)⟩
 case round =>
  clear H'
  obtain ⟨x3_1, x4_1, rfl, rfl, HA, HK1, ⟨m1, rfl⟩⟩ := hrel
  cases gk with
  | zero => exact absurd HA.out (by simp [flongref17_Long.l0])
  | succ k1 =>
   have H := HA.out
   clear HA
   simp only [flongref17_Long.l0] at H
   by_cases c2 : x4_1 < (l0.length : Int)
   ·rw [if_pos c2] at H
    have c2b0 : decide (x4_1 < (l0.length : Int)) = true := decide_eq_true c2
    clear c2
    by_cases c3 : 0 ≤ x4_1
    ·rw [if_pos c3] at H
     have c3b0 : decide (0 ≤ x4_1) = true := decide_eq_true c3
     clear c3
     by_cases c4 : ((rd_T30 l0 x4_1).f0) > 2000
     ·rw [if_pos c4] at H
      have c4b0 : decide (2000 < ((rd_T30 l0 x4_1).f0)) = true := decide_eq_true c4
      clear c4
      obtain rfl := Option.some.inj H
      have p101 : 0 ≤ (x4_1 : Int) := of_decide_eq_true asA
      have q101 : x4_1 < (l0.length : Int) := of_decide_eq_true asA
      obtain ⟨ad101, A101_1, c101_1, e101, hx101_0, hx101_1, hx101_2, hl101_1, hi101_1⟩ := at_T30 HR0.out x4_1 p101 q101
      cases e101
      have HR101_1 := Aside0.mk hi101_1
      have HC101_1 := Aside0.mk hl101_1
      clear hi101_1 hl101_1
      replace p101 := eq_true p101
      replace q101 := eq_true q101
      have p102 : 0 ≤ (x4_1 : Int) := of_decide_eq_true asA
      have q102 : x4_1 < (l0.length : Int) := of_decide_eq_true asA
      obtain ⟨ad102, A102_1, c102_1, e102, hx102_0, hx102_1, hx102_2, hl102_1, hi102_1⟩ := at_T30 HR0.out x4_1 p102 q102
      obtain rfl : ad101 = ad102 := (by injection e102)
      have HR102_1 := Aside0.mk hi102_1
      have HC102_1 := Aside0.mk hl102_1
      clear hi102_1 hl102_1
      replace p102 := eq_true p102
      replace q102 := eq_true q102
      have ea_ := Option.some.inj (hx101_1.symm.trans hx102_1)
      injection ea_ with ea_ en_ ec_
      subst ea_
      subst ec_
      clear en_
      go_wp2
      go_ret
      exact ⟨sA, by repeat (first | exact Drawn0.refl _ | apply Drawn0.step)⟩
     ·rw [if_neg c4] at H
      have c4b0 : decide (2000 < ((rd_T30 l0 x4_1).f0)) = false := decide_eq_false c4
      clear c4
      have H' := Aside0.mk H
      clear H
      have p101 : 0 ≤ (x4_1 : Int) := of_decide_eq_true asA
      have q101 : x4_1 < (l0.length : Int) := of_decide_eq_true asA
      obtain ⟨ad101, A101_1, c101_1, e101, hx101_0, hx101_1, hx101_2, hl101_1, hi101_1⟩ := at_T30 HR0.out x4_1 p101 q101
      cases e101
      have HR101_1 := Aside0.mk hi101_1
      have HC101_1 := Aside0.mk hl101_1
      clear hi101_1 hl101_1
      replace p101 := eq_true p101
      replace q101 := eq_true q101
      have p102 : 0 ≤ (x4_1 : Int) := of_decide_eq_true asA
      have q102 : x4_1 < (l0.length : Int) := of_decide_eq_true asA
      obtain ⟨ad102, A102_1, c102_1, e102, hx102_0, hx102_1, hx102_2, hl102_1, hi102_1⟩ := at_T30 HR0.out x4_1 p102 q102
      obtain rfl : ad101 = ad102 := (by injection e102)
      have HR102_1 := Aside0.mk hi102_1
      have HC102_1 := Aside0.mk hl102_1
      clear hi102_1 hl102_1
      replace p102 := eq_true p102
      replace q102 := eq_true q102
      have ea_ := Option.some.inj (hx101_1.symm.trans hx102_1)
      injection ea_ with ea_ en_ ec_
      subst ea_
      subst ec_
      clear en_
      go_wp2
      go_roundg k1
      case measure => have := HK1.out; omega
      case rel => exact ⟨(wrap64 ((wrap64 (x3_1 + 1)) + (((rd_T30 l0 x4_1).f1).length : Int))), (wrap64 (x4_1 + 1)), sA, sA, H', ⟨by have := HK1.out; omega⟩, by repeat (first | exact Drawn0.refl _ | apply Drawn0.step)⟩
    ·rw [if_neg c3] at H
     exact absurd H (by simp)
   ·rw [if_neg c2] at H
    have c2b0 : decide (x4_1 < (l0.length : Int)) = false := decide_eq_false c2
    clear c2
    obtain rfl := Option.some.inj H
    go_wp2
    go_ret
    exact ⟨sA, by repeat (first | exact Drawn0.refl _ | apply Drawn0.step)⟩

/-! ### runes_Valid: function 60 -/
def runes_Valid.f (a0 : Int) : Option (Bool) := if a0 ≥ 0 then (if a0 ≤ 1114111 then (if a0 < 55296 then (some true) else (some (decide (a0 > 57343)))) else (some false)) else (some false)
theorem runes_Valid.calls (a0 : Int) (r : Bool) (w : World) (h : runes_Valid.f a0 = some r) :
  Calls Tryd.prog 60 #[.int .i32 a0] w fun e w' => e = .returned (.bool r) ∧ Drawn0 w w' := by
 have H : (if a0 ≥ 0 then (if a0 ≤ 1114111 then (if a0 < 55296 then (some true) else (some (decide (a0 > 57343)))) else (some false)) else (some false)) = some r := h
 clear h
 by_cases c2 : a0 ≥ 0
 ·rw [if_pos c2] at H
  have c2b0 : decide (0 ≤ a0) = true := decide_eq_true c2
  clear c2
  by_cases c3 : a0 ≤ 1114111
  ·rw [if_pos c3] at H
   have c3b0 : decide (a0 ≤ 1114111) = true := decide_eq_true c3
   clear c3
   by_cases c4 : a0 < 55296
   ·rw [if_pos c4] at H
    have c4b0 : decide (a0 < 55296) = true := decide_eq_true c4
    clear c4
    obtain rfl := Option.some.inj H
    go_enter Tryd.func60, Tryd.ntmps60
    go_wp2
    go_ret
    exact ⟨sA, by repeat (first | exact Drawn0.refl _ | apply Drawn0.step)⟩
   ·rw [if_neg c4] at H
    have c4b0 : decide (a0 < 55296) = false := decide_eq_false c4
    clear c4
    obtain rfl := Option.some.inj H
    go_enter Tryd.func60, Tryd.ntmps60
    go_wp2
    go_ret
    exact ⟨sA, by repeat (first | exact Drawn0.refl _ | apply Drawn0.step)⟩
  ·rw [if_neg c3] at H
   have c3b0 : decide (a0 ≤ 1114111) = false := decide_eq_false c3
   clear c3
   obtain rfl := Option.some.inj H
   go_enter Tryd.func60, Tryd.ntmps60
   go_wp2
   go_ret
   exact ⟨sA, by repeat (first | exact Drawn0.refl _ | apply Drawn0.step)⟩
 ·rw [if_neg c2] at H
  have c2b0 : decide (0 ≤ a0) = false := decide_eq_false c2
  clear c2
  obtain rfl := Option.some.inj H
  go_enter Tryd.func60, Tryd.ntmps60
  go_wp2
  go_ret
  exact ⟨sA, by repeat (first | exact Drawn0.refl _ | apply Drawn0.step)⟩

/-! ### runes_Control: function 61 -/
mutual
def runes_Control.j0 : Nat → Int → Bool → Option (Bool)
 | 0, _, _ => none
 | k + 1, x0, x3 => if x3 = true then (runes_Control.j1 k x0 x3) else (if x0 ≥ 127 then (runes_Control.j1 k x0 (decide (x0 ≤ 159))) else (runes_Control.j1 k x0 false))
def runes_Control.j1 : Nat → Int → Bool → Option (Bool)
 | 0, _, _ => none
 | k + 1, x0, x3 => if x3 = true then (some true) else (if x0 = 8232 then (some true) else (if x0 = 8233 then (some true) else (some false)))
end
def runes_Control.f (k : Nat) (a0 : Int) : Option (Bool) := if a0 ≥ 0 then (runes_Control.j0 k a0 (decide (a0 < 32))) else (runes_Control.j0 k a0 false)
theorem runes_Control.mono_l : ∀ k, (∀ y0 y1, LeO (runes_Control.j0 k y0 y1) (runes_Control.j0 (k + 1) y0 y1)) ∧ (∀ y0 y1, LeO (runes_Control.j1 k y0 y1) (runes_Control.j1 (k + 1) y0 y1))
 | 0 => ⟨fun _ _ r h => by simp [runes_Control.j0] at h, fun _ _ r h => by simp [runes_Control.j1] at h⟩
 | k + 1 => by
  obtain ⟨ih0, ih1⟩ := runes_Control.mono_l k
  refine ⟨?_, ?_⟩
  ·intro y0 y1
   unfold runes_Control.j0
   repeat' first
   | (with_reducible exact ih0 _ _)
   | (with_reducible exact ih1 _ _)
   | (with_reducible exact LeO.refl _)
   | (with_reducible exact LeO.none _)
   | (with_reducible refine LeO.ite ?_ ?_)
   | (with_reducible refine LeO.bind ?_ (fun _ => ?_))
  ·intro y0 y1
   unfold runes_Control.j1
   repeat' first
   | (with_reducible exact ih0 _ _)
   | (with_reducible exact ih1 _ _)
   | (with_reducible exact LeO.refl _)
   | (with_reducible exact LeO.none _)
   | (with_reducible refine LeO.ite ?_ ?_)
   | (with_reducible refine LeO.bind ?_ (fun _ => ?_))
theorem runes_Control.mono : ∀ a0 k, LeO (runes_Control.f k a0) (runes_Control.f (k + 1) a0) := by
 intro a0 k
 obtain ⟨ih0, ih1⟩ := runes_Control.mono_l k
 unfold runes_Control.f
 repeat' first
   | (with_reducible exact ih0 _ _)
   | (with_reducible exact ih1 _ _)
   | (with_reducible exact LeO.refl _)
   | (with_reducible exact LeO.none _)
   | (with_reducible refine LeO.ite ?_ ?_)
   | (with_reducible refine LeO.bind ?_ (fun _ => ?_))
theorem runes_Control.calls (k : Nat) (a0 : Int) (r : Bool) (w : World) (h : runes_Control.f k a0 = some r) :
  Calls Tryd.prog 61 #[.int .i32 a0] w fun e w' => e = .returned (.bool r) ∧ Drawn0 w w' := by
 have H : (if a0 ≥ 0 then (runes_Control.j0 k a0 (decide (a0 < 32))) else (runes_Control.j0 k a0 false)) = some r := h
 clear h
 have HC2 := Aside0.mk H
 clear H
 go_enter Tryd.func61, Tryd.ntmps61
 go_upto_region 1 with (fail)
 go_cut [3] (fun v3 wc => ∃ (kq : Nat) (x3_1 : Bool), v3 = .bool x3_1 ∧ Aside0 (runes_Control.j0 kq a0 x3_1 = some r) ∧ Aside0 (kq ≤ k) ∧ Drawn0 w wc)
 case first =>
  have H := HC2.out
  clear HC2
  by_cases c3 : a0 ≥ 0
  ·rw [if_pos c3] at H
   have c3b0 : decide (0 ≤ a0) = true := decide_eq_true c3
   clear c3
   (first | rw [c3b0] | (simp only [i64_w, i32_w]; rw [c3b0]) | skip)
   have H' := Aside0.mk H
   clear H
   go_wp2
   go_meet
   case rel => exact ⟨_, (decide (a0 < 32)), sA, H', ⟨by first | omega | exact Nat.le_refl _⟩, by repeat (first | exact Drawn0.refl _ | apply Drawn0.step)⟩
  ·rw [if_neg c3] at H
   have c3b0 : decide (0 ≤ a0) = false := decide_eq_false c3
   clear c3
   (first | rw [c3b0] | (simp only [i64_w, i32_w]; rw [c3b0]) | skip)
   have H' := Aside0.mk H
   clear H
   go_wp2
   go_meet
   case rel => exact ⟨_, (false), sA, H', ⟨by first | omega | exact Nat.le_refl _⟩, by repeat (first | exact Drawn0.refl _ | apply Drawn0.step)⟩
 case rest =>
  clear HC2
  try clear p2
  try clear c3
  try clear c3b0
  obtain ⟨kq, x3_1, rfl, HA, HJ1, ⟨mc1, rfl⟩⟩ := hcut
  cases kq with
  | zero => exact absurd HA.out (by simp [runes_Control.j0])
  | succ kj1 =>
   have H := HA.out
   clear HA
   simp only [runes_Control.j0] at H
   have HC4 := Aside0.mk H
   clear H
   go_upto_if 3 with (fail)
   go_cut [3] (fun v3 wc => ∃ (kq : Nat) (x3_3 : Bool), v3 = .bool x3_3 ∧ Aside0 (runes_Control.j1 kq a0 x3_3 = some r) ∧ Aside0 (kq ≤ kj1) ∧ Drawn0 w wc)
   case first =>
    have H := HC4.out
    clear HC4
    by_cases c5 : x3_1 = true
    ·subst c5
     have H1 : (runes_Control.j1 kj1 a0 true) = some r := by rw [if_pos rfl] at H; exact H
     clear H
     have H := H1
     clear H1
     have H' := Aside0.mk H
     clear H
     go_wp2
     go_meet
     case rel => exact ⟨_, (true), sA, H', ⟨by have := HJ1.out; first | omega | exact Nat.le_refl _⟩, by repeat (first | exact Drawn0.refl _ | apply Drawn0.step)⟩
    ·replace c5 := Bool.eq_false_iff.mpr c5
     subst c5
     have H1 : (if a0 ≥ 127 then (runes_Control.j1 kj1 a0 (decide (a0 ≤ 159))) else (runes_Control.j1 kj1 a0 false)) = some r := by rw [if_neg (show ¬ (false = true) by decide)] at H; exact H
     clear H
     have H := H1
     clear H1
     by_cases c6 : a0 ≥ 127
     ·rw [if_pos c6] at H
      have c6b0 : decide (127 ≤ a0) = true := decide_eq_true c6
      clear c6
      (first | rw [c6b0] | (simp only [i64_w, i32_w]; rw [c6b0]) | skip)
      have H' := Aside0.mk H
      clear H
      go_wp2
      go_meet
      case rel => exact ⟨_, (decide (a0 ≤ 159)), sA, H', ⟨by have := HJ1.out; first | omega | exact Nat.le_refl _⟩, by repeat (first | exact Drawn0.refl _ | apply Drawn0.step)⟩
     ·rw [if_neg c6] at H
      have c6b0 : decide (127 ≤ a0) = false := decide_eq_false c6
      clear c6
      (first | rw [c6b0] | (simp only [i64_w, i32_w]; rw [c6b0]) | skip)
      have H' := Aside0.mk H
      clear H
      go_wp2
      go_meet
      case rel => exact ⟨_, (false), sA, H', ⟨by have := HJ1.out; first | omega | exact Nat.le_refl _⟩, by repeat (first | exact Drawn0.refl _ | apply Drawn0.step)⟩
   case rest =>
    clear HC4
    try clear c1
    try clear p2
    try clear c3
    try clear c3b0
    try clear c5
    try clear c6
    try clear c6b0
    try clear p2
    obtain ⟨kq, x3_3, rfl, HA, HJ3, ⟨mc3, rfl⟩⟩ := hcut
    cases kq with
    | zero => exact absurd HA.out (by simp [runes_Control.j1])
    | succ kj3 =>
     have H := HA.out
     clear HA
     simp only [runes_Control.j1] at H
     by_cases c7 : x3_3 = true
     ·subst c7
      have H1 : (some true) = some r := by rw [if_pos rfl] at H; exact H
      clear H
      have H := H1
      clear H1
      obtain rfl := Option.some.inj H
      go_wp2
      go_ret
      exact ⟨sA, by repeat (first | exact Drawn0.refl _ | apply Drawn0.step)⟩
     ·replace c7 := Bool.eq_false_iff.mpr c7
      subst c7
      have H1 : (if a0 = 8232 then (some true) else (if a0 = 8233 then (some true) else (some false))) = some r := by rw [if_neg (show ¬ (false = true) by decide)] at H; exact H
      clear H
      have H := H1
      clear H1
      by_cases c8 : a0 = 8232
      ·rw [if_pos c8] at H
       have c8b0 : (a0 == 8232) = true := beq_iff_eq.mpr c8
       have c8b1 : (a0 != 8232) = false := bne_eq_false_iff_eq.mpr c8
       clear c8
       obtain rfl := Option.some.inj H
       go_wp2
       go_ret
       exact ⟨sA, by repeat (first | exact Drawn0.refl _ | apply Drawn0.step)⟩
      ·rw [if_neg c8] at H
       have c8b0 : (a0 == 8232) = false := beq_eq_false_iff_ne.mpr c8
       have c8b1 : (a0 != 8232) = true := bne_iff_ne.mpr c8
       by_cases c9 : a0 = 8233
       ·rw [if_pos c9] at H
        have c9b0 : (a0 == 8233) = true := beq_iff_eq.mpr c9
        have c9b1 : (a0 != 8233) = false := bne_eq_false_iff_eq.mpr c9
        clear c9
        obtain rfl := Option.some.inj H
        go_wp2
        go_ret
        exact ⟨sA, by repeat (first | exact Drawn0.refl _ | apply Drawn0.step)⟩
       ·rw [if_neg c9] at H
        have c9b0 : (a0 == 8233) = false := beq_eq_false_iff_ne.mpr c9
        have c9b1 : (a0 != 8233) = true := bne_iff_ne.mpr c9
        obtain rfl := Option.some.inj H
        go_wp2
        go_ret
        exact ⟨sA, by repeat (first | exact Drawn0.refl _ | apply Drawn0.step)⟩

/-! ### runes_Safe: function 34 -/
def runes_Safe.f (k : Nat) (a0 : Int) : Option (Int) := (runes_Valid.f a0).bind fun t103 => (if t103 = true then ((runes_Control.f k a0).bind fun t104 => (if t104 = true then (some 65533) else (some a0))) else (some 65533))
theorem runes_Safe.mono : ∀ a0 k, LeO (runes_Safe.f k a0) (runes_Safe.f (k + 1) a0) := by
 intro a0 k
 unfold runes_Safe.f
 repeat' first
   | (with_reducible exact runes_Control.mono _ _)
   | (with_reducible exact LeO.refl _)
   | (with_reducible exact LeO.none _)
   | (with_reducible refine LeO.ite ?_ ?_)
   | (with_reducible refine LeO.bind ?_ (fun _ => ?_))
theorem runes_Safe.calls (k : Nat) (a0 : Int) (r : Int) (w : World) (h : runes_Safe.f k a0 = some r) :
  Calls Tryd.prog 34 #[.int .i32 a0] w fun e w' => e = .returned (.int .i32 r) ∧ Drawn0 w w' := by
 have H : ((runes_Valid.f a0).bind fun t103 => (if t103 = true then ((runes_Control.f k a0).bind fun t104 => (if t104 = true then (some 65533) else (some a0))) else (some 65533))) = some r := h
 clear h
 replace H := Option.bind_eq_some_iff.mp H
 obtain ⟨t103, A20, H⟩ := H
 replace H : (if t103 = true then ((runes_Control.f k a0).bind fun t104 => (if t104 = true then (some 65533) else (some a0))) else (some 65533)) = some r := H
 have A2 := Aside0.mk A20
 clear A20
 by_cases c3 : t103 = true
 ·subst c3
  have H1 : ((runes_Control.f k a0).bind fun t104 => (if t104 = true then (some 65533) else (some a0))) = some r := by rw [if_pos rfl] at H; exact H
  clear H
  have H := H1
  clear H1
  replace H := Option.bind_eq_some_iff.mp H
  obtain ⟨t104, A40, H⟩ := H
  replace H : (if t104 = true then (some 65533) else (some a0)) = some r := H
  have A4 := Aside0.mk A40
  clear A40
  by_cases c5 : t104 = true
  ·subst c5
   have H1 : (some 65533) = some r := by rw [if_pos rfl] at H; exact H
   clear H
   have H := H1
   clear H1
   obtain rfl := Option.some.inj H
   go_enter Tryd.func34, Tryd.ntmps34
   go_wp2_with (first | ((with_reducible refine gate_callee (f := 60) rfl ?_); refine goesL_ (some 4) rfl rfl Tryd.func60 (by kernel_rfl) rfl #[.int .i32 a0] rfl aP ?_; (with_reducible refine (runes_Valid.calls a0 true _ A2.out).mono ?_); rintro e w' ⟨rfl, ⟨nd, rfl⟩⟩; refine ⟨_, rfl, ?_⟩) | (go_at_call 61; (with_reducible refine (runes_Control.calls k a0 true _ A4.out).mono ?_); rintro e w' ⟨rfl, ⟨nd, rfl⟩⟩))
   go_ret
   exact ⟨sA, by repeat (first | exact Drawn0.refl _ | apply Drawn0.step)⟩
  ·replace c5 := Bool.eq_false_iff.mpr c5
   subst c5
   have H1 : (some a0) = some r := by rw [if_neg (show ¬ (false = true) by decide)] at H; exact H
   clear H
   have H := H1
   clear H1
   obtain rfl := Option.some.inj H
   go_enter Tryd.func34, Tryd.ntmps34
   go_wp2_with (first | ((with_reducible refine gate_callee (f := 60) rfl ?_); refine goesL_ (some 4) rfl rfl Tryd.func60 (by kernel_rfl) rfl #[.int .i32 a0] rfl aP ?_; (with_reducible refine (runes_Valid.calls a0 true _ A2.out).mono ?_); rintro e w' ⟨rfl, ⟨nd, rfl⟩⟩; refine ⟨_, rfl, ?_⟩) | (go_at_call 61; (with_reducible refine (runes_Control.calls k a0 false _ A4.out).mono ?_); rintro e w' ⟨rfl, ⟨nd, rfl⟩⟩))
   go_ret
   exact ⟨sA, by repeat (first | exact Drawn0.refl _ | apply Drawn0.step)⟩
 ·replace c3 := Bool.eq_false_iff.mpr c3
  subst c3
  have H1 : (some 65533) = some r := by rw [if_neg (show ¬ (false = true) by decide)] at H; exact H
  clear H
  have H := H1
  clear H1
  obtain rfl := Option.some.inj H
  go_enter Tryd.func34, Tryd.ntmps34
  go_wp2_with (first | ((with_reducible refine gate_callee (f := 60) rfl ?_); refine goesL_ (some 4) rfl rfl Tryd.func60 (by kernel_rfl) rfl #[.int .i32 a0] rfl aP ?_; (with_reducible refine (runes_Valid.calls a0 false _ A2.out).mono ?_); rintro e w' ⟨rfl, ⟨nd, rfl⟩⟩; refine ⟨_, rfl, ?_⟩))
  go_ret
  exact ⟨sA, by repeat (first | exact Drawn0.refl _ | apply Drawn0.step)⟩

/-! ### cells_Clean: function 32 -/
mutual
def cells_Clean.l0 : Nat → List (S35) → List (S35) → Int → Int → Option ((List (S35)))
 | 0, _, _, _, _ => none
 | k + 1, x3, x6, x7, x8 => if x8 < x7 then (if 0 ≤ x8 then (if x8 < (x6.length : Int) then (if ((rd_T35 x6 x8).f0) = 160 then (cells_Clean.j1 k x3 x6 x7 x8 32 ((rd_T35 x6 x8).f1)) else (cells_Clean.j1 k x3 x6 x7 x8 ((rd_T35 x6 x8).f0) ((rd_T35 x6 x8).f1))) else (none)) else (none)) else (some x3)
def cells_Clean.j1 : Nat → List (S35) → List (S35) → Int → Int → Int → Int → Option ((List (S35)))
 | 0, _, _, _, _, _, _ => none
 | k + 1, x3, x6, x7, x8, x107000, x107001 => (runes_Safe.f k x107000).bind fun t107 => (if (x3.length : Int) > 0 then (if x3.length < 17592186044416 then (cells_Clean.l0 k (x3 ++ [(⟨t107, Go.bits .and .u8 x107001 3⟩ : S35)]) x6 x7 (wrap64 (x8 + 1))) else (none)) else ((runes_Width.f t107).bind fun t111 => (if t111 > 0 then (if x3.length < 17592186044416 then (cells_Clean.l0 k (x3 ++ [(⟨t107, Go.bits .and .u8 x107001 3⟩ : S35)]) x6 x7 (wrap64 (x8 + 1))) else (none)) else (cells_Clean.l0 k x3 x6 x7 (wrap64 (x8 + 1))))))
end
def cells_Clean.f (k : Nat) (l0 : List (S35)) : Option ((List (S35))) := cells_Clean.l0 k ([] : List (S35)) l0 (l0.length : Int) 0
theorem cells_Clean.mono_l : ∀ k, (∀ y0 y1 y2 y3, LeO (cells_Clean.l0 k y0 y1 y2 y3) (cells_Clean.l0 (k + 1) y0 y1 y2 y3)) ∧ (∀ y0 y1 y2 y3 y4 y5, LeO (cells_Clean.j1 k y0 y1 y2 y3 y4 y5) (cells_Clean.j1 (k + 1) y0 y1 y2 y3 y4 y5))
 | 0 => ⟨fun _ _ _ _ r h => by simp [cells_Clean.l0] at h, fun _ _ _ _ _ _ r h => by simp [cells_Clean.j1] at h⟩
 | k + 1 => by
  obtain ⟨ih0, ih1⟩ := cells_Clean.mono_l k
  refine ⟨?_, ?_⟩
  ·intro y0 y1 y2 y3
   unfold cells_Clean.l0
   repeat' first
   | (with_reducible exact ih0 _ _ _ _)
   | (with_reducible exact ih1 _ _ _ _ _ _)
   | (with_reducible exact runes_Safe.mono _ _)
   | (with_reducible exact LeO.refl _)
   | (with_reducible exact LeO.none _)
   | (with_reducible refine LeO.ite ?_ ?_)
   | (with_reducible refine LeO.bind ?_ (fun _ => ?_))
  ·intro y0 y1 y2 y3 y4 y5
   unfold cells_Clean.j1
   repeat' first
   | (with_reducible exact ih0 _ _ _ _)
   | (with_reducible exact ih1 _ _ _ _ _ _)
   | (with_reducible exact runes_Safe.mono _ _)
   | (with_reducible exact LeO.refl _)
   | (with_reducible exact LeO.none _)
   | (with_reducible refine LeO.ite ?_ ?_)
   | (with_reducible refine LeO.bind ?_ (fun _ => ?_))
theorem cells_Clean.mono : ∀ a0 k, LeO (cells_Clean.f k a0) (cells_Clean.f (k + 1) a0) := by
 intro a0 k
 obtain ⟨ih0, ih1⟩ := cells_Clean.mono_l k
 unfold cells_Clean.f
 repeat' first
   | (with_reducible exact ih0 _ _ _ _)
   | (with_reducible exact ih1 _ _ _ _ _ _)
   | (with_reducible exact runes_Safe.mono _ _)
   | (with_reducible exact LeO.refl _)
   | (with_reducible exact LeO.none _)
   | (with_reducible refine LeO.ite ?_ ?_)
   | (with_reducible refine LeO.bind ?_ (fun _ => ?_))
theorem cells_Clean.calls (k : Nat) (A0 : Option Addr) (c0 : Nat) (l0 : List (S35)) (r : List (S35)) (w : World) (hr0 : Kd.C k35 w A0 l0.length l0) (hc0 : l0.length ≤ c0) (hG : GOK [0] w) (h : cells_Clean.f k l0 = some r) :
  Calls Tryd.prog 32 #[.slice A0 l0.length c0] w fun e w' => ∃ v0_ : Value, e = .returned (v0_) ∧ Kd.R k35 35 w' w.heap.size (fun _ => True) v0_ r ∧ Below w.heap.size w w' := by
 have hu35 := Tryd.underlying35
 have HG := Aside0.mk hG
 clear hG
 have HR0 := Aside0.mk hr0
 have HC0 := Aside0.mk hc0
 clear hr0 hc0
 have HB := Aside0.mk (Below.refl w.heap.size w)
 have H : (cells_Clean.l0 k ([] : List (S35)) l0 (l0.length : Int) 0) = some r := h
 clear h
 have H' := Aside0.mk H
 clear H
 go_enter Tryd.func32, Tryd.ntmps32
 go_wp2
 go_loopg [3, 8] k (fun kq v3 v8 w' => ∃ (x3_1 : List (S35)) (x8_1 : Int), v8 = .int .i64 x8_1 ∧ Aside0 (cells_Clean.l0 kq x3_1 l0 (l0.length : Int) x8_1 = some r) ∧ Aside0 (kq ≤ k) ∧ Aside0 (Kd.R k35 35 w' w.heap.size (fun _ => True) v3 x3_1) ∧ Aside0 (Below w.heap.size w w'))
 case atStart => exact ⟨(([] : List (S35))), (0), sA, H', ⟨Nat.le_refl _⟩, ⟨by first | exact Kd.R_nil _ _ _ _ _ | exact Kd.N_nil _ _ _ _ _ | exact Kd.V_nil _ _ _ _ _ | exact Kd.Q_nil _ _ _ _ _ | exact Kd.S_nil _ _ _ _ _⟩, ⟨bA⟩⟩
 case round =>
  clear H'
  obtain ⟨x3_1, x8_1, rfl, HA, HK1, HO_3, HB⟩ := hrel
  cases gk with
  | zero => exact absurd HA.out (by simp [cells_Clean.l0])
  | succ k1 =>
   have H := HA.out
   clear HA
   simp only [cells_Clean.l0] at H
   by_cases c2 : x8_1 < (l0.length : Int)
   ·rw [if_pos c2] at H
    have c2b0 : decide (x8_1 < (l0.length : Int)) = true := decide_eq_true c2
    clear c2
    by_cases c3 : 0 ≤ x8_1
    ·rw [if_pos c3] at H
     have c3b0 : decide (0 ≤ x8_1) = true := decide_eq_true c3
     clear c3
     by_cases c4 : x8_1 < (l0.length : Int)
     ·rw [if_pos c4] at H
      have c4b0 : decide (x8_1 < (l0.length : Int)) = true := decide_eq_true c4
      clear c4
      have HC5 := Aside0.mk H
      clear H
      have p105 : 0 ≤ (x8_1 : Int) := of_decide_eq_true asA
      have q105 : x8_1 < (l0.length : Int) := of_decide_eq_true asA
      obtain ⟨ad105, e105, hx105_0, hx105_1⟩ := at_T35 HR0.out x8_1 p105 q105
      cases e105
      replace hx105_0 := (HB.out.cell (World.block_lt_of_cell? w _ hx105_0)).trans hx105_0
      replace hx105_1 := (HB.out.cell (World.block_lt_of_cell? w _ hx105_1)).trans hx105_1
      replace p105 := eq_true p105
      replace q105 := eq_true q105
      go_upto_if 14 with (first | ((with_reducible refine gate_dst (N := 5) rfl ?_); refine box_event ?hg (N := 5) ?hd (cs := #[.int .i32 0, .int .u8 0]) (t := 35) ?hr ?_; (case hd => rfl); (case hg => rfl); (case hr => first | (go_simp; done) | (go_simp; rfl)); intro gb106 hg w6 hbox hb; replace HO_3 := Aside0.mk (Kd.R_below (Kd.R_elderB (kR HO_3) gb106 (Nat.le_of_eq hg.symm)) hb); have BK106 := Aside0.mk (hbox); have GW106 := Aside0.mk ((geA hg : w.heap.size ≤ gb106)); have GE106 := Aside0.mk ((geA hg : w.heap.size ≤ gb106)); replace HB := Aside0.mk (below_step bA hb); clear hb hbox hg; have hcz7_0 : w6.cell? ⟨gb106, 0, none⟩ = some (.int .i32 0) := (blk_cell BK106.out 0).trans rfl; have hcz7_1 : w6.cell? ⟨gb106, 1, none⟩ = some (.int .u8 0) := (blk_cell BK106.out 1).trans rfl; have hfz7_0 := blk_frozen BK106.out 0; have hfz7_1 := blk_frozen BK106.out 1))
      (try simp only [Act.put, List.setIfInBounds_toArray, List.set_cons_zero, List.set_cons_succ])
      go_cut [] (fun wc => ∃ (kq : Nat) (x107000_4 : Int), Aside0 (cells_Clean.j1 kq x3_1 l0 (l0.length : Int) x8_1 x107000_4 ((rd_T35 l0 x8_1).f1) = some r) ∧ Aside0 (kq ≤ k1) ∧ Aside0 (Kd.R k35 35 wc w.heap.size (fun k_ => k_ ≠ gb106) u3 x3_1) ∧ Aside0 (wc.heap[gb106]? = some (.cells #[.int .i32 x107000_4, .int .u8 ((rd_T35 l0 x8_1).f1)] 35 (0, 0))) ∧ Aside0 (Below w.heap.size w wc))
      case first =>
       have H := HC5.out
       clear HC5
       by_cases c8 : ((rd_T35 l0 x8_1).f0) = 160
       ·rw [if_pos c8] at H
        have c8b0 : (((rd_T35 l0 x8_1).f0) == 160) = true := beq_iff_eq.mpr c8
        have c8b1 : (((rd_T35 l0 x8_1).f0) != 160) = false := bne_eq_false_iff_eq.mpr c8
        clear c8
        (first | rw [c8b0] | (simp only [i64_w, i32_w]; rw [c8b0]) | skip)
        have H' := Aside0.mk H
        clear H
        have hcz9_0 : w6.cell? ⟨gb106, 0, none⟩ = some (.int .i32 0) := (blk_cell BK106.out 0).trans rfl
        have hcz9_1 : w6.cell? ⟨gb106, 1, none⟩ = some (.int .u8 0) := (blk_cell BK106.out 1).trans rfl
        have hfz9_0 := blk_frozen BK106.out 0
        have hfz9_1 := blk_frozen BK106.out 1
        go_wp2
        go_meet
        case rel => exact ⟨_, (32), H', ⟨by have := HK1.out; first | omega | exact Nat.le_refl _⟩, ⟨by (with_reducible repeat (first | apply Kd.R_alloc | apply Kd.R_drewN | apply Kd.R_drew)); exact Kd.R_mono (Kd.R_far (p := ⟨gb106, 0, none⟩) (Kd.R_far (p := ⟨gb106, 1, none⟩) (Kd.R_far (p := ⟨gb106, 0, none⟩) (Kd.R_mono HO_3.out (fun k_ hk => (⟨hk, hk.2⟩ : _ ∧ k_ ≠ gb106))) (fun _ hk => hk.2) (.int .i32 ((rd_T35 l0 x8_1).f0))) (fun _ hk => hk.2) (.int .u8 ((rd_T35 l0 x8_1).f1))) (fun _ hk => hk.2) (.int .i32 32)) (fun _ hk => hk.1.2)⟩, ⟨by (with_reducible repeat (first | refine blk_drewN ?_ _ | refine blk_drew ?_ | refine blk_alloc ?_ _)); refine blk_put (cs := #[.int .i32 ((rd_T35 l0 x8_1).f0), .int .u8 ((rd_T35 l0 x8_1).f1)]) ?_ 0 _ rfl; (with_reducible repeat (first | refine blk_drewN ?_ _ | refine blk_drew ?_ | refine blk_alloc ?_ _)); refine blk_put (cs := #[.int .i32 ((rd_T35 l0 x8_1).f0), .int .u8 0]) ?_ 1 _ rfl; (with_reducible repeat (first | refine blk_drewN ?_ _ | refine blk_drew ?_ | refine blk_alloc ?_ _)); refine blk_put (cs := #[.int .i32 0, .int .u8 0]) ?_ 0 _ rfl; (with_reducible repeat (first | refine blk_drewN ?_ _ | refine blk_drew ?_ | refine blk_alloc ?_ _)); exact BK106.out⟩, ⟨bG⟩⟩
       ·rw [if_neg c8] at H
        have c8b0 : (((rd_T35 l0 x8_1).f0) == 160) = false := beq_eq_false_iff_ne.mpr c8
        have c8b1 : (((rd_T35 l0 x8_1).f0) != 160) = true := bne_iff_ne.mpr c8
        (first | rw [c8b0] | (simp only [i64_w, i32_w]; rw [c8b0]) | skip)
        have H' := Aside0.mk H
        clear H
        go_wp2
        go_meet
        case rel => exact ⟨_, ((rd_T35 l0 x8_1).f0), H', ⟨by have := HK1.out; first | omega | exact Nat.le_refl _⟩, ⟨by (with_reducible repeat (first | apply Kd.R_alloc | apply Kd.R_drewN | apply Kd.R_drew)); exact Kd.R_mono (Kd.R_far (p := ⟨gb106, 1, none⟩) (Kd.R_far (p := ⟨gb106, 0, none⟩) (Kd.R_mono HO_3.out (fun k_ hk => (⟨hk, hk.2⟩ : _ ∧ k_ ≠ gb106))) (fun _ hk => hk.2) (.int .i32 ((rd_T35 l0 x8_1).f0))) (fun _ hk => hk.2) (.int .u8 ((rd_T35 l0 x8_1).f1))) (fun _ hk => hk.1.2)⟩, ⟨by (with_reducible repeat (first | refine blk_drewN ?_ _ | refine blk_drew ?_ | refine blk_alloc ?_ _)); refine blk_put (cs := #[.int .i32 ((rd_T35 l0 x8_1).f0), .int .u8 0]) ?_ 1 _ rfl; (with_reducible repeat (first | refine blk_drewN ?_ _ | refine blk_drew ?_ | refine blk_alloc ?_ _)); refine blk_put (cs := #[.int .i32 0, .int .u8 0]) ?_ 0 _ rfl; (with_reducible repeat (first | refine blk_drewN ?_ _ | refine blk_drew ?_ | refine blk_alloc ?_ _)); exact BK106.out⟩, ⟨bG⟩⟩
      case rest =>
       clear HC5
       try clear p1
       try clear q1
       try clear hx1
       try clear c2
       try clear c2b0
       try clear p2
       try clear c3
       try clear c3b0
       try clear c4
       try clear c4b0
       try clear c8
       try clear c8b0
       try clear c8b1
       try clear hcz7_0
       try clear hcz7_1
       try clear hcz9_0
       try clear hcz9_1
       try clear hfz7_0
       try clear hfz7_1
       try clear hfz9_0
       try clear hfz9_1
       try clear hx105_0
       try clear hx105_1
       try clear p105
       try clear q105
       obtain ⟨kq, x107000_4, HA, HJ4, HO_3, BK106, HB⟩ := hcut
       cases kq with
       | zero => exact absurd HA.out (by simp [cells_Clean.j1])
       | succ kj4 =>
        have H := HA.out
        clear HA
        simp only [cells_Clean.j1] at H
        replace H := Option.bind_eq_some_iff.mp H
        obtain ⟨t107, A100, H⟩ := H
        replace H : (if (x3_1.length : Int) > 0 then (if x3_1.length < 17592186044416 then (cells_Clean.l0 kj4 (x3_1 ++ [(⟨t107, Go.bits .and .u8 ((rd_T35 l0 x8_1).f1) 3⟩ : S35)]) l0 (l0.length : Int) (wrap64 (x8_1 + 1))) else (none)) else ((runes_Width.f t107).bind fun t111 => (if t111 > 0 then (if x3_1.length < 17592186044416 then (cells_Clean.l0 kj4 (x3_1 ++ [(⟨t107, Go.bits .and .u8 ((rd_T35 l0 x8_1).f1) 3⟩ : S35)]) l0 (l0.length : Int) (wrap64 (x8_1 + 1))) else (none)) else (cells_Clean.l0 kj4 x3_1 l0 (l0.length : Int) (wrap64 (x8_1 + 1)))))) = some r := H
        have A10 := Aside0.mk A100
        clear A100
        by_cases c11 : (x3_1.length : Int) > 0
        ·rw [if_pos c11] at H
         have c11b0 : decide (0 < (x3_1.length : Int)) = true := decide_eq_true c11
         have c11b1 : decide (0 < x3_1.length) = true := decide_eq_true (by omega)
         clear c11
         by_cases c12 : x3_1.length < 17592186044416
         ·rw [if_pos c12] at H
          have LMc12 := Aside0.mk c12
          clear c12
          obtain ⟨y108, hy108⟩ : ∃ y_ : List (S35), y_ = (x3_1 ++ [(⟨t107, Go.bits .and .u8 ((rd_T35 l0 x8_1).f1) 3⟩ : S35)]) := ⟨_, rfl⟩
          replace H : (cells_Clean.l0 kj4 y108 l0 (l0.length : Int) (wrap64 (x8_1 + 1))) = some r := hyA hy108 H
          have Ny108 := Aside0.mk hy108
          clear hy108
          have H' := Aside0.mk H
          clear H
          have hcz13_0 : wc.cell? ⟨gb106, 0, none⟩ = some (.int .i32 x107000_4) := (blk_cell BK106.out 0).trans rfl
          have hcz13_1 : wc.cell? ⟨gb106, 1, none⟩ = some (.int .u8 ((rd_T35 l0 x8_1).f1)) := (blk_cell BK106.out 1).trans rfl
          have hfz13_0 := blk_frozen BK106.out 0
          have hfz13_1 := blk_frozen BK106.out 1
          go_wp2_with (first | ((with_reducible refine gate_callee (f := 34) rfl ?_); refine goesL_ (some 18) rfl rfl Tryd.func34 (by kernel_rfl) rfl #[.int .i32 x107000_4] rfl aP ?_; (with_reducible refine (runes_Safe.calls kj4 x107000_4 t107 _ A10.out).mono ?_); rintro e w' ⟨rfl, ⟨nd, rfl⟩⟩; refine ⟨_, rfl, ?_⟩; (try (rw [drewN_self wc]; generalize hq_ : World.drewN wc _ = wc; have n0_ : Aside0 (Kd.R k35 35 wc w.heap.size (fun k_ => k_ ≠ gb106) u3 x3_1) := ⟨by rw [← hq_]; exact (kR HO_3)⟩; have n1_ : Aside0 (wc.heap[gb106]? = some (.cells #[.int .i32 x107000_4, .int .u8 ((rd_T35 l0 x8_1).f1)] 35 (0, 0))) := ⟨by rw [← hq_]; exact (kB BK106)⟩; have n2_ : Aside0 (Below w.heap.size w wc) := ⟨by rw [← hq_]; exact bG⟩; clear HO_3 BK106 HB hq_; have HO_3 := n0_; have BK106 := n1_; have HB := n2_; clear n0_ n1_ n2_)); (try (have hcz14_0 : wc.cell? ⟨gb106, 0, none⟩ = some (.int .i32 x107000_4) := (blk_cell BK106.out 0).trans rfl; have hcz14_1 : wc.cell? ⟨gb106, 1, none⟩ = some (.int .u8 ((rd_T35 l0 x8_1).f1)) := (blk_cell BK106.out 1).trans rfl; have hfz14_0 := blk_frozen BK106.out 0; have hfz14_1 := blk_frozen BK106.out 1)); obtain ⟨Ao15, co15, eo15⟩ := Kd.R_slice HO_3.out; subst eo15) | ((with_reducible refine gate_builtin (b := .append) (xs := #[.tmp 33, .tmp 35]) rfl ?_); at_builtin; refine Kd.R_append k35 (w0 := w) w.heap.size rfl (.tmp 33) (.tmp 35) 27 35 (.agg #[(.int .i32 0), (.int .u8 0)]) 8 rfl Tryd.underlying27 info35 rfl (by decide) (by omega) (.slice Ao15 x3_1.length co15) x3_1 (⟨t107, Go.bits .and .u8 ((rd_T35 l0 x8_1).f1) 3⟩ : S35) [.int .i32 t107, .int .u8 (Go.bits .and .u8 ((rd_T35 l0 x8_1).f1) 3)] (fun k_ => k_ ≠ gb106) (fun _ => False) rfl (by first | (go_simp; done) | (go_simp; rfl)) ?aP (fun _ hk => hk.elim) ?aF ?aO ?aB ?aS ?aL ?_; (case aP => exact k35_mkM _ _ _ (⟨t107, Go.bits .and .u8 ((rd_T35 l0 x8_1).f1) 3⟩ : S35)); (case aB => exact bG); (case aF => exact (fun k_ hk => Kd.freshB (g := gb106) (o := .cells #[.int .i32 t107, .int .u8 (Go.bits .and .u8 ((rd_T35 l0 x8_1).f1) 3)] 35 (0, 0)) (by (with_reducible repeat (first | refine blk_drewN ?_ _ | refine blk_drew ?_ | refine blk_alloc ?_ _)); refine blk_put (cs := #[.int .i32 t107, .int .u8 ((rd_T35 l0 x8_1).f1)]) ?_ 1 _ rfl; (with_reducible repeat (first | refine blk_drewN ?_ _ | refine blk_drew ?_ | refine blk_alloc ?_ _)); refine blk_put (cs := #[.int .i32 x107000_4, .int .u8 ((rd_T35 l0 x8_1).f1)]) ?_ 0 _ rfl; (with_reducible repeat (first | refine blk_drewN ?_ _ | refine blk_drew ?_ | refine blk_alloc ?_ _)); exact BK106.out) k_ hk)); (case aO => exact (by (with_reducible repeat (first | apply Kd.R_alloc | apply Kd.R_drewN | apply Kd.R_drew)); exact Kd.R_mono (Kd.R_far (p := ⟨gb106, 1, none⟩) (Kd.R_far (p := ⟨gb106, 0, none⟩) (Kd.R_mono HO_3.out (fun k_ hk => (⟨hk, hk⟩ : _ ∧ k_ ≠ gb106))) (fun _ hk => hk.2) (.int .i32 t107)) (fun _ hk => hk.2) (.int .u8 (Go.bits .and .u8 ((rd_T35 l0 x8_1).f1) 3))) (fun _ hk => hk.1))); (case aS => exact (below_size bG)); (case aL => have := LMc12.out; omega); intro v109 w16 ho hb hg hat; rw [← Ny108.out] at ho; have n0_ := Aside0.mk (blk_grown (g := gb106) (o := .cells #[.int .i32 t107, .int .u8 (Go.bits .and .u8 ((rd_T35 l0 x8_1).f1) 3)] 35 (0, 0)) (by (with_reducible repeat (first | refine blk_drewN ?_ _ | refine blk_drew ?_ | refine blk_alloc ?_ _)); refine blk_put (cs := #[.int .i32 t107, .int .u8 ((rd_T35 l0 x8_1).f1)]) ?_ 1 _ rfl; (with_reducible repeat (first | refine blk_drewN ?_ _ | refine blk_drew ?_ | refine blk_alloc ?_ _)); refine blk_put (cs := #[.int .i32 x107000_4, .int .u8 ((rd_T35 l0 x8_1).f1)]) ?_ 0 _ rfl; (with_reducible repeat (first | refine blk_drewN ?_ _ | refine blk_drew ?_ | refine blk_alloc ?_ _)); exact BK106.out) hg (Kd.R_away HO_3.out (fun _ hk => hk))); have n1_ := Aside0.mk (hb); have n2_ := Aside0.mk (ho); clear BK106; clear HB; clear HO_3; have BK106 := n0_; have HB := n1_; have HO110 := n2_; clear n0_ n1_ n2_; clear ho hb hg hat))
          go_roundg kj4
          case measure => have := HK1.out; have := HJ4.out; omega
          case rel => exact ⟨(y108), (wrap64 (x8_1 + 1)), sA, H', ⟨by have := HK1.out; have := HJ4.out; omega⟩, ⟨by (with_reducible repeat (first | apply Kd.R_alloc | apply Kd.R_drewN | apply Kd.R_drew)); exact Kd.R_mono HO110.out (fun _ hk => trivial)⟩, ⟨bG⟩⟩
         ·rw [if_neg c12] at H
          exact absurd H (by simp)
        ·rw [if_neg c11] at H
         have c11b0 : decide (0 < (x3_1.length : Int)) = false := decide_eq_false c11
         have c11b1 : decide (0 < x3_1.length) = false := decide_eq_false (by omega)
         clear c11
         replace H := Option.bind_eq_some_iff.mp H
         obtain ⟨t111, A170, H⟩ := H
         replace H : (if t111 > 0 then (if x3_1.length < 17592186044416 then (cells_Clean.l0 kj4 (x3_1 ++ [(⟨t107, Go.bits .and .u8 ((rd_T35 l0 x8_1).f1) 3⟩ : S35)]) l0 (l0.length : Int) (wrap64 (x8_1 + 1))) else (none)) else (cells_Clean.l0 kj4 x3_1 l0 (l0.length : Int) (wrap64 (x8_1 + 1)))) = some r := H
         have A17 := Aside0.mk A170
         clear A170
         by_cases c18 : t111 > 0
         ·rw [if_pos c18] at H
          have c18b0 : decide (0 < t111) = true := decide_eq_true c18
          clear c18
          by_cases c19 : x3_1.length < 17592186044416
          ·rw [if_pos c19] at H
           have LMc19 := Aside0.mk c19
           clear c19
           obtain ⟨y112, hy112⟩ : ∃ y_ : List (S35), y_ = (x3_1 ++ [(⟨t107, Go.bits .and .u8 ((rd_T35 l0 x8_1).f1) 3⟩ : S35)]) := ⟨_, rfl⟩
           replace H : (cells_Clean.l0 kj4 y112 l0 (l0.length : Int) (wrap64 (x8_1 + 1))) = some r := hyA hy112 H
           have Ny112 := Aside0.mk hy112
           clear hy112
           have H' := Aside0.mk H
           clear H
           have hcz20_0 : wc.cell? ⟨gb106, 0, none⟩ = some (.int .i32 x107000_4) := (blk_cell BK106.out 0).trans rfl
           have hcz20_1 : wc.cell? ⟨gb106, 1, none⟩ = some (.int .u8 ((rd_T35 l0 x8_1).f1)) := (blk_cell BK106.out 1).trans rfl
           have hfz20_0 := blk_frozen BK106.out 0
           have hfz20_1 := blk_frozen BK106.out 1
           go_wp2_with (first | ((with_reducible refine gate_callee (f := 34) rfl ?_); refine goesL_ (some 18) rfl rfl Tryd.func34 (by kernel_rfl) rfl #[.int .i32 x107000_4] rfl aP ?_; (with_reducible refine (runes_Safe.calls kj4 x107000_4 t107 _ A10.out).mono ?_); rintro e w' ⟨rfl, ⟨nd, rfl⟩⟩; refine ⟨_, rfl, ?_⟩; (try (rw [drewN_self wc]; generalize hq_ : World.drewN wc _ = wc; have n0_ : Aside0 (Kd.R k35 35 wc w.heap.size (fun k_ => k_ ≠ gb106) u3 x3_1) := ⟨by rw [← hq_]; exact (kR HO_3)⟩; have n1_ : Aside0 (wc.heap[gb106]? = some (.cells #[.int .i32 x107000_4, .int .u8 ((rd_T35 l0 x8_1).f1)] 35 (0, 0))) := ⟨by rw [← hq_]; exact (kB BK106)⟩; have n2_ : Aside0 (Below w.heap.size w wc) := ⟨by rw [← hq_]; exact bG⟩; clear HO_3 BK106 HB hq_; have HO_3 := n0_; have BK106 := n1_; have HB := n2_; clear n0_ n1_ n2_)); (try (have hcz21_0 : wc.cell? ⟨gb106, 0, none⟩ = some (.int .i32 x107000_4) := (blk_cell BK106.out 0).trans rfl; have hcz21_1 : wc.cell? ⟨gb106, 1, none⟩ = some (.int .u8 ((rd_T35 l0 x8_1).f1)) := (blk_cell BK106.out 1).trans rfl; have hfz21_0 := blk_frozen BK106.out 0; have hfz21_1 := blk_frozen BK106.out 1)); obtain ⟨Ao22, co22, eo22⟩ := Kd.R_slice HO_3.out; subst eo22) | (go_at_call 47; (with_reducible refine (runes_Width.calls t107 t111 _ ?side1 A17.out).mono ?_); (case side1 => exact GOK.of_below (GOK.sub HG.out rfl) bG); rintro e w' ⟨rfl, ⟨nd, rfl⟩⟩) | ((with_reducible refine gate_builtin (b := .append) (xs := #[.tmp 33, .tmp 35]) rfl ?_); at_builtin; refine Kd.R_append k35 (w0 := w) w.heap.size rfl (.tmp 33) (.tmp 35) 27 35 (.agg #[(.int .i32 0), (.int .u8 0)]) 8 rfl Tryd.underlying27 info35 rfl (by decide) (by omega) (.slice Ao22 x3_1.length co22) x3_1 (⟨t107, Go.bits .and .u8 ((rd_T35 l0 x8_1).f1) 3⟩ : S35) [.int .i32 t107, .int .u8 (Go.bits .and .u8 ((rd_T35 l0 x8_1).f1) 3)] (fun k_ => k_ ≠ gb106) (fun _ => False) rfl (by first | (go_simp; done) | (go_simp; rfl)) ?aP (fun _ hk => hk.elim) ?aF ?aO ?aB ?aS ?aL ?_; (case aP => exact k35_mkM _ _ _ (⟨t107, Go.bits .and .u8 ((rd_T35 l0 x8_1).f1) 3⟩ : S35)); (case aB => exact bG); (case aF => exact (fun k_ hk => Kd.freshB (g := gb106) (o := .cells #[.int .i32 t107, .int .u8 (Go.bits .and .u8 ((rd_T35 l0 x8_1).f1) 3)] 35 (0, 0)) (by (with_reducible repeat (first | refine blk_drewN ?_ _ | refine blk_drew ?_ | refine blk_alloc ?_ _)); refine blk_put (cs := #[.int .i32 t107, .int .u8 ((rd_T35 l0 x8_1).f1)]) ?_ 1 _ rfl; (with_reducible repeat (first | refine blk_drewN ?_ _ | refine blk_drew ?_ | refine blk_alloc ?_ _)); refine blk_put (cs := #[.int .i32 x107000_4, .int .u8 ((rd_T35 l0 x8_1).f1)]) ?_ 0 _ rfl; (with_reducible repeat (first | refine blk_drewN ?_ _ | refine blk_drew ?_ | refine blk_alloc ?_ _)); exact BK106.out) k_ hk)); (case aO => exact (by (with_reducible repeat (first | apply Kd.R_alloc | apply Kd.R_drewN | apply Kd.R_drew)); exact Kd.R_mono (Kd.R_far (p := ⟨gb106, 1, none⟩) (Kd.R_far (p := ⟨gb106, 0, none⟩) (Kd.R_mono HO_3.out (fun k_ hk => (⟨hk, hk⟩ : _ ∧ k_ ≠ gb106))) (fun _ hk => hk.2) (.int .i32 t107)) (fun _ hk => hk.2) (.int .u8 (Go.bits .and .u8 ((rd_T35 l0 x8_1).f1) 3))) (fun _ hk => hk.1))); (case aS => exact (below_size bG)); (case aL => have := LMc19.out; omega); intro v113 w23 ho hb hg hat; rw [← Ny112.out] at ho; have n0_ := Aside0.mk (blk_grown (g := gb106) (o := .cells #[.int .i32 t107, .int .u8 (Go.bits .and .u8 ((rd_T35 l0 x8_1).f1) 3)] 35 (0, 0)) (by (with_reducible repeat (first | refine blk_drewN ?_ _ | refine blk_drew ?_ | refine blk_alloc ?_ _)); refine blk_put (cs := #[.int .i32 t107, .int .u8 ((rd_T35 l0 x8_1).f1)]) ?_ 1 _ rfl; (with_reducible repeat (first | refine blk_drewN ?_ _ | refine blk_drew ?_ | refine blk_alloc ?_ _)); refine blk_put (cs := #[.int .i32 x107000_4, .int .u8 ((rd_T35 l0 x8_1).f1)]) ?_ 0 _ rfl; (with_reducible repeat (first | refine blk_drewN ?_ _ | refine blk_drew ?_ | refine blk_alloc ?_ _)); exact BK106.out) hg (Kd.R_away HO_3.out (fun _ hk => hk))); have n1_ := Aside0.mk (hb); have n2_ := Aside0.mk (ho); clear BK106; clear HB; clear HO_3; have BK106 := n0_; have HB := n1_; have HO114 := n2_; clear n0_ n1_ n2_; clear ho hb hg hat))
           go_roundg kj4
           case measure => have := HK1.out; have := HJ4.out; omega
           case rel => exact ⟨(y112), (wrap64 (x8_1 + 1)), sA, H', ⟨by have := HK1.out; have := HJ4.out; omega⟩, ⟨by (with_reducible repeat (first | apply Kd.R_alloc | apply Kd.R_drewN | apply Kd.R_drew)); exact Kd.R_mono HO114.out (fun _ hk => trivial)⟩, ⟨bG⟩⟩
          ·rw [if_neg c19] at H
           exact absurd H (by simp)
         ·rw [if_neg c18] at H
          have c18b0 : decide (0 < t111) = false := decide_eq_false c18
          clear c18
          have H' := Aside0.mk H
          clear H
          have hcz24_0 : wc.cell? ⟨gb106, 0, none⟩ = some (.int .i32 x107000_4) := (blk_cell BK106.out 0).trans rfl
          have hcz24_1 : wc.cell? ⟨gb106, 1, none⟩ = some (.int .u8 ((rd_T35 l0 x8_1).f1)) := (blk_cell BK106.out 1).trans rfl
          have hfz24_0 := blk_frozen BK106.out 0
          have hfz24_1 := blk_frozen BK106.out 1
          go_wp2_with (first | ((with_reducible refine gate_callee (f := 34) rfl ?_); refine goesL_ (some 18) rfl rfl Tryd.func34 (by kernel_rfl) rfl #[.int .i32 x107000_4] rfl aP ?_; (with_reducible refine (runes_Safe.calls kj4 x107000_4 t107 _ A10.out).mono ?_); rintro e w' ⟨rfl, ⟨nd, rfl⟩⟩; refine ⟨_, rfl, ?_⟩; (try (rw [drewN_self wc]; generalize hq_ : World.drewN wc _ = wc; have n0_ : Aside0 (Kd.R k35 35 wc w.heap.size (fun k_ => k_ ≠ gb106) u3 x3_1) := ⟨by rw [← hq_]; exact (kR HO_3)⟩; have n1_ : Aside0 (wc.heap[gb106]? = some (.cells #[.int .i32 x107000_4, .int .u8 ((rd_T35 l0 x8_1).f1)] 35 (0, 0))) := ⟨by rw [← hq_]; exact (kB BK106)⟩; have n2_ : Aside0 (Below w.heap.size w wc) := ⟨by rw [← hq_]; exact bG⟩; clear HO_3 BK106 HB hq_; have HO_3 := n0_; have BK106 := n1_; have HB := n2_; clear n0_ n1_ n2_)); (try (have hcz25_0 : wc.cell? ⟨gb106, 0, none⟩ = some (.int .i32 x107000_4) := (blk_cell BK106.out 0).trans rfl; have hcz25_1 : wc.cell? ⟨gb106, 1, none⟩ = some (.int .u8 ((rd_T35 l0 x8_1).f1)) := (blk_cell BK106.out 1).trans rfl; have hfz25_0 := blk_frozen BK106.out 0; have hfz25_1 := blk_frozen BK106.out 1)); obtain ⟨Ao26, co26, eo26⟩ := Kd.R_slice HO_3.out; subst eo26) | (go_at_call 47; (with_reducible refine (runes_Width.calls t107 t111 _ ?side1 A17.out).mono ?_); (case side1 => exact GOK.of_below (GOK.sub HG.out rfl) bG); rintro e w' ⟨rfl, ⟨nd, rfl⟩⟩))
          go_roundg kj4
          case measure => have := HK1.out; have := HJ4.out; omega
          case rel => exact ⟨(x3_1), (wrap64 (x8_1 + 1)), sA, H', ⟨by have := HK1.out; have := HJ4.out; omega⟩, ⟨by (with_reducible repeat (first | apply Kd.R_alloc | apply Kd.R_drewN | apply Kd.R_drew)); exact Kd.R_mono (Kd.R_far (p := ⟨gb106, 1, none⟩) (Kd.R_far (p := ⟨gb106, 0, none⟩) (Kd.R_mono HO_3.out (fun k_ hk => (⟨hk, hk⟩ : _ ∧ k_ ≠ gb106))) (fun _ hk => hk.2) (.int .i32 t107)) (fun _ hk => hk.2) (.int .u8 (Go.bits .and .u8 ((rd_T35 l0 x8_1).f1) 3))) (fun _ hk => trivial)⟩, ⟨bG⟩⟩
     ·rw [if_neg c4] at H
      exact absurd H (by simp)
    ·rw [if_neg c3] at H
     exact absurd H (by simp)
   ·rw [if_neg c2] at H
    have c2b0 : decide (x8_1 < (l0.length : Int)) = false := decide_eq_false c2
    clear c2
    obtain rfl := Option.some.inj H
    go_wp2
    go_ret
    exact ⟨_, eW, kR HO_3, bA⟩

/-! ### runes_size: function 76 -/
def runes_size.f (a0 : Int) : Option (Int) := if a0 < 128 then (some 1) else (if a0 < 2048 then (some 2) else (if a0 < 65536 then (some 3) else (some 4)))
theorem runes_size.calls (a0 : Int) (r : Int) (w : World) (h : runes_size.f a0 = some r) :
  Calls Tryd.prog 76 #[.int .i32 a0] w fun e w' => e = .returned (.int .i64 r) ∧ Drawn0 w w' := by
 have H : (if a0 < 128 then (some 1) else (if a0 < 2048 then (some 2) else (if a0 < 65536 then (some 3) else (some 4)))) = some r := h
 clear h
 by_cases c2 : a0 < 128
 ·rw [if_pos c2] at H
  have c2b0 : decide (a0 < 128) = true := decide_eq_true c2
  clear c2
  obtain rfl := Option.some.inj H
  go_enter Tryd.func76, Tryd.ntmps76
  go_wp2
  go_ret
  exact ⟨sA, by repeat (first | exact Drawn0.refl _ | apply Drawn0.step)⟩
 ·rw [if_neg c2] at H
  have c2b0 : decide (a0 < 128) = false := decide_eq_false c2
  clear c2
  by_cases c3 : a0 < 2048
  ·rw [if_pos c3] at H
   have c3b0 : decide (a0 < 2048) = true := decide_eq_true c3
   clear c3
   obtain rfl := Option.some.inj H
   go_enter Tryd.func76, Tryd.ntmps76
   go_wp2
   go_ret
   exact ⟨sA, by repeat (first | exact Drawn0.refl _ | apply Drawn0.step)⟩
  ·rw [if_neg c3] at H
   have c3b0 : decide (a0 < 2048) = false := decide_eq_false c3
   clear c3
   by_cases c4 : a0 < 65536
   ·rw [if_pos c4] at H
    have c4b0 : decide (a0 < 65536) = true := decide_eq_true c4
    clear c4
    obtain rfl := Option.some.inj H
    go_enter Tryd.func76, Tryd.ntmps76
    go_wp2
    go_ret
    exact ⟨sA, by repeat (first | exact Drawn0.refl _ | apply Drawn0.step)⟩
   ·rw [if_neg c4] at H
    have c4b0 : decide (a0 < 65536) = false := decide_eq_false c4
    clear c4
    obtain rfl := Option.some.inj H
    go_enter Tryd.func76, Tryd.ntmps76
    go_wp2
    go_ret
    exact ⟨sA, by repeat (first | exact Drawn0.refl _ | apply Drawn0.step)⟩

/-! ### runes_one: function 59 -/
mutual
def runes_one.j0 : Nat → Int → Option (List Int)
 | 0, _ => none
 | k + 1, x0 => (runes_size.f x0).bind fun t116 => (if t116 = 1 then (some (([(x0) % 256] : List Int))) else (if 0 ≤ t116 then (if (t116 : Int).toNat ≤ 281474976710656 then (runes_one.l0 k x0 t116 (List.replicate (t116 : Int).toNat 0) (wrap64 (t116 - 1))) else (none)) else (none)))
def runes_one.l0 : Nat → Int → Int → List Int → Int → Option (List Int)
 | 0, _, _, _, _ => none
 | k + 1, x0, x3, x4, x5 => if x5 > 0 then (if 0 ≤ x5 then (if x5 < (x4.length : Int) then (runes_one.l0 k (x0 / 64) x3 (x4.set (x5 : Int).toNat (Go.bits .or .u8 128 ((Go.bits .and .i32 x0 63) % 256))) (wrap64 (x5 - 1))) else (none)) else (none)) else (if 0 ≤ x3 then (if 0 < (x4.length : Int) then (some (x4.set (0 : Int).toNat (Go.bits .or .u8 ((shr .i64 3840 x3) % 256) ((x0) % 256)))) else (none)) else (none))
end
def runes_one.f (k : Nat) (a0 : Int) : Option (List Int) := (runes_Valid.f a0).bind fun t115 => (if t115 = true then (runes_one.j0 k a0) else (runes_one.j0 k 65533))
theorem runes_one.mono_l : ∀ k, (∀ y0, LeO (runes_one.j0 k y0) (runes_one.j0 (k + 1) y0)) ∧ (∀ y0 y1 y2 y3, LeO (runes_one.l0 k y0 y1 y2 y3) (runes_one.l0 (k + 1) y0 y1 y2 y3))
 | 0 => ⟨fun _ r h => by simp [runes_one.j0] at h, fun _ _ _ _ r h => by simp [runes_one.l0] at h⟩
 | k + 1 => by
  obtain ⟨ih0, ih1⟩ := runes_one.mono_l k
  refine ⟨?_, ?_⟩
  ·intro y0
   unfold runes_one.j0
   repeat' first
   | (with_reducible exact ih0 _)
   | (with_reducible exact ih1 _ _ _ _)
   | (with_reducible exact LeO.refl _)
   | (with_reducible exact LeO.none _)
   | (with_reducible refine LeO.ite ?_ ?_)
   | (with_reducible refine LeO.bind ?_ (fun _ => ?_))
  ·intro y0 y1 y2 y3
   unfold runes_one.l0
   repeat' first
   | (with_reducible exact ih0 _)
   | (with_reducible exact ih1 _ _ _ _)
   | (with_reducible exact LeO.refl _)
   | (with_reducible exact LeO.none _)
   | (with_reducible refine LeO.ite ?_ ?_)
   | (with_reducible refine LeO.bind ?_ (fun _ => ?_))
theorem runes_one.mono : ∀ a0 k, LeO (runes_one.f k a0) (runes_one.f (k + 1) a0) := by
 intro a0 k
 obtain ⟨ih0, ih1⟩ := runes_one.mono_l k
 unfold runes_one.f
 repeat' first
   | (with_reducible exact ih0 _)
   | (with_reducible exact ih1 _ _ _ _)
   | (with_reducible exact LeO.refl _)
   | (with_reducible exact LeO.none _)
   | (with_reducible refine LeO.ite ?_ ?_)
   | (with_reducible refine LeO.bind ?_ (fun _ => ?_))
theorem runes_one.calls (k : Nat) (a0 : Int) (r : List Int) (w : World) (h : runes_one.f k a0 = some r) :
  Calls Tryd.prog 59 #[.int .i32 a0] w fun e w' => ∃ v0_ : Value, e = .returned (v0_) ∧ Kd.R (Kd.int .u8) 5 w' w.heap.size (fun _ => True) v0_ r ∧ Below w.heap.size w w' := by
 have HB := Aside0.mk (Below.refl w.heap.size w)
 have H : ((runes_Valid.f a0).bind fun t115 => (if t115 = true then (runes_one.j0 k a0) else (runes_one.j0 k 65533))) = some r := h
 clear h
 replace H := Option.bind_eq_some_iff.mp H
 obtain ⟨t115, A20, H⟩ := H
 replace H : (if t115 = true then (runes_one.j0 k a0) else (runes_one.j0 k 65533)) = some r := H
 have A2 := Aside0.mk A20
 clear A20
 have HC3 := Aside0.mk H
 clear H
 go_enter Tryd.func59, Tryd.ntmps59
 go_upto_if 8 with (first | ((with_reducible refine gate_callee (f := 60) rfl ?_); refine goesL_ (some 7) rfl rfl Tryd.func60 (by kernel_rfl) rfl #[.int .i32 a0] rfl aP ?_; (with_reducible refine (runes_Valid.calls a0 t115 _ A2.out).mono ?_); rintro e w' ⟨rfl, ⟨nd, rfl⟩⟩; refine ⟨_, rfl, ?_⟩))
 (try simp only [Act.put, List.setIfInBounds_toArray, List.set_cons_zero, List.set_cons_succ])
 go_cut [0] (fun v0 wc => ∃ (kq : Nat) (x0_2 : Int), v0 = .int .i32 x0_2 ∧ Aside0 (runes_one.j0 kq x0_2 = some r) ∧ Aside0 (kq ≤ k) ∧ Aside0 (Below w.heap.size w wc))
 case first =>
  have H := HC3.out
  clear HC3
  by_cases c4 : t115 = true
  ·subst c4
   have H1 : (runes_one.j0 k a0) = some r := by rw [if_pos rfl] at H; exact H
   clear H
   have H := H1
   clear H1
   have H' := Aside0.mk H
   clear H
   go_wp2
   go_meet
   case rel => exact ⟨_, (a0), sA, H', ⟨by first | omega | exact Nat.le_refl _⟩, ⟨bA⟩⟩
  ·replace c4 := Bool.eq_false_iff.mpr c4
   subst c4
   have H1 : (runes_one.j0 k 65533) = some r := by rw [if_neg (show ¬ (false = true) by decide)] at H; exact H
   clear H
   have H := H1
   clear H1
   have H' := Aside0.mk H
   clear H
   go_wp2
   go_meet
   case rel => exact ⟨_, (65533), sA, H', ⟨by first | omega | exact Nat.le_refl _⟩, ⟨bA⟩⟩
 case rest =>
  clear HC3
  try clear p2
  try clear c4
  obtain ⟨kq, x0_2, rfl, HA, HJ2, HB⟩ := hcut
  cases kq with
  | zero => exact absurd HA.out (by simp [runes_one.j0])
  | succ kj2 =>
   have H := HA.out
   clear HA
   simp only [runes_one.j0] at H
   replace H := Option.bind_eq_some_iff.mp H
   obtain ⟨t116, A50, H⟩ := H
   replace H : (if t116 = 1 then (some (([(x0_2) % 256] : List Int))) else (if 0 ≤ t116 then (if (t116 : Int).toNat ≤ 281474976710656 then (runes_one.l0 kj2 x0_2 t116 (List.replicate (t116 : Int).toNat 0) (wrap64 (t116 - 1))) else (none)) else (none))) = some r := H
   have A5 := Aside0.mk A50
   clear A50
   by_cases c6 : t116 = 1
   ·rw [if_pos c6] at H
    have c6b0 : (t116 == 1) = true := beq_iff_eq.mpr c6
    have c6b1 : (t116 != 1) = false := bne_eq_false_iff_eq.mpr c6
    clear c6
    obtain ⟨y117, hy117⟩ : ∃ y_ : List Int, y_ = (([(x0_2) % 256] : List Int)) := ⟨_, rfl⟩
    replace H : (some y117) = some r := hyA hy117 H
    have Ny117 := Aside0.mk hy117
    clear hy117
    obtain rfl := Option.some.inj H
    go_wp2_with (first | ((with_reducible refine gate_callee (f := 76) rfl ?_); refine goesL_ (some 10) rfl rfl Tryd.func76 (by kernel_rfl) rfl #[.int .i32 x0_2] rfl aP ?_; (with_reducible refine (runes_size.calls x0_2 t116 _ A5.out).mono ?_); rintro e w' ⟨rfl, ⟨nd, rfl⟩⟩; refine ⟨_, rfl, ?_⟩) | ((with_reducible refine gate_dst (N := 15) rfl ?_); refine Kd.R_lit (Kd.int .u8) _ 5 ?hg (N := 15) ?hd (xs := ([(x0_2) % 256] : List Int)) (inner := [.int .u8 ((x0_2) % 256)]) (ok := fun _ => True) (okp := fun _ => True) ?hr ?hp (fun _ hk => hk) trivial (Below.refl _ _) (Nat.le_refl _) (by simp) ?_; (case hd => rfl); (case hg => rfl); (case hr => first | (go_simp; done) | (go_simp; rfl)); (case hp => exact (Reps.one (show Kd.M (Kd.int .u8) _ _ _ ((x0_2) % 256) [.int .u8 ((x0_2) % 256)] from rfl) (Reps.none _ _))); intro v118 w7 ho8 hb hg_ hnew_; clear hg_ hnew_; (first | rw [← Ny117.out] at ho8 | (simp only [Int.reduceToNat] at ho8; rw [← Ny117.out] at ho8)); have HO119 := Aside0.mk (Kd.R_lower ho8 (below_size bA)); replace HB := Aside0.mk (below_step bA hb); clear hb ho8))
    go_ret
    exact ⟨_, eW, kR HO119, bA⟩
   ·rw [if_neg c6] at H
    have c6b0 : (t116 == 1) = false := beq_eq_false_iff_ne.mpr c6
    have c6b1 : (t116 != 1) = true := bne_iff_ne.mpr c6
    by_cases c9 : 0 ≤ t116
    ·rw [if_pos c9] at H
     have c9b0 := eq_true c9
     have c9b1 : decide (0 ≤ t116) = true := decide_eq_true c9
     clear c9
     by_cases c10 : (t116 : Int).toNat ≤ 281474976710656
     ·rw [if_pos c10] at H
      have c10b0 := eq_true c10
      have c10b1 : decide ((t116 : Int).toNat ≤ 281474976710656) = true := decide_eq_true c10
      clear c10
      obtain ⟨y120, hy120⟩ : ∃ y_ : List Int, y_ = (List.replicate (t116 : Int).toNat 0) := ⟨_, rfl⟩
      replace H : (runes_one.l0 kj2 x0_2 t116 y120 (wrap64 (t116 - 1))) = some r := hyA hy120 H
      have Ny120 := Aside0.mk hy120
      clear hy120
      have H' := Aside0.mk H
      clear H
      go_wp2_with (first | ((with_reducible refine gate_callee (f := 76) rfl ?_); refine goesL_ (some 10) rfl rfl Tryd.func76 (by kernel_rfl) rfl #[.int .i32 x0_2] rfl aP ?_; (with_reducible refine (runes_size.calls x0_2 t116 _ A5.out).mono ?_); rintro e w' ⟨rfl, ⟨nd, rfl⟩⟩; refine ⟨_, rfl, ?_⟩) | ((with_reducible refine gate_dst (N := 17) rfl ?_); refine Kd.R_make (Kd.int .u8) _ 5 rfl (N := 17) rfl 25 _ _ rfl t116 rfl rfl Tryd.underlying25 (.int .u8 0) 1 info5 rfl (by decide) (by omega) 0 (ok := fun _ => True) (okp := fun _ => True) rfl (fun _ hk => hk) trivial (of_decide_eq_true asA) (Nat.le_trans (Nat.mul_le_mul_right _ (of_decide_eq_true asA : t116.toNat ≤ 281474976710656)) (by omega)) (Below.refl _ _) (Nat.le_refl _) ?_; intro v121 w11 ho12 hb hg_ hnew_; clear hg_ hnew_; (first | rw [← Ny120.out] at ho12 | (simp only [Int.reduceToNat] at ho12; rw [← Ny120.out] at ho12)); have HO122 := Aside0.mk (Kd.R_lower ho12 (below_size bA)); replace HB := Aside0.mk (below_step bA hb); clear hb ho12))
      go_loopg [0, 5] kj2 (fun kq v0 v5 w' => ∃ (x0_2 : Int) (x4_2 : List Int) (x5_2 : Int), v0 = .int .i32 x0_2 ∧ v5 = .int .i64 x5_2 ∧ Aside0 (runes_one.l0 kq x0_2 t116 x4_2 x5_2 = some r) ∧ Aside0 (kq ≤ kj2) ∧ Aside0 (Kd.R (Kd.int .u8) 5 w' w.heap.size (fun _ => True) v121 x4_2) ∧ Aside0 (Below w.heap.size w w'))
      case atStart => exact ⟨(x0_2), (y120), (wrap64 (t116 - 1)), sA, sA, H', ⟨Nat.le_refl _⟩, ⟨kR HO122⟩, ⟨bA⟩⟩
      case round =>
       clear H'
       try clear c1
       try clear p2
       try clear c4
       try clear c5
       try clear c6
       try clear c6b0
       try clear c6b1
       try clear p6
       try clear c7
       try clear c9
       try clear c9b0
       try clear c9b1
       try clear c10
       try clear c10b0
       try clear c10b1
       try clear p2
       obtain ⟨x0_2, x4_2, x5_2, rfl, rfl, HA, HK2, HO_4, HB⟩ := hrel
       cases gk with
       | zero => exact absurd HA.out (by simp [runes_one.l0])
       | succ k2 =>
        have H := HA.out
        clear HA
        simp only [runes_one.l0] at H
        by_cases c13 : x5_2 > 0
        ·rw [if_pos c13] at H
         have c13b0 : decide (0 < x5_2) = true := decide_eq_true c13
         clear c13
         by_cases c14 : 0 ≤ x5_2
         ·rw [if_pos c14] at H
          have c14b0 : decide (0 ≤ x5_2) = true := decide_eq_true c14
          clear c14
          by_cases c15 : x5_2 < (x4_2.length : Int)
          ·rw [if_pos c15] at H
           have c15b0 : decide (x5_2 < (x4_2.length : Int)) = true := decide_eq_true c15
           clear c15
           obtain ⟨y123, hy123⟩ : ∃ y_ : List Int, y_ = (x4_2.set (x5_2 : Int).toNat (Go.bits .or .u8 128 ((Go.bits .and .i32 x0_2 63) % 256))) := ⟨_, rfl⟩
           replace H : (runes_one.l0 k2 (x0_2 / 64) t116 y123 (wrap64 (x5_2 - 1))) = some r := hyA hy123 H
           have Ny123 := Aside0.mk hy123
           clear hy123
           have H' := Aside0.mk H
           clear H
           have p16 : 0 ≤ (x5_2 : Int) := of_decide_eq_true asA
           have q16 : (x5_2 : Int) < ((x4_2.length : Int) : Int) := of_decide_eq_true asA
           obtain ⟨go16, co16, eo16, gb16, gl16, cl16, HG16⟩ := Kd.R_form HO_4.out (by omega)
           (first | cases eo16 | (injection eo16 with ea_ en_ ec_; (first | subst ea_ | (injection ea_ with ea_; subst ea_)); subst ec_; clear en_))
           have GB16 := Aside0.mk gb16
           have GG16 := Aside0.mk HG16
           clear gb16 gl16 HG16
           obtain ⟨hx16_0, hf16_0⟩ := Kd.R_celln 0 HO_4.out (x5_2 : Int) p16 q16
           replace p16 := eq_true p16
           replace q16 := eq_true q16
           have HP17 := Kd.R_putg HO_4.out (x5_2 : Int) (Go.bits .or .u8 128 ((Go.bits .and .i32 x0_2 63) % 256))
           go_wp2_with (first | ((with_reducible refine gate_store (t := 5) (p := 30) rfl ?_); refine store_event (t := 5) (p := 30) (v := ?vo_w18) (w1 := (wr.setCell ⟨go16, (x5_2 : Int).toNat, none⟩ (.int .u8 (Go.bits .or .u8 128 ((Go.bits .and .i32 x0_2 63) % 256))))) ?hg ?ho ?hn ?hr ?_; (case ho => rfl); (case hg => rfl); (case hn => rfl); (case hr => first | (go_simp; done) | (go_simp; rfl)); intro w18 hw; have hg : wr.grownBy w18 (some go16) := (by rw [hw]; exact HP17.2); have hp_ : Kd.R (Kd.int .u8) 5 w18 w.heap.size (fun _ => True) (.slice (some ⟨go16, 0, none⟩) x4_2.length co16) y123 := (by rw [hw, Ny123.out]; exact HP17.1); clear HP17; have n0_ := Aside0.mk (hp_); have n1_ := Aside0.mk ((by rw [hw]; exact below_set (HB.out) GB16.out : Below w.heap.size w w18)); clear HO_4; clear HB; have HO_4 := n0_; have HB := n1_; clear n0_ n1_; clear hg hw hp_))
           go_roundg k2
           case measure => have := HJ2.out; have := HK2.out; omega
           case rel => exact ⟨(x0_2 / 64), (y123), (wrap64 (x5_2 - 1)), sA, sA, H', ⟨by have := HJ2.out; have := HK2.out; omega⟩, ⟨kR HO_4⟩, ⟨bA⟩⟩
          ·rw [if_neg c15] at H
           exact absurd H (by simp)
         ·rw [if_neg c14] at H
          exact absurd H (by simp)
        ·rw [if_neg c13] at H
         have c13b0 : decide (0 < x5_2) = false := decide_eq_false c13
         clear c13
         by_cases c19 : 0 ≤ t116
         ·rw [if_pos c19] at H
          have c19b0 := eq_true c19
          have c19b1 : decide (0 ≤ t116) = true := decide_eq_true c19
          clear c19
          obtain ⟨ji20, hji20⟩ : ∃ j_ : Int, (shr .i64 3840 t116) = j_ := ⟨_, rfl⟩
          replace H : (if 0 < (x4_2.length : Int) then (some (x4_2.set (0 : Int).toNat (Go.bits .or .u8 ((ji20) % 256) ((x0_2) % 256)))) else (none)) = some r := by first | (rw [hji20] at H; exact H) | (simp only [hji20] at H ⊢; exact H)
          have hji20_ : (3840 / 2 ^ min t116.toNat 64) = ji20 := hji20
          have hji20z : t116 ≤ 64 → (3840 / 2 ^ t116.toNat) = ji20 := shr_small hji20
          by_cases c21 : 0 < (x4_2.length : Int)
          ·rw [if_pos c21] at H
           have c21b0 : decide (0 < (x4_2.length : Int)) = true := decide_eq_true c21
           have c21b1 : decide (0 < x4_2.length) = true := decide_eq_true (by omega)
           clear c21
           obtain ⟨y124, hy124⟩ : ∃ y_ : List Int, y_ = (x4_2.set (0 : Int).toNat (Go.bits .or .u8 ((ji20) % 256) ((x0_2) % 256))) := ⟨_, rfl⟩
           replace H : (some y124) = some r := hyA hy124 H
           have Ny124 := Aside0.mk hy124
           clear hy124
           obtain rfl := Option.some.inj H
           have p22 : 0 ≤ (0 : Int) := (by omega)
           have q22 : (0 : Int) < ((x4_2.length : Int) : Int) := of_decide_eq_true asA
           have qi22 : (0 < x4_2.length) = True := eq_true (by omega)
           obtain ⟨go22, co22, eo22, gb22, gl22, cl22, HG22⟩ := Kd.R_form HO_4.out (by omega)
           (first | cases eo22 | (injection eo22 with ea_ en_ ec_; (first | subst ea_ | (injection ea_ with ea_; subst ea_)); subst ec_; clear en_))
           have GB22 := Aside0.mk gb22
           have GG22 := Aside0.mk HG22
           clear gb22 gl22 HG22
           obtain ⟨hx22_0, hf22_0⟩ := Kd.R_celln 0 HO_4.out (0 : Int) p22 q22
           (try rw [show ((0 : Int)).toNat = 0 from rfl] at hx22_0)
           (try simp only [Nat.reduceMul, Nat.zero_mul, Nat.zero_add, Nat.reduceAdd] at hx22_0)
           (try rw [show ((0 : Int)).toNat = 0 from rfl] at hf22_0)
           (try simp only [Nat.reduceMul, Nat.zero_mul, Nat.zero_add, Nat.reduceAdd] at hf22_0)
           replace p22 := eq_true p22
           replace q22 := eq_true q22
           have HP23 := Kd.R_putg HO_4.out (0 : Int) (Go.bits .or .u8 ((ji20) % 256) ((x0_2) % 256))
           go_wp2_with (first | ((with_reducible refine gate_store (t := 5) (p := 40) rfl ?_); refine store_event (t := 5) (p := 40) (v := ?vo_w24) (w1 := (wr.setCell ⟨go22, (0 : Int).toNat, none⟩ (.int .u8 (Go.bits .or .u8 ((ji20) % 256) ((x0_2) % 256))))) ?hg ?ho ?hn ?hr ?_; (case ho => rfl); (case hg => rfl); (case hn => rfl); (case hr => first | (go_simp; done) | (go_simp; rfl)); intro w24 hw; have hg : wr.grownBy w24 (some go22) := (by rw [hw]; exact HP23.2); have hp_ : Kd.R (Kd.int .u8) 5 w24 w.heap.size (fun _ => True) (.slice (some ⟨go22, 0, none⟩) x4_2.length co22) y124 := (by rw [hw, Ny124.out]; exact HP23.1); clear HP23; have n0_ := Aside0.mk (hp_); have n1_ := Aside0.mk ((by rw [hw]; exact below_set (HB.out) GB22.out : Below w.heap.size w w24)); clear HO_4; clear HB; have HO_4 := n0_; have HB := n1_; clear n0_ n1_; clear hg hw hp_))
           go_ret
           exact ⟨_, by first | rfl | (simp [errW_none, errW_some] <;> rfl) | (simp only [← hji20]; first | rfl | (simp [errW_none, errW_some] <;> rfl)) | (simp [*, errW_none, errW_some] <;> rfl), kR HO_4, bA⟩
          ·rw [if_neg c21] at H
           exact absurd H (by simp)
         ·rw [if_neg c19] at H
          exact absurd H (by simp)
     ·rw [if_neg c10] at H
      exact absurd H (by simp)
    ·rw [if_neg c9] at H
     exact absurd H (by simp)

/-! ### runes_Encode: function 33 -/
def runes_Encode.l0 : Nat → List Int → List Int → Int → Int → Option (List Int)
 | 0, _, _, _, _ => none
 | k + 1, x3, x6, x7, x8 => if x8 < x7 then (if 0 ≤ x8 then (if x8 < (x6.length : Int) then ((runes_one.f k (rd x6 x8)).bind fun t126 => (if x3.length + t126.length < 140737488355328 then (runes_Encode.l0 k (x3 ++ t126) x6 x7 (wrap64 (x8 + 1))) else (none))) else (none)) else (none)) else (some x3)
def runes_Encode.f (k : Nat) (l0 : List Int) : Option (List Int) := runes_Encode.l0 k ([] : List Int) l0 (l0.length : Int) 0
theorem runes_Encode.mono_l : ∀ k, (∀ y0 y1 y2 y3, LeO (runes_Encode.l0 k y0 y1 y2 y3) (runes_Encode.l0 (k + 1) y0 y1 y2 y3))
 | 0 => fun _ _ _ _ r h => by simp [runes_Encode.l0] at h
 | k + 1 => by
  have ih0 := runes_Encode.mono_l k
  ·intro y0 y1 y2 y3
   unfold runes_Encode.l0
   repeat' first
   | (with_reducible exact ih0 _ _ _ _)
   | (with_reducible exact runes_one.mono _ _)
   | (with_reducible exact LeO.refl _)
   | (with_reducible exact LeO.none _)
   | (with_reducible refine LeO.ite ?_ ?_)
   | (with_reducible refine LeO.bind ?_ (fun _ => ?_))
theorem runes_Encode.mono : ∀ a0 k, LeO (runes_Encode.f k a0) (runes_Encode.f (k + 1) a0) := by
 intro a0 k
 have ih0 := runes_Encode.mono_l k
 unfold runes_Encode.f
 repeat' first
   | (with_reducible exact ih0 _ _ _ _)
   | (with_reducible exact runes_one.mono _ _)
   | (with_reducible exact LeO.refl _)
   | (with_reducible exact LeO.none _)
   | (with_reducible refine LeO.ite ?_ ?_)
   | (with_reducible refine LeO.bind ?_ (fun _ => ?_))
theorem runes_Encode.calls (k : Nat) (A0 : Option Addr) (c0 : Nat) (l0 : List Int) (r : List Int) (w : World) (hr0 : Kd.C (Kd.int .i32) w A0 l0.length l0) (hc0 : l0.length ≤ c0) (h : runes_Encode.f k l0 = some r) :
  Calls Tryd.prog 33 #[.slice A0 l0.length c0] w fun e w' => ∃ v0_ : Value, e = .returned (v0_) ∧ Kd.R (Kd.int .u8) 5 w' w.heap.size (fun _ => True) v0_ r ∧ Below w.heap.size w w' := by
 have HR0 := Aside0.mk hr0
 have HC0 := Aside0.mk hc0
 clear hr0 hc0
 have HB := Aside0.mk (Below.refl w.heap.size w)
 have H : (runes_Encode.l0 k ([] : List Int) l0 (l0.length : Int) 0) = some r := h
 clear h
 have H' := Aside0.mk H
 clear H
 go_enter Tryd.func33, Tryd.ntmps33
 go_wp2
 go_loopg [3, 8] k (fun kq v3 v8 w' => ∃ (x3_1 : List Int) (x8_1 : Int), v8 = .int .i64 x8_1 ∧ Aside0 (runes_Encode.l0 kq x3_1 l0 (l0.length : Int) x8_1 = some r) ∧ Aside0 (kq ≤ k) ∧ Aside0 (Kd.R (Kd.int .u8) 5 w' w.heap.size (fun _ => True) v3 x3_1) ∧ Aside0 (Below w.heap.size w w'))
 case atStart => exact ⟨(([] : List Int)), (0), sA, H', ⟨Nat.le_refl _⟩, ⟨by first | exact Kd.R_nil _ _ _ _ _ | exact Kd.N_nil _ _ _ _ _ | exact Kd.V_nil _ _ _ _ _ | exact Kd.Q_nil _ _ _ _ _ | exact Kd.S_nil _ _ _ _ _⟩, ⟨bA⟩⟩
 case round =>
  clear H'
  obtain ⟨x3_1, x8_1, rfl, HA, HK1, HO_3, HB⟩ := hrel
  cases gk with
  | zero => exact absurd HA.out (by simp [runes_Encode.l0])
  | succ k1 =>
   have H := HA.out
   clear HA
   simp only [runes_Encode.l0] at H
   by_cases c2 : x8_1 < (l0.length : Int)
   ·rw [if_pos c2] at H
    have c2b0 : decide (x8_1 < (l0.length : Int)) = true := decide_eq_true c2
    clear c2
    by_cases c3 : 0 ≤ x8_1
    ·rw [if_pos c3] at H
     have c3b0 : decide (0 ≤ x8_1) = true := decide_eq_true c3
     clear c3
     by_cases c4 : x8_1 < (l0.length : Int)
     ·rw [if_pos c4] at H
      have c4b0 : decide (x8_1 < (l0.length : Int)) = true := decide_eq_true c4
      clear c4
      replace H := Option.bind_eq_some_iff.mp H
      obtain ⟨t126, A50, H⟩ := H
      replace H : (if x3_1.length + t126.length < 140737488355328 then (runes_Encode.l0 k1 (x3_1 ++ t126) l0 (l0.length : Int) (wrap64 (x8_1 + 1))) else (none)) = some r := H
      have A5 := Aside0.mk A50
      clear A50
      by_cases c6 : x3_1.length + t126.length < 140737488355328
      ·rw [if_pos c6] at H
       have LMc6 := Aside0.mk c6
       clear c6
       obtain ⟨y129, hy129⟩ : ∃ y_ : List Int, y_ = (x3_1 ++ t126) := ⟨_, rfl⟩
       replace H : (runes_Encode.l0 k1 y129 l0 (l0.length : Int) (wrap64 (x8_1 + 1))) = some r := hyA hy129 H
       have Ny129 := Aside0.mk hy129
       clear hy129
       have H' := Aside0.mk H
       clear H
       have p125 : 0 ≤ (x8_1 : Int) := of_decide_eq_true asA
       have q125 : x8_1 < (l0.length : Int) := of_decide_eq_true asA
       obtain ⟨ad125, e125, hx125_0⟩ := Kd.at_int HR0.out x8_1 p125 q125
       cases e125
       replace hx125_0 := (HB.out.cell (World.block_lt_of_cell? w _ hx125_0)).trans hx125_0
       replace p125 := eq_true p125
       replace q125 := eq_true q125
       go_wp2_with (first | ((with_reducible refine gate_callee (f := 59) rfl ?_); refine goesL_ (some 14) rfl rfl Tryd.func59 (by kernel_rfl) rfl #[.int .i32 (rd l0 x8_1)] rfl aP ?_; (with_reducible refine (runes_one.calls k1 (rd l0 x8_1) t126 _ A5.out).mono ?_); rintro e w7 ⟨v127, rfl, ho0, hb⟩; refine ⟨_, rfl, ?_⟩; have n0_ := Aside0.mk (Kd.R_elder' (kR HO_3) (Kd.R_base ho0) hb); have n1_ := Aside0.mk (Kd.R_lower (Kd.R_new' ho0 (Kd.R_lt (kR HO_3))) (below_size bA)); have n2_ := Aside0.mk (below_step bA hb); clear HO_3; clear HB; have HO_3 := n0_; have HO128 := n1_; have HB := n2_; clear n0_ n1_ n2_; (try clear hb); (try clear hb2); (try clear hk); (try clear hi); (try clear ho0); obtain ⟨Ao9, co9, eo9⟩ := Kd.R_slice HO128.out; subst eo9) | ((with_reducible refine gate_builtin (b := .append) (xs := #[.tmp 12, .tmp 14]) rfl ?_); at_builtin; refine Kd.R_append_rows (Kd.int .u8) (w0 := w) w.heap.size rfl (.tmp 12) (.tmp 14) 25 5 (.int .u8 0) 1 rfl Tryd.underlying25 info5 rfl (by decide) (by omega) u3 x3_1 t126 _ _ _ (fun k_ => some k_ ≠ (.slice Ao9 t126.length co9 : Value).ownBlock) (fun _ => False) rfl rfl ?aO ?aR (fun _ _ h => h) (fun _ h => h.elim) ?aF ?aB ?aS ?aL ?_; (case aR => repeat (first | exact (Kd.R_reads' HO128.out).2.2 | (with_reducible refine Kd.C_alloc ?_ _) | (with_reducible refine Kd.C_drewN ?_ _) | (with_reducible refine Kd.C_drew ?_))); (case aB => exact bA); (case aF => exact (fun k_ hk => Kd.fresh' (Kd.R_lt (kR HO128)) k_ hk)); (case aO => exact (by (with_reducible repeat (first | apply Kd.R_alloc | apply Kd.R_drewN | apply Kd.R_drew)); exact Kd.R_mono HO_3.out (fun _ hk => hk.2))); (case aS => exact (below_size bA)); (case aL => have := LMc6.out; omega); intro v130 w8 ho hb hg hat; rw [← Ny129.out] at ho; have n0_ := Aside0.mk (Kd.R_after (ok := (fun _ => True)) (kR HO128) hg hat); have n1_ := Aside0.mk (hb); have n2_ := Aside0.mk (ho); clear HO128; clear HB; clear HO_3; have HO128 := n0_; have HB := n1_; have HO131 := n2_; clear n0_ n1_ n2_; clear ho hb hg hat))
       go_roundg k1
       case measure => have := HK1.out; omega
       case rel => exact ⟨(y129), (wrap64 (x8_1 + 1)), sA, H', ⟨by have := HK1.out; omega⟩, ⟨by (with_reducible repeat (first | apply Kd.R_alloc | apply Kd.R_drewN | apply Kd.R_drew)); exact Kd.R_mono HO131.out (fun _ hk => trivial)⟩, ⟨bA⟩⟩
      ·rw [if_neg c6] at H
       exact absurd H (by simp)
     ·rw [if_neg c4] at H
      exact absurd H (by simp)
    ·rw [if_neg c3] at H
     exact absurd H (by simp)
   ·rw [if_neg c2] at H
    have c2b0 : decide (x8_1 < (l0.length : Int)) = false := decide_eq_false c2
    clear c2
    obtain rfl := Option.some.inj H
    go_wp2
    go_ret
    exact ⟨_, eW, kR HO_3, bA⟩

/-! ### cells_Text: function 35 -/
def cells_Text.l0 : Nat → List Int → List (S35) → Int → Int → Option (ByteArray)
 | 0, _, _, _, _ => none
 | k + 1, x3, x6, x7, x8 => if x8 < x7 then (if 0 ≤ x8 then (if x8 < (x6.length : Int) then (if x3.length < 35184372088832 then (cells_Text.l0 k (x3 ++ [(rd_T35 x6 x8).f0]) x6 x7 (wrap64 (x8 + 1))) else (none)) else (none)) else (none)) else ((runes_Encode.f k x3).bind fun t137 => (some (strOfNums t137)))
def cells_Text.f (k : Nat) (l0 : List (S35)) : Option (ByteArray) := cells_Text.l0 k ([] : List Int) l0 (l0.length : Int) 0
theorem cells_Text.mono_l : ∀ k, (∀ y0 y1 y2 y3, LeO (cells_Text.l0 k y0 y1 y2 y3) (cells_Text.l0 (k + 1) y0 y1 y2 y3))
 | 0 => fun _ _ _ _ r h => by simp [cells_Text.l0] at h
 | k + 1 => by
  have ih0 := cells_Text.mono_l k
  ·intro y0 y1 y2 y3
   unfold cells_Text.l0
   repeat' first
   | (with_reducible exact ih0 _ _ _ _)
   | (with_reducible exact runes_Encode.mono _ _)
   | (with_reducible exact LeO.refl _)
   | (with_reducible exact LeO.none _)
   | (with_reducible refine LeO.ite ?_ ?_)
   | (with_reducible refine LeO.bind ?_ (fun _ => ?_))
theorem cells_Text.mono : ∀ a0 k, LeO (cells_Text.f k a0) (cells_Text.f (k + 1) a0) := by
 intro a0 k
 have ih0 := cells_Text.mono_l k
 unfold cells_Text.f
 repeat' first
   | (with_reducible exact ih0 _ _ _ _)
   | (with_reducible exact runes_Encode.mono _ _)
   | (with_reducible exact LeO.refl _)
   | (with_reducible exact LeO.none _)
   | (with_reducible refine LeO.ite ?_ ?_)
   | (with_reducible refine LeO.bind ?_ (fun _ => ?_))
theorem cells_Text.calls (k : Nat) (A0 : Option Addr) (c0 : Nat) (l0 : List (S35)) (r : ByteArray) (w : World) (hr0 : Kd.C k35 w A0 l0.length l0) (hc0 : l0.length ≤ c0) (h : cells_Text.f k l0 = some r) :
  Calls Tryd.prog 35 #[.slice A0 l0.length c0] w fun e w' => e = .returned (.string r) ∧ Below w.heap.size w w' := by
 have hu35 := Tryd.underlying35
 have HR0 := Aside0.mk hr0
 have HC0 := Aside0.mk hc0
 clear hr0 hc0
 have HB := Aside0.mk (Below.refl w.heap.size w)
 have H : (cells_Text.l0 k ([] : List Int) l0 (l0.length : Int) 0) = some r := h
 clear h
 have H' := Aside0.mk H
 clear H
 go_enter Tryd.func35, Tryd.ntmps35
 go_wp2
 go_loopg [3, 8] k (fun kq v3 v8 w' => ∃ (x3_1 : List Int) (x8_1 : Int), v8 = .int .i64 x8_1 ∧ Aside0 (cells_Text.l0 kq x3_1 l0 (l0.length : Int) x8_1 = some r) ∧ Aside0 (kq ≤ k) ∧ Aside0 (Kd.R (Kd.int .i32) 21 w' w.heap.size (fun _ => True) v3 x3_1) ∧ Aside0 (Below w.heap.size w w'))
 case atStart => exact ⟨(([] : List Int)), (0), sA, H', ⟨Nat.le_refl _⟩, ⟨by first | exact Kd.R_nil _ _ _ _ _ | exact Kd.N_nil _ _ _ _ _ | exact Kd.V_nil _ _ _ _ _ | exact Kd.Q_nil _ _ _ _ _ | exact Kd.S_nil _ _ _ _ _⟩, ⟨bA⟩⟩
 case round =>
  clear H'
  obtain ⟨x3_1, x8_1, rfl, HA, HK1, HO_3, HB⟩ := hrel
  cases gk with
  | zero => exact absurd HA.out (by simp [cells_Text.l0])
  | succ k1 =>
   have H := HA.out
   clear HA
   simp only [cells_Text.l0] at H
   by_cases c2 : x8_1 < (l0.length : Int)
   ·rw [if_pos c2] at H
    have c2b0 : decide (x8_1 < (l0.length : Int)) = true := decide_eq_true c2
    clear c2
    by_cases c3 : 0 ≤ x8_1
    ·rw [if_pos c3] at H
     have c3b0 : decide (0 ≤ x8_1) = true := decide_eq_true c3
     clear c3
     by_cases c4 : x8_1 < (l0.length : Int)
     ·rw [if_pos c4] at H
      have c4b0 : decide (x8_1 < (l0.length : Int)) = true := decide_eq_true c4
      clear c4
      by_cases c5 : x3_1.length < 35184372088832
      ·rw [if_pos c5] at H
       have LMc5 := Aside0.mk c5
       clear c5
       obtain ⟨y134, hy134⟩ : ∃ y_ : List Int, y_ = (x3_1 ++ [(rd_T35 l0 x8_1).f0]) := ⟨_, rfl⟩
       replace H : (cells_Text.l0 k1 y134 l0 (l0.length : Int) (wrap64 (x8_1 + 1))) = some r := hyA hy134 H
       have Ny134 := Aside0.mk hy134
       clear hy134
       have H' := Aside0.mk H
       clear H
       have p132 : 0 ≤ (x8_1 : Int) := of_decide_eq_true asA
       have q132 : x8_1 < (l0.length : Int) := of_decide_eq_true asA
       obtain ⟨ad132, e132, hx132_0, hx132_1⟩ := at_T35 HR0.out x8_1 p132 q132
       cases e132
       replace hx132_0 := (HB.out.cell (World.block_lt_of_cell? w _ hx132_0)).trans hx132_0
       replace hx132_1 := (HB.out.cell (World.block_lt_of_cell? w _ hx132_1)).trans hx132_1
       replace p132 := eq_true p132
       replace q132 := eq_true q132
       go_wp2_with (first | ((with_reducible refine gate_dst (N := 5) rfl ?_); refine box_event ?hg (N := 5) ?hd (cs := #[.int .i32 0, .int .u8 0]) (t := 35) ?hr ?_; (case hd => rfl); (case hg => rfl); (case hr => first | (go_simp; done) | (go_simp; rfl)); intro gb133 hg w6 hbox hb; replace HO_3 := Aside0.mk (Kd.R_below (kR HO_3) hb); have BK133 := Aside0.mk (hbox); have GW133 := Aside0.mk ((geA hg : w.heap.size ≤ gb133)); have GE133 := Aside0.mk ((geA hg : w.heap.size ≤ gb133)); replace HB := Aside0.mk (below_step bA hb); clear hb hbox hg; have hcz7_0 : w6.cell? ⟨gb133, 0, none⟩ = some (.int .i32 0) := (blk_cell BK133.out 0).trans rfl; have hcz7_1 : w6.cell? ⟨gb133, 1, none⟩ = some (.int .u8 0) := (blk_cell BK133.out 1).trans rfl; have hfz7_0 := blk_frozen BK133.out 0; have hfz7_1 := blk_frozen BK133.out 1) | ((with_reducible refine gate_builtin (b := .append) (xs := #[.tmp 12, .tmp 15]) rfl ?_); at_builtin; refine Kd.R_append (Kd.int .i32) (w0 := w) w.heap.size rfl (.tmp 12) (.tmp 15) 77 21 (.int .i32 0) 4 rfl Tryd.underlying77 info21 rfl (by decide) (by omega) u3 x3_1 ((rd_T35 l0 x8_1).f0) [.int .i32 ((rd_T35 l0 x8_1).f0)] (fun _ => True) (fun _ => False) rfl (by first | (go_simp; done) | (go_simp; rfl)) ?aP (fun _ hk => hk.elim) ?aF ?aO ?aB ?aS ?aL ?_; (case aP => exact rfl); (case aB => exact bG); (case aF => exact (fun _ _ => trivial)); (case aO => exact (by (with_reducible repeat (first | apply Kd.R_alloc | apply Kd.R_drewN | apply Kd.R_drew)); exact Kd.R_mono (Kd.R_far (p := ⟨gb133, 1, none⟩) (Kd.R_far (p := ⟨gb133, 0, none⟩) (Kd.R_types HO_3.out BK133.out (by decide)) (fun _ hk => hk.2) (.int .i32 ((rd_T35 l0 x8_1).f0))) (fun _ hk => hk.2) (.int .u8 ((rd_T35 l0 x8_1).f1))) (fun _ hk => trivial))); (case aS => exact (below_size bG)); (case aL => have := LMc5.out; omega); intro v135 w8 ho hb hg hat; rw [← Ny134.out] at ho; have n0_ := Aside0.mk (blk_grown (g := gb133) (o := .cells #[.int .i32 ((rd_T35 l0 x8_1).f0), .int .u8 ((rd_T35 l0 x8_1).f1)] 35 (0, 0)) (by (with_reducible repeat (first | refine blk_drewN ?_ _ | refine blk_drew ?_ | refine blk_alloc ?_ _)); refine blk_put (cs := #[.int .i32 ((rd_T35 l0 x8_1).f0), .int .u8 0]) ?_ 1 _ rfl; (with_reducible repeat (first | refine blk_drewN ?_ _ | refine blk_drew ?_ | refine blk_alloc ?_ _)); refine blk_put (cs := #[.int .i32 0, .int .u8 0]) ?_ 0 _ rfl; (with_reducible repeat (first | refine blk_drewN ?_ _ | refine blk_drew ?_ | refine blk_alloc ?_ _)); exact BK133.out) hg (by first | exact Kd.R_ne HO_3.out BK133.out (by decide) | (intro e_; have h_ := HO_3.out.1 _ e_.symm; simp at h_))); have n1_ := Aside0.mk (hb); have n2_ := Aside0.mk (ho); clear BK133; clear HB; clear HO_3; have BK133 := n0_; have HB := n1_; have HO136 := n2_; clear n0_ n1_ n2_; clear ho hb hg hat))
       go_roundg k1
       case measure => have := HK1.out; omega
       case rel => exact ⟨(y134), (wrap64 (x8_1 + 1)), sA, H', ⟨by have := HK1.out; omega⟩, ⟨kR HO136⟩, ⟨bG⟩⟩
      ·rw [if_neg c5] at H
       exact absurd H (by simp)
     ·rw [if_neg c4] at H
      exact absurd H (by simp)
    ·rw [if_neg c3] at H
     exact absurd H (by simp)
   ·rw [if_neg c2] at H
    have c2b0 : decide (x8_1 < (l0.length : Int)) = false := decide_eq_false c2
    clear c2
    replace H := Option.bind_eq_some_iff.mp H
    obtain ⟨t137, A90, H⟩ := H
    replace H : (some (strOfNums t137)) = some r := H
    have A9 := Aside0.mk A90
    clear A90
    obtain rfl := Option.some.inj H
    obtain ⟨Ao10, co10, eo10⟩ := Kd.R_slice HO_3.out
    subst eo10
    go_wp2_with (first | ((with_reducible refine gate_callee (f := 33) rfl ?_); refine goesL_ (some 19) rfl rfl Tryd.func33 (by kernel_rfl) rfl #[.slice Ao10 x3_1.length co10] rfl aP ?_; (with_reducible refine (runes_Encode.calls k1 _ _ x3_1 t137 _ ?side1 ?side2 A9.out).mono ?_); (case side1 => repeat (first | exact (Kd.R_reads' HO_3.out).2.2 | (with_reducible refine Kd.C_alloc ?_ _) | (with_reducible refine Kd.C_drewN ?_ _) | (with_reducible refine Kd.C_drew ?_))); (case side2 => exact (Kd.R_reads' HO_3.out).2.1); rintro e w11 ⟨v138, rfl, ho0, hb⟩; refine ⟨_, rfl, ?_⟩; replace HO_3 := Aside0.mk (Kd.R_below (kR HO_3) hb); have HO139 := Aside0.mk (Kd.R_lower ho0 (below_size bA)); replace HB := Aside0.mk (below_step bA hb); (try clear hb); (try clear hb2); (try clear hk); (try clear hi); (try clear ho0); have hcv12 := own_string (P := Tryd.prog) Tryd.underlying25 Tryd.underlying5 Tryd.underlying9 (Kd.own_of_R HO139.out)))
    go_ret
    exact ⟨eW, bA⟩

/-! ### cells_Width: function 36 -/
def cells_Width.l0 : Nat → Int → List (S35) → Int → Int → Option (Int)
 | 0, _, _, _, _ => none
 | k + 1, x3, x6, x7, x8 => if x8 < x7 then (if 0 ≤ x8 then (if x8 < (x6.length : Int) then ((runes_Width.f ((rd_T35 x6 x8).f0)).bind fun t142 => (cells_Width.l0 k (wrap64 (x3 + t142)) x6 x7 (wrap64 (x8 + 1)))) else (none)) else (none)) else (some x3)
def cells_Width.f (k : Nat) (l0 : List (S35)) : Option (Int) := cells_Width.l0 k 0 l0 (l0.length : Int) 0
theorem cells_Width.mono_l : ∀ k, (∀ y0 y1 y2 y3, LeO (cells_Width.l0 k y0 y1 y2 y3) (cells_Width.l0 (k + 1) y0 y1 y2 y3))
 | 0 => fun _ _ _ _ r h => by simp [cells_Width.l0] at h
 | k + 1 => by
  have ih0 := cells_Width.mono_l k
  ·intro y0 y1 y2 y3
   unfold cells_Width.l0
   repeat' first
   | (with_reducible exact ih0 _ _ _ _)
   | (with_reducible exact LeO.refl _)
   | (with_reducible exact LeO.none _)
   | (with_reducible refine LeO.ite ?_ ?_)
   | (with_reducible refine LeO.bind ?_ (fun _ => ?_))
theorem cells_Width.mono : ∀ a0 k, LeO (cells_Width.f k a0) (cells_Width.f (k + 1) a0) := by
 intro a0 k
 have ih0 := cells_Width.mono_l k
 unfold cells_Width.f
 repeat' first
   | (with_reducible exact ih0 _ _ _ _)
   | (with_reducible exact LeO.refl _)
   | (with_reducible exact LeO.none _)
   | (with_reducible refine LeO.ite ?_ ?_)
   | (with_reducible refine LeO.bind ?_ (fun _ => ?_))
theorem cells_Width.calls (k : Nat) (A0 : Option Addr) (c0 : Nat) (l0 : List (S35)) (r : Int) (w : World) (hr0 : Kd.C k35 w A0 l0.length l0) (hc0 : l0.length ≤ c0) (hG : GOK [0] w) (h : cells_Width.f k l0 = some r) :
  Calls Tryd.prog 36 #[.slice A0 l0.length c0] w fun e w' => e = .returned (.int .i64 r) ∧ Below w.heap.size w w' := by
 have hu35 := Tryd.underlying35
 have HG := Aside0.mk hG
 clear hG
 have HR0 := Aside0.mk hr0
 have HC0 := Aside0.mk hc0
 clear hr0 hc0
 have HB := Aside0.mk (Below.refl w.heap.size w)
 have H : (cells_Width.l0 k 0 l0 (l0.length : Int) 0) = some r := h
 clear h
 have H' := Aside0.mk H
 clear H
 go_enter Tryd.func36, Tryd.ntmps36
 go_wp2
 go_loopg [3, 8] k (fun kq v3 v8 w' => ∃ (x3_1 : Int) (x8_1 : Int), v3 = .int .i64 x3_1 ∧ v8 = .int .i64 x8_1 ∧ Aside0 (cells_Width.l0 kq x3_1 l0 (l0.length : Int) x8_1 = some r) ∧ Aside0 (kq ≤ k) ∧ Aside0 (Below w.heap.size w w'))
 case atStart => exact ⟨(0), (0), sA, sA, H', ⟨Nat.le_refl _⟩, ⟨bA⟩⟩
 case round =>
  clear H'
  obtain ⟨x3_1, x8_1, rfl, rfl, HA, HK1, HB⟩ := hrel
  cases gk with
  | zero => exact absurd HA.out (by simp [cells_Width.l0])
  | succ k1 =>
   have H := HA.out
   clear HA
   simp only [cells_Width.l0] at H
   by_cases c2 : x8_1 < (l0.length : Int)
   ·rw [if_pos c2] at H
    have c2b0 : decide (x8_1 < (l0.length : Int)) = true := decide_eq_true c2
    clear c2
    by_cases c3 : 0 ≤ x8_1
    ·rw [if_pos c3] at H
     have c3b0 : decide (0 ≤ x8_1) = true := decide_eq_true c3
     clear c3
     by_cases c4 : x8_1 < (l0.length : Int)
     ·rw [if_pos c4] at H
      have c4b0 : decide (x8_1 < (l0.length : Int)) = true := decide_eq_true c4
      clear c4
      replace H := Option.bind_eq_some_iff.mp H
      obtain ⟨t142, A50, H⟩ := H
      replace H : (cells_Width.l0 k1 (wrap64 (x3_1 + t142)) l0 (l0.length : Int) (wrap64 (x8_1 + 1))) = some r := H
      have A5 := Aside0.mk A50
      clear A50
      have H' := Aside0.mk H
      clear H
      have p140 : 0 ≤ (x8_1 : Int) := of_decide_eq_true asA
      have q140 : x8_1 < (l0.length : Int) := of_decide_eq_true asA
      obtain ⟨ad140, e140, hx140_0, hx140_1⟩ := at_T35 HR0.out x8_1 p140 q140
      cases e140
      replace hx140_0 := (HB.out.cell (World.block_lt_of_cell? w _ hx140_0)).trans hx140_0
      replace hx140_1 := (HB.out.cell (World.block_lt_of_cell? w _ hx140_1)).trans hx140_1
      replace p140 := eq_true p140
      replace q140 := eq_true q140
      go_wp2_with (first | ((with_reducible refine gate_dst (N := 5) rfl ?_); refine box_event ?hg (N := 5) ?hd (cs := #[.int .i32 0, .int .u8 0]) (t := 35) ?hr ?_; (case hd => rfl); (case hg => rfl); (case hr => first | (go_simp; done) | (go_simp; rfl)); intro gb141 hg w6 hbox hb; have BK141 := Aside0.mk (hbox); have GW141 := Aside0.mk ((geA hg : w.heap.size ≤ gb141)); have GE141 := Aside0.mk ((geA hg : w.heap.size ≤ gb141)); replace HB := Aside0.mk (below_step bA hb); clear hb hbox hg; have hcz7_0 : w6.cell? ⟨gb141, 0, none⟩ = some (.int .i32 0) := (blk_cell BK141.out 0).trans rfl; have hcz7_1 : w6.cell? ⟨gb141, 1, none⟩ = some (.int .u8 0) := (blk_cell BK141.out 1).trans rfl; have hfz7_0 := blk_frozen BK141.out 0; have hfz7_1 := blk_frozen BK141.out 1) | ((with_reducible refine gate_callee (f := 47) rfl ?_); refine goesL_ (some 15) rfl rfl Tryd.func47 (by kernel_rfl) rfl #[.int .i32 ((rd_T35 l0 x8_1).f0)] rfl aP ?_; (with_reducible refine (runes_Width.calls ((rd_T35 l0 x8_1).f0) t142 _ ?side1 A5.out).mono ?_); (case side1 => exact GOK.of_below (GOK.sub HG.out rfl) bG); rintro e w' ⟨rfl, ⟨nd, rfl⟩⟩; refine ⟨_, rfl, ?_⟩))
      go_roundg k1
      case measure => have := HK1.out; omega
      case rel => exact ⟨(wrap64 (x3_1 + t142)), (wrap64 (x8_1 + 1)), sA, sA, H', ⟨by have := HK1.out; omega⟩, ⟨bG⟩⟩
     ·rw [if_neg c4] at H
      exact absurd H (by simp)
    ·rw [if_neg c3] at H
     exact absurd H (by simp)
   ·rw [if_neg c2] at H
    have c2b0 : decide (x8_1 < (l0.length : Int)) = false := decide_eq_false c2
    clear c2
    obtain rfl := Option.some.inj H
    go_wp2
    go_ret
    exact ⟨eW, bA⟩

-- NOT PRINTED: function 77 (abi_NoEscape)

-- NOT PRINTED: function 62 (strings_Builder_copyCheck)

-- NOT PRINTED: function 37 (strings_Builder_WriteString)

-- NOT PRINTED: function 39 (strings_Builder_String)

/-! ### stringslite_HasPrefix: function 71 -/
def stringslite_HasPrefix.f (a0 : ByteArray) (a1 : ByteArray) : Option (Bool) := if (a0.size : Int) ≥ (a1.size : Int) then (if 0 ≤ (a1.size : Int) then (if (a1.size : Int) ≤ (a0.size : Int) then (some ((a0.extract 0 ((a1.size : Int) : Int).toNat).toList == a1.toList)) else (none)) else (none)) else (some false)
theorem stringslite_HasPrefix.calls (a0 : ByteArray) (a1 : ByteArray) (r : Bool) (w : World) (h : stringslite_HasPrefix.f a0 a1 = some r) :
  Calls Tryd.prog 71 #[.string a0, .string a1] w fun e w' => e = .returned (.bool r) ∧ Drawn0 w w' := by
 have H : (if (a0.size : Int) ≥ (a1.size : Int) then (if 0 ≤ (a1.size : Int) then (if (a1.size : Int) ≤ (a0.size : Int) then (some ((a0.extract 0 ((a1.size : Int) : Int).toNat).toList == a1.toList)) else (none)) else (none)) else (some false)) = some r := h
 clear h
 by_cases c3 : (a0.size : Int) ≥ (a1.size : Int)
 ·rw [if_pos c3] at H
  have c3b0 : decide ((a1.size : Int) ≤ (a0.size : Int)) = true := decide_eq_true c3
  have c3b1 : decide (a1.size ≤ a0.size) = true := decide_eq_true (Int.ofNat_le.mp c3)
  clear c3
  by_cases c4 : 0 ≤ (a1.size : Int)
  ·rw [if_pos c4] at H
   have c4b0 := eq_true c4
   have c4b1 : decide (0 ≤ (a1.size : Int)) = true := decide_eq_true c4
   clear c4
   by_cases c5 : (a1.size : Int) ≤ (a0.size : Int)
   ·rw [if_pos c5] at H
    have c5b0 := eq_true c5
    have c5b1 : decide ((a1.size : Int) ≤ (a0.size : Int)) = true := decide_eq_true c5
    clear c5
    obtain rfl := Option.some.inj H
    go_enter Tryd.func71, Tryd.ntmps71
    go_wp2
    go_ret
    exact ⟨sA, by repeat (first | exact Drawn0.refl _ | apply Drawn0.step)⟩
   ·rw [if_neg c5] at H
    exact absurd H (by simp)
  ·rw [if_neg c4] at H
   exact absurd H (by simp)
 ·rw [if_neg c3] at H
  have c3b0 : decide ((a1.size : Int) ≤ (a0.size : Int)) = false := decide_eq_false c3
  have c3b1 : decide (a1.size ≤ a0.size) = false := decide_eq_false (fun h => c3 (Int.ofNat_le.mpr h))
  clear c3
  obtain rfl := Option.some.inj H
  go_enter Tryd.func71, Tryd.ntmps71
  go_wp2
  go_ret
  exact ⟨sA, by repeat (first | exact Drawn0.refl _ | apply Drawn0.step)⟩

/-! ### strings_HasPrefix: function 48 -/
def strings_HasPrefix.f (a0 : ByteArray) (a1 : ByteArray) : Option (Bool) := (stringslite_HasPrefix.f a0 a1).bind fun t143 => (some t143)
theorem strings_HasPrefix.calls (a0 : ByteArray) (a1 : ByteArray) (r : Bool) (w : World) (h : strings_HasPrefix.f a0 a1 = some r) :
  Calls Tryd.prog 48 #[.string a0, .string a1] w fun e w' => e = .returned (.bool r) ∧ Drawn0 w w' := by
 have H : ((stringslite_HasPrefix.f a0 a1).bind fun t143 => (some t143)) = some r := h
 clear h
 replace H := Option.bind_eq_some_iff.mp H
 obtain ⟨t143, A30, H⟩ := H
 replace H : (some t143) = some r := H
 have A3 := Aside0.mk A30
 clear A30
 obtain rfl := Option.some.inj H
 go_enter Tryd.func48, Tryd.ntmps48
 go_wp2_with (first | ((with_reducible refine gate_callee (f := 71) rfl ?_); refine goesL_ (some 7) rfl rfl Tryd.func71 (by kernel_rfl) rfl #[.string a0, .string a1] rfl aP ?_; (with_reducible refine (stringslite_HasPrefix.calls a0 a1 t143 _ A3.out).mono ?_); rintro e w' ⟨rfl, ⟨nd, rfl⟩⟩; refine ⟨_, rfl, ?_⟩))
 go_ret
 exact ⟨sA, by repeat (first | exact Drawn0.refl _ | apply Drawn0.step)⟩

/-! ### bits_Mul32: function 78 -/
def bits_Mul32.f (a0 : Int) (a1 : Int) : Option (Int × Int) := some (((IntKind.u64.wrap ((IntKind.u64.wrap (a0)) * (IntKind.u64.wrap (a1)))) / 4294967296) % 4294967296, (IntKind.u64.wrap ((IntKind.u64.wrap (a0)) * (IntKind.u64.wrap (a1)))) % 4294967296)
theorem bits_Mul32.calls (a0 : Int) (a1 : Int) (r1 : Int) (r2 : Int) (w : World) (h : bits_Mul32.f a0 a1 = some (r1, r2)) :
  Calls Tryd.prog 78 #[.int .u32 a0, .int .u32 a1] w fun e w' => e = .returned (.tuple #[.int .u32 r1, .int .u32 r2]) ∧ Drawn0 w w' := by
 have H : (some (((IntKind.u64.wrap ((IntKind.u64.wrap (a0)) * (IntKind.u64.wrap (a1)))) / 4294967296) % 4294967296, (IntKind.u64.wrap ((IntKind.u64.wrap (a0)) * (IntKind.u64.wrap (a1)))) % 4294967296)) = some (r1, r2) := h
 clear h
 simp only [Option.some.injEq, Prod.mk.injEq] at H
 obtain ⟨rfl, rfl⟩ := H
 go_enter Tryd.func78, Tryd.ntmps78
 go_wp2
 go_ret2
 exact ⟨sA, by repeat (first | exact Drawn0.refl _ | apply Drawn0.step)⟩

/-! ### bits_Mul64: function 79 -/
def bits_Mul64.f (a0 : Int) (a1 : Int) : Option (Int × Int) := some (IntKind.u64.wrap ((IntKind.u64.wrap ((IntKind.u64.wrap ((a0 / 4294967296) * (a1 / 4294967296))) + ((IntKind.u64.wrap ((IntKind.u64.wrap ((a0 / 4294967296) * (Go.bits .and .u64 a1 4294967295))) + ((IntKind.u64.wrap ((Go.bits .and .u64 a0 4294967295) * (Go.bits .and .u64 a1 4294967295))) / 4294967296))) / 4294967296))) + ((IntKind.u64.wrap ((Go.bits .and .u64 (IntKind.u64.wrap ((IntKind.u64.wrap ((a0 / 4294967296) * (Go.bits .and .u64 a1 4294967295))) + ((IntKind.u64.wrap ((Go.bits .and .u64 a0 4294967295) * (Go.bits .and .u64 a1 4294967295))) / 4294967296))) 4294967295) + (IntKind.u64.wrap ((Go.bits .and .u64 a0 4294967295) * (a1 / 4294967296))))) / 4294967296)), IntKind.u64.wrap (a0 * a1))
theorem bits_Mul64.calls (a0 : Int) (a1 : Int) (r1 : Int) (r2 : Int) (w : World) (h : bits_Mul64.f a0 a1 = some (r1, r2)) :
  Calls Tryd.prog 79 #[.int .u64 a0, .int .u64 a1] w fun e w' => e = .returned (.tuple #[.int .u64 r1, .int .u64 r2]) ∧ Drawn0 w w' := by
 have H : (some (IntKind.u64.wrap ((IntKind.u64.wrap ((IntKind.u64.wrap ((a0 / 4294967296) * (a1 / 4294967296))) + ((IntKind.u64.wrap ((IntKind.u64.wrap ((a0 / 4294967296) * (Go.bits .and .u64 a1 4294967295))) + ((IntKind.u64.wrap ((Go.bits .and .u64 a0 4294967295) * (Go.bits .and .u64 a1 4294967295))) / 4294967296))) / 4294967296))) + ((IntKind.u64.wrap ((Go.bits .and .u64 (IntKind.u64.wrap ((IntKind.u64.wrap ((a0 / 4294967296) * (Go.bits .and .u64 a1 4294967295))) + ((IntKind.u64.wrap ((Go.bits .and .u64 a0 4294967295) * (Go.bits .and .u64 a1 4294967295))) / 4294967296))) 4294967295) + (IntKind.u64.wrap ((Go.bits .and .u64 a0 4294967295) * (a1 / 4294967296))))) / 4294967296)), IntKind.u64.wrap (a0 * a1))) = some (r1, r2) := h
 clear h
 simp only [Option.some.injEq, Prod.mk.injEq] at H
 obtain ⟨rfl, rfl⟩ := H
 go_enter Tryd.func79, Tryd.ntmps79
 go_wp2
 go_ret2
 exact ⟨sA, by repeat (first | exact Drawn0.refl _ | apply Drawn0.step)⟩

/-! ### bits_Mul: function 63 -/
def bits_Mul.f (a0 : Int) (a1 : Int) : Option (Int × Int) := (bits_Mul64.f a0 a1).bind fun bt144 => (some (bt144.1, bt144.2))
theorem bits_Mul.calls (a0 : Int) (a1 : Int) (r1 : Int) (r2 : Int) (w : World) (h : bits_Mul.f a0 a1 = some (r1, r2)) :
  Calls Tryd.prog 63 #[.int .u64 a0, .int .u64 a1] w fun e w' => e = .returned (.tuple #[.int .u64 r1, .int .u64 r2]) ∧ Drawn0 w w' := by
 have H : ((bits_Mul64.f a0 a1).bind fun bt144 => (some (bt144.1, bt144.2))) = some (r1, r2) := h
 clear h
 replace H := Option.bind_eq_some_iff.mp H
 obtain ⟨⟨t144, t145⟩, A30, H⟩ := H
 replace H : (some (t144, t145)) = some (r1, r2) := H
 have A3 := Aside0.mk A30
 clear A30
 simp only [Option.some.injEq, Prod.mk.injEq] at H
 obtain ⟨rfl, rfl⟩ := H
 go_enter Tryd.func63, Tryd.ntmps63
 go_wp2_with (first | ((with_reducible refine gate_callee (f := 79) rfl ?_); refine goesL_ (some 25) rfl rfl Tryd.func79 (by kernel_rfl) rfl #[.int .u64 a0, .int .u64 a1] rfl aP ?_; (with_reducible refine (bits_Mul64.calls a0 a1 t144 t145 _ A3.out).mono ?_); rintro e w' ⟨rfl, ⟨nd, rfl⟩⟩; refine ⟨_, rfl, ?_⟩))
 go_ret2
 exact ⟨sA, by repeat (first | exact Drawn0.refl _ | apply Drawn0.step)⟩

-- NOT PRINTED: function 88 (bytealg_MakeNoZero)

-- NOT PRINTED: function 80 (strings_Builder_grow)

-- NOT PRINTED: function 64 (strings_Builder_Grow)

-- NOT PRINTED: function 65 (strings_Builder_Len)

end Go.Proofs.YtmeinakeiefcdaaDoor.X
