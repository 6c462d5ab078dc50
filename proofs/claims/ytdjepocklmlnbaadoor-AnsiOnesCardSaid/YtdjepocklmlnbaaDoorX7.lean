-- Written by this session's xprint.py (a variant of the kit's printer). Not trusted: Lean checks it.
import Derived.Test.YtdjepocklmlnbaaDoorX0
import Derived.Test.YtdjepocklmlnbaaDoorX1
import Derived.Test.YtdjepocklmlnbaaDoorX2
namespace Go.Proofs.YtdjepocklmlnbaaDoor.X
open Go.RowKit Go.Proofs.YtdjepocklmlnbaaDoorW.PrintWords Go.Proofs.YtdjepocklmlnbaaDoorW.PrintLast Go.Proofs.YtdjepocklmlnbaaDoorW.PrintMore
attribute [local go_sem] max2_int min2_int max_two min_two max_three min_three max_four min_four   -- for this text's walks alone
set_option linter.unusedVariables false
set_option maxHeartbeats 8000000
set_option maxRecDepth 100000
set_option linter.unusedSimpArgs false

attribute [local go_sem high] eqA44
/-! ### stringslite_HasPrefix: function 47 -/
def stringslite_HasPrefix.f (a0 : ByteArray) (a1 : ByteArray) : Option (Bool) := if (a0.size : Int) ≥ (a1.size : Int) then (if 0 ≤ (a1.size : Int) then (if (a1.size : Int) ≤ (a0.size : Int) then (some ((a0.extract 0 ((a1.size : Int) : Int).toNat).toList == a1.toList)) else (none)) else (none)) else (some false)
theorem stringslite_HasPrefix.calls (a0 : ByteArray) (a1 : ByteArray) (r : Bool) (w : World) (h : stringslite_HasPrefix.f a0 a1 = some r) :
  Calls Tryd.prog 47 #[.string a0, .string a1] w fun e w' => e = .returned (.bool r) ∧ Drawn0 w w' := by
 have H : (if (a0.size : Int) ≥ (a1.size : Int) then (if 0 ≤ (a1.size : Int) then (if (a1.size : Int) ≤ (a0.size : Int) then (some ((a0.extract 0 ((a1.size : Int) : Int).toNat).toList == a1.toList)) else (none)) else (none)) else (some false)) = some r := h
 clear h
 by_cases c3 : (a0.size : Int) ≥ (a1.size : Int)
 ·rw [if_pos c3] at H
  have c3b0 : decide ((a1.size : Int) ≤ (a0.size : Int)) = true := decide_eq_true c3
  have c3b1 : decide (a1.size ≤ a0.size) = true := decide_eq_true (Int.ofNat_le.mp c3)
  clear c3
  by_cases c4 : 0 ≤ (a1.size : Int)
  ·rw [if_pos c4] at H
   have c4b0 := eq_true c4
   have c4b1 : decide (0 ≤ (a1.size : Int)) = true := decide_eq_true c4
   clear c4
   by_cases c5 : (a1.size : Int) ≤ (a0.size : Int)
   ·rw [if_pos c5] at H
    have c5b0 := eq_true c5
    have c5b1 : decide ((a1.size : Int) ≤ (a0.size : Int)) = true := decide_eq_true c5
    clear c5
    obtain rfl := Option.some.inj H
    go_enter Tryd.func47, Tryd.ntmps47
    go_wp2
    go_ret
    exact ⟨by first | rfl | (simp; done) | (simp [*]; done), by repeat (first | exact Drawn0.refl _ | apply Drawn0.step)⟩
   ·rw [if_neg c5] at H
    exact absurd H (by simp)
  ·rw [if_neg c4] at H
   exact absurd H (by simp)
 ·rw [if_neg c3] at H
  have c3b0 : decide ((a1.size : Int) ≤ (a0.size : Int)) = false := decide_eq_false c3
  have c3b1 : decide (a1.size ≤ a0.size) = false := decide_eq_false (fun h => c3 (Int.ofNat_le.mpr h))
  clear c3
  obtain rfl := Option.some.inj H
  go_enter Tryd.func47, Tryd.ntmps47
  go_wp2
  go_ret
  exact ⟨by first | rfl | (simp; done) | (simp [*]; done), by repeat (first | exact Drawn0.refl _ | apply Drawn0.step)⟩

/-! ### strings_HasPrefix: function 33 -/
def strings_HasPrefix.f (a0 : ByteArray) (a1 : ByteArray) : Option (Bool) := (stringslite_HasPrefix.f a0 a1).bind fun t292 => (some t292)
theorem strings_HasPrefix.calls (a0 : ByteArray) (a1 : ByteArray) (r : Bool) (w : World) (h : strings_HasPrefix.f a0 a1 = some r) :
  Calls Tryd.prog 33 #[.string a0, .string a1] w fun e w' => e = .returned (.bool r) ∧ Drawn0 w w' := by
 have H : ((stringslite_HasPrefix.f a0 a1).bind fun t292 => (some t292)) = some r := h
 clear h
 replace H := Option.bind_eq_some_iff.mp H
 obtain ⟨t292, A30, H⟩ := H
 replace H : (some t292) = some r := H
 have A3 := Aside0.mk A30
 clear A30
 obtain rfl := Option.some.inj H
 go_enter Tryd.func33, Tryd.ntmps33
 go_wp2_with (first | ((with_reducible refine gate_callee (f := 47) rfl ?_); refine goesL_ (some 7) rfl rfl Tryd.func47 (by kernel_rfl) rfl #[.string a0, .string a1] rfl (by (try simp only [List.map_toArray, List.map_cons, List.map_nil]); first | done | rfl | (simp only [List.length_drop, List.length_take]; rfl)) ?_; (with_reducible refine (stringslite_HasPrefix.calls a0 a1 t292 _ A3.out).mono ?_); rintro e w' ⟨rfl, ⟨nd, rfl⟩⟩; refine ⟨_, rfl, ?_⟩))
 go_ret
 exact ⟨by first | rfl | (simp; done) | (simp [*]; done), by repeat (first | exact Drawn0.refl _ | apply Drawn0.step)⟩

/-! ### slices_Index_byte_byte: function 63 -/
def slices_Index_byte_byte.l0 : Nat → List Int → Int → Int → Int → Option (Int)
 | 0, _, _, _, _ => none
 | k + 1, x0, x1, x7, x8 => if x8 < x7 then (if 0 ≤ x8 then (if x8 < (x0.length : Int) then (if x1 = (rd x0 x8) then (some x8) else (slices_Index_byte_byte.l0 k x0 x1 x7 (wrap64 (x8 + 1)))) else (none)) else (none)) else (some (-1))
def slices_Index_byte_byte.f (k : Nat) (l0 : List Int) (a1 : Int) : Option (Int) := slices_Index_byte_byte.l0 k l0 a1 (l0.length : Int) 0
theorem slices_Index_byte_byte.mono_l : ∀ k, (∀ y0 y1 y2 y3, LeO (slices_Index_byte_byte.l0 k y0 y1 y2 y3) (slices_Index_byte_byte.l0 (k + 1) y0 y1 y2 y3))
 | 0 => fun _ _ _ _ r h => by simp [slices_Index_byte_byte.l0] at h
 | k + 1 => by
  have ih0 := slices_Index_byte_byte.mono_l k
  ·intro y0 y1 y2 y3
   unfold slices_Index_byte_byte.l0
   repeat' first
   | (with_reducible exact ih0 _ _ _ _)
   | (with_reducible exact LeO.refl _)
   | (with_reducible exact LeO.none _)
   | (with_reducible refine LeO.ite ?_ ?_)
   | (with_reducible refine LeO.bind ?_ (fun _ => ?_))
theorem slices_Index_byte_byte.mono : ∀ a0 a1 k, LeO (slices_Index_byte_byte.f k a0 a1) (slices_Index_byte_byte.f (k + 1) a0 a1) := by
 intro a0 a1 k
 have ih0 := slices_Index_byte_byte.mono_l k
 unfold slices_Index_byte_byte.f
 repeat' first
   | (with_reducible exact ih0 _ _ _ _)
   | (with_reducible exact LeO.refl _)
   | (with_reducible exact LeO.none _)
   | (with_reducible refine LeO.ite ?_ ?_)
   | (with_reducible refine LeO.bind ?_ (fun _ => ?_))
theorem slices_Index_byte_byte.calls (k : Nat) (A0 : Option Addr) (c0 : Nat) (l0 : List Int) (a1 : Int) (r : Int) (w : World) (hr0 : Kd.C (Kd.int .u8) w A0 l0.length l0) (hc0 : l0.length ≤ c0) (h : slices_Index_byte_byte.f k l0 a1 = some r) :
  Calls Tryd.prog 63 #[.slice A0 l0.length c0, .int .u8 a1] w fun e w' => e = .returned (.int .i64 r) ∧ Drawn0 w w' := by
 have HR0 := Aside0.mk hr0
 have HC0 := Aside0.mk hc0
 clear hr0 hc0
 have H : (slices_Index_byte_byte.l0 k l0 a1 (l0.length : Int) 0) = some r := h
 clear h
 have H' := Aside0.mk H
 clear H
 go_enter Tryd.func63, Tryd.ntmps63
 go_wp2
 go_loopg [8] k (fun kq v8 w' => ∃ (x8_1 : Int), v8 = .int .i64 x8_1 ∧ Aside0 (slices_Index_byte_byte.l0 kq l0 a1 (l0.length : Int) x8_1 = some r) ∧ Aside0 (kq ≤ k) ∧ Drawn0 w w')
 case atStart => exact ⟨(0), (by first | rfl | (simp; done) | (simp [*]; done)), H', ⟨Nat.le_refl _⟩, by repeat (first | exact Drawn0.refl _ | apply Drawn0.step)⟩
 case round =>
  clear H'
  try clear p2
  obtain ⟨x8_1, rfl, HA, HK1, ⟨m1, rfl⟩⟩ := hrel
  cases gk with
  | zero => exact absurd HA.out (by simp [slices_Index_byte_byte.l0])
  | succ k1 =>
   have H := HA.out
   clear HA
   simp only [slices_Index_byte_byte.l0] at H
   by_cases c3 : x8_1 < (l0.length : Int)
   ·rw [if_pos c3] at H
    have c3b0 : decide (x8_1 < (l0.length : Int)) = true := decide_eq_true c3
    clear c3
    by_cases c4 : 0 ≤ x8_1
    ·rw [if_pos c4] at H
     have c4b0 : decide (0 ≤ x8_1) = true := decide_eq_true c4
     clear c4
     by_cases c5 : x8_1 < (l0.length : Int)
     ·rw [if_pos c5] at H
      have c5b0 : decide (x8_1 < (l0.length : Int)) = true := decide_eq_true c5
      clear c5
      by_cases c6 : a1 = (rd l0 x8_1)
      ·rw [if_pos c6] at H
       have c6b0 : (a1 == (rd l0 x8_1)) = true := beq_iff_eq.mpr c6
       have c6b1 : (a1 != (rd l0 x8_1)) = false := bne_eq_false_iff_eq.mpr c6
       clear c6
       obtain rfl := Option.some.inj H
       have p293 : 0 ≤ (x8_1 : Int) := of_decide_eq_true (by first | (with_reducible assumption) | assumption)
       have q293 : x8_1 < (l0.length : Int) := of_decide_eq_true (by first | (with_reducible assumption) | assumption)
       obtain ⟨ad293, e293, hx293_0⟩ := Kd.at_int HR0.out x8_1 p293 q293
       cases e293
       replace p293 := eq_true p293
       replace q293 := eq_true q293
       go_wp2
       go_ret
       exact ⟨by first | rfl | (simp; done) | (simp [*]; done), by repeat (first | exact Drawn0.refl _ | apply Drawn0.step)⟩
      ·rw [if_neg c6] at H
       have c6b0 : (a1 == (rd l0 x8_1)) = false := beq_eq_false_iff_ne.mpr c6
       have c6b1 : (a1 != (rd l0 x8_1)) = true := bne_iff_ne.mpr c6
       have H' := Aside0.mk H
       clear H
       have p293 : 0 ≤ (x8_1 : Int) := of_decide_eq_true (by first | (with_reducible assumption) | assumption)
       have q293 : x8_1 < (l0.length : Int) := of_decide_eq_true (by first | (with_reducible assumption) | assumption)
       obtain ⟨ad293, e293, hx293_0⟩ := Kd.at_int HR0.out x8_1 p293 q293
       cases e293
       replace p293 := eq_true p293
       replace q293 := eq_true q293
       go_wp2
       go_roundg k1
       case measure => have := HK1.out; omega
       case rel => exact ⟨(wrap64 (x8_1 + 1)), (by first | rfl | (simp; done) | (simp [*]; done)), H', ⟨by have := HK1.out; omega⟩, by repeat (first | exact Drawn0.refl _ | apply Drawn0.step)⟩
     ·rw [if_neg c5] at H
      exact absurd H (by simp)
    ·rw [if_neg c4] at H
     exact absurd H (by simp)
   ·rw [if_neg c3] at H
    have c3b0 : decide (x8_1 < (l0.length : Int)) = false := decide_eq_false c3
    clear c3
    obtain rfl := Option.some.inj H
    go_wp2
    go_ret
    exact ⟨by first | rfl | (simp; done) | (simp [*]; done), by repeat (first | exact Drawn0.refl _ | apply Drawn0.step)⟩

/-! ### runes_first: function 76 -/
mutual
def runes_first.j0 : Nat → List Int → Int → Int → Option (Int × Int)
 | 0, _, _, _ => none
 | k + 1, x0, x4, x5 => if x4 = 0 then (runes_first.j1 k x0 x4 x5 true) else (runes_first.j1 k x0 x4 x5 (decide ((x0.length : Int) < x4)))
def runes_first.j1 : Nat → List Int → Int → Int → Bool → Option (Int × Int)
 | 0, _, _, _, _ => none
 | k + 1, x0, x4, x5, x45 => if x45 = true then (some (65533, 1)) else (if 1 ≤ x4 then (if x4 ≤ (x0.length : Int) then ((some ((x0.take (x4 : Int).toNat).drop 1 : List Int)).bind fun y295 => (runes_first.l0 k x4 x5 y295 (y295.length : Int) 0)) else (none)) else (none))
def runes_first.l0 : Nat → Int → Int → List Int → Int → Int → Option (Int × Int)
 | 0, _, _, _, _, _ => none
 | k + 1, x4, x5, x48, x49, x50 => if x50 < x49 then (if 0 ≤ x50 then (if x50 < (x48.length : Int) then (if (Go.bits .and .u8 (rd x48 x50) 192) = 128 then (runes_first.l0 k x4 (Go.bits .or .i32 (wrap32 (x5 * 64)) (wrap32 (Go.bits .and .u8 (rd x48 x50) 63))) x48 x49 (wrap64 (x50 + 1))) else (some (65533, 1))) else (none)) else (none)) else ((runes_Valid.f x5).bind fun t300 => (if t300 = true then ((runes_size.f x5).bind fun t301 => (if t301 = x4 then (some (x5, x4)) else (some (65533, 1)))) else (some (65533, 1))))
end
def runes_first.f (k : Nat) (l0 : List Int) : Option (Int × Int) := if 0 < (l0.length : Int) then (if (rd l0 0) < 128 then (some (wrap32 (rd l0 0), 1)) else (if (Go.bits .and .u8 (rd l0 0) 224) = 192 then (runes_first.j0 k l0 2 (wrap32 (Go.bits .and .u8 (rd l0 0) 31))) else (if (Go.bits .and .u8 (rd l0 0) 240) = 224 then (runes_first.j0 k l0 3 (wrap32 (Go.bits .and .u8 (rd l0 0) 15))) else (if (Go.bits .and .u8 (rd l0 0) 248) = 240 then (runes_first.j0 k l0 4 (wrap32 (Go.bits .and .u8 (rd l0 0) 7))) else (runes_first.j0 k l0 0 0))))) else (none)
theorem runes_first.mono_l : ∀ k, (∀ y0 y1 y2, LeO (runes_first.j0 k y0 y1 y2) (runes_first.j0 (k + 1) y0 y1 y2)) ∧ (∀ y0 y1 y2 y3, LeO (runes_first.j1 k y0 y1 y2 y3) (runes_first.j1 (k + 1) y0 y1 y2 y3)) ∧ (∀ y0 y1 y2 y3 y4, LeO (runes_first.l0 k y0 y1 y2 y3 y4) (runes_first.l0 (k + 1) y0 y1 y2 y3 y4))
 | 0 => ⟨fun _ _ _ r h => by simp [runes_first.j0] at h, fun _ _ _ _ r h => by simp [runes_first.j1] at h, fun _ _ _ _ _ r h => by simp [runes_first.l0] at h⟩
 | k + 1 => by
  obtain ⟨ih0, ih1, ih2⟩ := runes_first.mono_l k
  refine ⟨?_, ?_, ?_⟩
  ·intro y0 y1 y2
   unfold runes_first.j0
   repeat' first
   | (with_reducible exact ih0 _ _ _)
   | (with_reducible exact ih1 _ _ _ _)
   | (with_reducible exact ih2 _ _ _ _ _)
   | (with_reducible exact LeO.refl _)
   | (with_reducible exact LeO.none _)
   | (with_reducible refine LeO.ite ?_ ?_)
   | (with_reducible refine LeO.bind ?_ (fun _ => ?_))
  ·intro y0 y1 y2 y3
   unfold runes_first.j1
   repeat' first
   | (with_reducible exact ih0 _ _ _)
   | (with_reducible exact ih1 _ _ _ _)
   | (with_reducible exact ih2 _ _ _ _ _)
   | (with_reducible exact LeO.refl _)
   | (with_reducible exact LeO.none _)
   | (with_reducible refine LeO.ite ?_ ?_)
   | (with_reducible refine LeO.bind ?_ (fun _ => ?_))
  ·intro y0 y1 y2 y3 y4
   unfold runes_first.l0
   repeat' first
   | (with_reducible exact ih0 _ _ _)
   | (with_reducible exact ih1 _ _ _ _)
   | (with_reducible exact ih2 _ _ _ _ _)
   | (with_reducible exact LeO.refl _)
   | (with_reducible exact LeO.none _)
   | (with_reducible refine LeO.ite ?_ ?_)
   | (with_reducible refine LeO.bind ?_ (fun _ => ?_))
theorem runes_first.mono : ∀ a0 k, LeO (runes_first.f k a0) (runes_first.f (k + 1) a0) := by
 intro a0 k
 obtain ⟨ih0, ih1, ih2⟩ := runes_first.mono_l k
 unfold runes_first.f
 repeat' first
   | (with_reducible exact ih0 _ _ _)
   | (with_reducible exact ih1 _ _ _ _)
   | (with_reducible exact ih2 _ _ _ _ _)
   | (with_reducible exact LeO.refl _)
   | (with_reducible exact LeO.none _)
   | (with_reducible refine LeO.ite ?_ ?_)
   | (with_reducible refine LeO.bind ?_ (fun _ => ?_))
theorem runes_first.calls (k : Nat) (A0 : Option Addr) (c0 : Nat) (l0 : List Int) (r1 : Int) (r2 : Int) (w : World) (hr0 : Kd.C (Kd.int .u8) w A0 l0.length l0) (hc0 : l0.length ≤ c0) (h : runes_first.f k l0 = some (r1, r2)) :
  Calls Tryd.prog 76 #[.slice A0 l0.length c0] w fun e w' => e = .returned (.tuple #[.int .i32 r1, .int .i64 r2]) ∧ Drawn0 w w' := by
 have HR0 := Aside0.mk hr0
 have HC0 := Aside0.mk hc0
 clear hr0 hc0
 have H : (if 0 < (l0.length : Int) then (if (rd l0 0) < 128 then (some (wrap32 (rd l0 0), 1)) else (if (Go.bits .and .u8 (rd l0 0) 224) = 192 then (runes_first.j0 k l0 2 (wrap32 (Go.bits .and .u8 (rd l0 0) 31))) else (if (Go.bits .and .u8 (rd l0 0) 240) = 224 then (runes_first.j0 k l0 3 (wrap32 (Go.bits .and .u8 (rd l0 0) 15))) else (if (Go.bits .and .u8 (rd l0 0) 248) = 240 then (runes_first.j0 k l0 4 (wrap32 (Go.bits .and .u8 (rd l0 0) 7))) else (runes_first.j0 k l0 0 0))))) else (none)) = some (r1, r2) := h
 clear h
 by_cases c2 : 0 < (l0.length : Int)
 ·rw [if_pos c2] at H
  have c2b0 : decide (0 < (l0.length : Int)) = true := decide_eq_true c2
  have c2b1 : decide (0 < l0.length) = true := decide_eq_true (by omega)
  clear c2
  have HC3 := Aside0.mk H
  clear H
  have p294 : 0 ≤ (0 : Int) := (by omega)
  have q294 : 0 < (l0.length : Int) := of_decide_eq_true (by first | (with_reducible assumption) | assumption)
  obtain ⟨ad294, e294, hx294_0⟩ := Kd.at_int HR0.out 0 p294 q294
  cases e294
  have qi294 : (0 < l0.length) = True := eq_true (by omega)
  (try rw [show ((0 : Int)).toNat = 0 from rfl] at hx294_0)
  (try rw [Addr.add_zero'] at hx294_0)
  replace p294 := eq_true p294
  replace q294 := eq_true q294
  go_enter Tryd.func76, Tryd.ntmps76
  go_upto_block 0 with (fail)
  go_cut [4, 5] (fun v4 v5 wc => ∃ (kq : Nat) (x4_2 : Int) (x5_2 : Int), v4 = .int .i64 x4_2 ∧ v5 = .int .i32 x5_2 ∧ Aside0 (runes_first.j0 kq l0 x4_2 x5_2 = some (r1, r2)) ∧ Aside0 (kq ≤ k) ∧ Drawn0 w wc)
  case first =>
   have H := HC3.out
   clear HC3
   by_cases c4 : (rd l0 0) < 128
   ·rw [if_pos c4] at H
    have c4b0 : decide ((rd l0 0) < 128) = true := decide_eq_true c4
    clear c4
    (first | rw [c4b0] | (simp only [i64_w, i32_w]; rw [c4b0]) | skip)
    simp only [Option.some.injEq, Prod.mk.injEq] at H
    obtain ⟨rfl, rfl⟩ := H
    go_wp2
    go_ret2
    exact ⟨by first | rfl | (simp; done) | (simp [*]; done), by repeat (first | exact Drawn0.refl _ | apply Drawn0.step)⟩
   ·rw [if_neg c4] at H
    have c4b0 : decide ((rd l0 0) < 128) = false := decide_eq_false c4
    clear c4
    (first | rw [c4b0] | (simp only [i64_w, i32_w]; rw [c4b0]) | skip)
    by_cases c5 : (Go.bits .and .u8 (rd l0 0) 224) = 192
    ·rw [if_pos c5] at H
     have c5b0 : ((Go.bits .and .u8 (rd l0 0) 224) == 192) = true := beq_iff_eq.mpr c5
     have c5b1 : ((Go.bits .and .u8 (rd l0 0) 224) != 192) = false := bne_eq_false_iff_eq.mpr c5
     clear c5
     have H' := Aside0.mk H
     clear H
     go_wp2
     go_meet
     case rel => exact ⟨_, (2), (wrap32 (Go.bits .and .u8 (rd l0 0) 31)), (by first | rfl | (simp; done) | (simp [*]; done)), (by first | rfl | (simp; done) | (simp [*]; done)), H', ⟨by first | omega | exact Nat.le_refl _⟩, by repeat (first | exact Drawn0.refl _ | apply Drawn0.step)⟩
    ·rw [if_neg c5] at H
     have c5b0 : ((Go.bits .and .u8 (rd l0 0) 224) == 192) = false := beq_eq_false_iff_ne.mpr c5
     have c5b1 : ((Go.bits .and .u8 (rd l0 0) 224) != 192) = true := bne_iff_ne.mpr c5
     by_cases c6 : (Go.bits .and .u8 (rd l0 0) 240) = 224
     ·rw [if_pos c6] at H
      have c6b0 : ((Go.bits .and .u8 (rd l0 0) 240) == 224) = true := beq_iff_eq.mpr c6
      have c6b1 : ((Go.bits .and .u8 (rd l0 0) 240) != 224) = false := bne_eq_false_iff_eq.mpr c6
      clear c6
      have H' := Aside0.mk H
      clear H
      go_wp2
      go_meet
      case rel => exact ⟨_, (3), (wrap32 (Go.bits .and .u8 (rd l0 0) 15)), (by first | rfl | (simp; done) | (simp [*]; done)), (by first | rfl | (simp; done) | (simp [*]; done)), H', ⟨by first | omega | exact Nat.le_refl _⟩, by repeat (first | exact Drawn0.refl _ | apply Drawn0.step)⟩
     ·rw [if_neg c6] at H
      have c6b0 : ((Go.bits .and .u8 (rd l0 0) 240) == 224) = false := beq_eq_false_iff_ne.mpr c6
      have c6b1 : ((Go.bits .and .u8 (rd l0 0) 240) != 224) = true := bne_iff_ne.mpr c6
      by_cases c7 : (Go.bits .and .u8 (rd l0 0) 248) = 240
      ·rw [if_pos c7] at H
       have c7b0 : ((Go.bits .and .u8 (rd l0 0) 248) == 240) = true := beq_iff_eq.mpr c7
       have c7b1 : ((Go.bits .and .u8 (rd l0 0) 248) != 240) = false := bne_eq_false_iff_eq.mpr c7
       clear c7
       have H' := Aside0.mk H
       clear H
       go_wp2
       go_meet
       case rel => exact ⟨_, (4), (wrap32 (Go.bits .and .u8 (rd l0 0) 7)), (by first | rfl | (simp; done) | (simp [*]; done)), (by first | rfl | (simp; done) | (simp [*]; done)), H', ⟨by first | omega | exact Nat.le_refl _⟩, by repeat (first | exact Drawn0.refl _ | apply Drawn0.step)⟩
      ·rw [if_neg c7] at H
       have c7b0 : ((Go.bits .and .u8 (rd l0 0) 248) == 240) = false := beq_eq_false_iff_ne.mpr c7
       have c7b1 : ((Go.bits .and .u8 (rd l0 0) 248) != 240) = true := bne_iff_ne.mpr c7
       have H' := Aside0.mk H
       clear H
       go_wp2
       go_meet
       case rel => exact ⟨_, (0), (0), (by first | rfl | (simp; done) | (simp [*]; done)), (by first | rfl | (simp; done) | (simp [*]; done)), H', ⟨by first | omega | exact Nat.le_refl _⟩, by repeat (first | exact Drawn0.refl _ | apply Drawn0.step)⟩
  case rest =>
   clear HC3
   try clear c2
   try clear c2b0
   try clear c2b1
   try clear p2
   try clear q2
   try clear hx2
   try clear qi2
   try clear p3
   try clear c4
   try clear c4b0
   try clear c5
   try clear c5b0
   try clear c5b1
   try clear c6
   try clear c6b0
   try clear c6b1
   try clear c7
   try clear c7b0
   try clear c7b1
   try clear hx294_0
   try clear p294
   try clear q294
   obtain ⟨kq, x4_2, x5_2, rfl, rfl, HA, HJ2, ⟨mc2, rfl⟩⟩ := hcut
   cases kq with
   | zero => exact absurd HA.out (by simp [runes_first.j0])
   | succ kj2 =>
    have H := HA.out
    clear HA
    simp only [runes_first.j0] at H
    have HC8 := Aside0.mk H
    clear H
    go_upto_region 11 with (fail)
    go_cut [45] (fun v45 wc => ∃ (kq : Nat) (x45_7 : Bool), v45 = .bool x45_7 ∧ Aside0 (runes_first.j1 kq l0 x4_2 x5_2 x45_7 = some (r1, r2)) ∧ Aside0 (kq ≤ kj2) ∧ Drawn0 w wc)
    case first =>
     have H := HC8.out
     clear HC8
     by_cases c9 : x4_2 = 0
     ·rw [if_pos c9] at H
      have c9b0 : (x4_2 == 0) = true := beq_iff_eq.mpr c9
      have c9b1 : (x4_2 != 0) = false := bne_eq_false_iff_eq.mpr c9
      clear c9
      (first | rw [c9b0] | (simp only [i64_w, i32_w]; rw [c9b0]) | skip)
      have H' := Aside0.mk H
      clear H
      go_wp2
      go_meet
      case rel => exact ⟨_, (true), (by first | rfl | (simp; done) | (simp [*]; done)), H', ⟨by have := HJ2.out; first | omega | exact Nat.le_refl _⟩, by repeat (first | exact Drawn0.refl _ | apply Drawn0.step)⟩
     ·rw [if_neg c9] at H
      have c9b0 : (x4_2 == 0) = false := beq_eq_false_iff_ne.mpr c9
      have c9b1 : (x4_2 != 0) = true := bne_iff_ne.mpr c9
      (first | rw [c9b0] | (simp only [i64_w, i32_w]; rw [c9b0]) | skip)
      have H' := Aside0.mk H
      clear H
      go_wp2
      go_meet
      case rel => exact ⟨_, (decide ((l0.length : Int) < x4_2)), (by first | rfl | (simp; done) | (simp [*]; done)), H', ⟨by have := HJ2.out; first | omega | exact Nat.le_refl _⟩, by repeat (first | exact Drawn0.refl _ | apply Drawn0.step)⟩
    case rest =>
     clear HC8
     try clear c2
     try clear c2b0
     try clear c2b1
     try clear p2
     try clear q2
     try clear hx2
     try clear qi2
     try clear p3
     try clear c4
     try clear c4b0
     try clear c5
     try clear c5b0
     try clear c5b1
     try clear c6
     try clear c6b0
     try clear c6b1
     try clear c7
     try clear c7b0
     try clear c7b1
     try clear c9
     try clear c9b0
     try clear c9b1
     try clear hx294_0
     try clear p2
     try clear p294
     try clear p3
     try clear q2
     try clear q294
     obtain ⟨kq, x45_7, rfl, HA, HJ7, ⟨mc7, rfl⟩⟩ := hcut
     cases kq with
     | zero => exact absurd HA.out (by simp [runes_first.j1])
     | succ kj7 =>
      have H := HA.out
      clear HA
      simp only [runes_first.j1] at H
      by_cases c10 : x45_7 = true
      ·subst c10
       have H1 : (some (65533, 1)) = some (r1, r2) := by rw [if_pos rfl] at H; exact H
       clear H
       have H := H1
       clear H1
       simp only [Option.some.injEq, Prod.mk.injEq] at H
       obtain ⟨rfl, rfl⟩ := H
       go_wp2
       go_ret2
       exact ⟨by first | rfl | (simp; done) | (simp [*]; done), by repeat (first | exact Drawn0.refl _ | apply Drawn0.step)⟩
      ·replace c10 := Bool.eq_false_iff.mpr c10
       subst c10
       have H1 : (if 1 ≤ x4_2 then (if x4_2 ≤ (l0.length : Int) then ((some ((l0.take (x4_2 : Int).toNat).drop 1 : List Int)).bind fun y295 => (runes_first.l0 kj7 x4_2 x5_2 y295 (y295.length : Int) 0)) else (none)) else (none)) = some (r1, r2) := by rw [if_neg (show ¬ (false = true) by decide)] at H; exact H
       clear H
       have H := H1
       clear H1
       by_cases c11 : 1 ≤ x4_2
       ·rw [if_pos c11] at H
        have c11b0 := eq_true c11
        have c11b1 : decide (1 ≤ x4_2) = true := decide_eq_true c11
        clear c11
        by_cases c12 : x4_2 ≤ (l0.length : Int)
        ·rw [if_pos c12] at H
         have c12b0 := eq_true c12
         have c12b1 : decide (x4_2 ≤ (l0.length : Int)) = true := decide_eq_true c12
         clear c12
         obtain ⟨y295, hy295⟩ : ∃ y_ : List Int, y_ = ((l0.take (x4_2 : Int).toNat).drop 1) := ⟨_, rfl⟩
         replace H : (runes_first.l0 kj7 x4_2 x5_2 y295 (y295.length : Int) 0) = some (r1, r2) := by first | (rw [hy295]; with_reducible exact H) | (have H2_ := (Option.bind_some _ _).symm.trans H; rw [hy295]; with_reducible exact H2_) | (have H2_ := (Option.bind_some _ _).symm.trans H; with_reducible exact H2_) | with_reducible exact H | (rw [hy295]; exact H) | exact H
         have Ny295 := Aside0.mk hy295
         clear hy295
         have H' := Aside0.mk H
         clear H
         have q13 : (x4_2 : Int) ≤ ((l0.length : Int) : Int) := of_decide_eq_true (by first | (with_reducible assumption) | assumption)
         obtain ⟨i013, hi013, _, hsz13, _⟩ := info_parts info5
         have hroom13 : l0.length ≤ c0 := HC0.out
         have hC13 : Kd.C (Kd.int .u8) _ (some ad294) l0.length l0 := HR0.out
         have ql13 : (1 : Int) ≤ (x4_2 : Int) := of_decide_eq_true (by first | (with_reducible assumption) | assumption)
         have hcut13 := cut_mid (P := Tryd.prog) 22 5 .i64 .i64 Tryd.underlying22 hi013 1 hsz13 (some ad294) l0.length c0 1 x4_2 (by omega) ql13 q13 hroom13
         have hr13 := Kd.C_mid (lo := (1 : Int).toNat) (hi := (x4_2 : Int).toNat) (c := c0) hC13 (by omega) (by omega) hroom13
         obtain ⟨A13, hA13⟩ : ∃ A1, A1 = (if c0 = (1 : Int).toNat then (some ad294) else ((some ad294) : Option Addr).map (·.add ((1 : Int).toNat * 1))) := ⟨_, rfl⟩
         obtain ⟨c13, hc13⟩ : ∃ c1, c1 = c0 - (1 : Int).toNat := ⟨_, rfl⟩
         have hy13 : y295.length = (x4_2 : Int).toNat - (1 : Int).toNat := (by rw [Ny295.out, List.length_drop, List.length_take] <;> omega)
         rw [show ((l0).take (x4_2 : Int).toNat).drop (1 : Int).toNat = y295 from Ny295.out.symm] at hr13
         replace hr13 : Kd.C (Kd.int .u8) _ A13 y295.length y295 := (by rw [hA13]; exact hr13)
         rw [← hy13, ← hA13, ← hc13] at hcut13
         have HR298 := Aside0.mk hr13
         have HC298 := Aside0.mk (show y295.length ≤ c13 from by rw [hy13, hc13]; exact Nat.sub_le_sub_right (Nat.le_trans (by omega) hroom13) _)
         clear hr13 hC13 hroom13 hi013 hsz13 hc13
         have KY13 := Aside0.mk hy13
         have KA13 := Aside0.mk hA13
         clear hy13 hA13
         replace q13 := eq_true q13
         go_wp2
         go_loopg [5, 50] kj7 (fun kq v5 v50 w' => ∃ (x5_3 : Int) (x50_3 : Int), v5 = .int .i32 x5_3 ∧ v50 = .int .i64 x50_3 ∧ Aside0 (runes_first.l0 kq x4_2 x5_3 y295 (y295.length : Int) x50_3 = some (r1, r2)) ∧ Aside0 (kq ≤ kj7) ∧ Drawn0 w w')
         case atStart => exact ⟨(x5_2), (0), (by first | rfl | (simp; done) | (simp [*]; done)), (by first | rfl | (simp; done) | (simp [*]; done)), H', ⟨Nat.le_refl _⟩, by repeat (first | exact Drawn0.refl _ | apply Drawn0.step)⟩
         case round =>
          clear H'
          try clear c1
          try clear q1
          try clear c2
          try clear c2b0
          try clear c2b1
          try clear p2
          try clear q2
          try clear hx2
          try clear qi2
          try clear p3
          try clear c4
          try clear c4b0
          try clear c5
          try clear c5b0
          try clear c5b1
          try clear c6
          try clear c6b0
          try clear c6b1
          try clear c7
          try clear c7b0
          try clear c7b1
          try clear c9
          try clear c9b0
          try clear c9b1
          try clear c10
          try clear c11
          try clear c11b0
          try clear c11b1
          try clear c12
          try clear c12b0
          try clear c12b1
          try clear c13
          try clear q13
          try clear hx294_0
          try clear p2
          try clear p294
          try clear p3
          try clear q13
          try clear q2
          try clear q294
          obtain ⟨x5_3, x50_3, rfl, rfl, HA, HK3, ⟨m3, rfl⟩⟩ := hrel
          cases gk with
          | zero => exact absurd HA.out (by simp [runes_first.l0])
          | succ k3 =>
           have H := HA.out
           clear HA
           simp only [runes_first.l0] at H
           by_cases c14 : x50_3 < (y295.length : Int)
           ·rw [if_pos c14] at H
            have c14b0 : decide (x50_3 < (y295.length : Int)) = true := decide_eq_true c14
            clear c14
            by_cases c15 : 0 ≤ x50_3
            ·rw [if_pos c15] at H
             have c15b0 : decide (0 ≤ x50_3) = true := decide_eq_true c15
             clear c15
             by_cases c16 : x50_3 < (y295.length : Int)
             ·rw [if_pos c16] at H
              have c16b0 : decide (x50_3 < (y295.length : Int)) = true := decide_eq_true c16
              clear c16
              by_cases c17 : (Go.bits .and .u8 (rd y295 x50_3) 192) = 128
              ·rw [if_pos c17] at H
               have c17b0 : ((Go.bits .and .u8 (rd y295 x50_3) 192) == 128) = true := beq_iff_eq.mpr c17
               have c17b1 : ((Go.bits .and .u8 (rd y295 x50_3) 192) != 128) = false := bne_eq_false_iff_eq.mpr c17
               clear c17
               have H' := Aside0.mk H
               clear H
               have p299 : 0 ≤ (x50_3 : Int) := of_decide_eq_true (by first | (with_reducible assumption) | assumption)
               have q299 : x50_3 < (y295.length : Int) := of_decide_eq_true (by first | (with_reducible assumption) | assumption)
               obtain ⟨ad299, e299, hx299_0⟩ := Kd.at_int HR298.out x50_3 p299 q299
               cases e299
               replace p299 := eq_true p299
               replace q299 := eq_true q299
               go_wp2
               go_roundg k3
               case measure => have := HJ2.out; have := HJ7.out; have := HK3.out; omega
               case rel => exact ⟨(Go.bits .or .i32 (wrap32 (x5_3 * 64)) (wrap32 (Go.bits .and .u8 (rd y295 x50_3) 63))), (wrap64 (x50_3 + 1)), (by first | rfl | (simp; done) | (simp [*]; done)), (by first | rfl | (simp; done) | (simp [*]; done)), H', ⟨by have := HJ2.out; have := HJ7.out; have := HK3.out; omega⟩, by repeat (first | exact Drawn0.refl _ | apply Drawn0.step)⟩
              ·rw [if_neg c17] at H
               have c17b0 : ((Go.bits .and .u8 (rd y295 x50_3) 192) == 128) = false := beq_eq_false_iff_ne.mpr c17
               have c17b1 : ((Go.bits .and .u8 (rd y295 x50_3) 192) != 128) = true := bne_iff_ne.mpr c17
               simp only [Option.some.injEq, Prod.mk.injEq] at H
               obtain ⟨rfl, rfl⟩ := H
               have p299 : 0 ≤ (x50_3 : Int) := of_decide_eq_true (by first | (with_reducible assumption) | assumption)
               have q299 : x50_3 < (y295.length : Int) := of_decide_eq_true (by first | (with_reducible assumption) | assumption)
               obtain ⟨ad299, e299, hx299_0⟩ := Kd.at_int HR298.out x50_3 p299 q299
               cases e299
               replace p299 := eq_true p299
               replace q299 := eq_true q299
               go_wp2
               go_ret2
               exact ⟨by first | rfl | (simp; done) | (simp [*]; done), by repeat (first | exact Drawn0.refl _ | apply Drawn0.step)⟩
             ·rw [if_neg c16] at H
              exact absurd H (by simp)
            ·rw [if_neg c15] at H
             exact absurd H (by simp)
           ·rw [if_neg c14] at H
            have c14b0 : decide (x50_3 < (y295.length : Int)) = false := decide_eq_false c14
            clear c14
            replace H := Option.bind_eq_some_iff.mp H
            obtain ⟨t300, A180, H⟩ := H
            replace H : (if t300 = true then ((runes_size.f x5_3).bind fun t301 => (if t301 = x4_2 then (some (x5_3, x4_2)) else (some (65533, 1)))) else (some (65533, 1))) = some (r1, r2) := H
            have A18 := Aside0.mk A180
            clear A180
            by_cases c19 : t300 = true
            ·subst c19
             have H1 : ((runes_size.f x5_3).bind fun t301 => (if t301 = x4_2 then (some (x5_3, x4_2)) else (some (65533, 1)))) = some (r1, r2) := by rw [if_pos rfl] at H; exact H
             clear H
             have H := H1
             clear H1
             replace H := Option.bind_eq_some_iff.mp H
             obtain ⟨t301, A200, H⟩ := H
             replace H : (if t301 = x4_2 then (some (x5_3, x4_2)) else (some (65533, 1))) = some (r1, r2) := H
             have A20 := Aside0.mk A200
             clear A200
             by_cases c21 : t301 = x4_2
             ·rw [if_pos c21] at H
              have c21b0 : (t301 == x4_2) = true := beq_iff_eq.mpr c21
              have c21b1 : (t301 != x4_2) = false := bne_eq_false_iff_eq.mpr c21
              clear c21
              simp only [Option.some.injEq, Prod.mk.injEq] at H
              obtain ⟨rfl, rfl⟩ := H
              go_wp2_with (first | ((with_reducible refine gate_callee (f := 68) rfl ?_); refine goesL_ (some 65) rfl rfl Tryd.func68 (by kernel_rfl) rfl #[.int .i32 x5_3] rfl (by (try simp only [List.map_toArray, List.map_cons, List.map_nil]); first | done | rfl | (simp only [List.length_drop, List.length_take]; rfl)) ?_; (with_reducible refine (runes_Valid.calls x5_3 true _ A18.out).mono ?_); rintro e w' ⟨rfl, ⟨nd, rfl⟩⟩; refine ⟨_, rfl, ?_⟩) | (go_at_call 80; (with_reducible refine (runes_size.calls x5_3 t301 _ A20.out).mono ?_); rintro e w' ⟨rfl, ⟨nd, rfl⟩⟩))
              go_ret2
              exact ⟨by first | rfl | (simp; done) | (simp [*]; done), by repeat (first | exact Drawn0.refl _ | apply Drawn0.step)⟩
             ·rw [if_neg c21] at H
              have c21b0 : (t301 == x4_2) = false := beq_eq_false_iff_ne.mpr c21
              have c21b1 : (t301 != x4_2) = true := bne_iff_ne.mpr c21
              simp only [Option.some.injEq, Prod.mk.injEq] at H
              obtain ⟨rfl, rfl⟩ := H
              go_wp2_with (first | ((with_reducible refine gate_callee (f := 68) rfl ?_); refine goesL_ (some 65) rfl rfl Tryd.func68 (by kernel_rfl) rfl #[.int .i32 x5_3] rfl (by (try simp only [List.map_toArray, List.map_cons, List.map_nil]); first | done | rfl | (simp only [List.length_drop, List.length_take]; rfl)) ?_; (with_reducible refine (runes_Valid.calls x5_3 true _ A18.out).mono ?_); rintro e w' ⟨rfl, ⟨nd, rfl⟩⟩; refine ⟨_, rfl, ?_⟩) | (go_at_call 80; (with_reducible refine (runes_size.calls x5_3 t301 _ A20.out).mono ?_); rintro e w' ⟨rfl, ⟨nd, rfl⟩⟩))
              go_ret2
              exact ⟨by first | rfl | (simp; done) | (simp [*]; done), by repeat (first | exact Drawn0.refl _ | apply Drawn0.step)⟩
            ·replace c19 := Bool.eq_false_iff.mpr c19
             subst c19
             have H1 : (some (65533, 1)) = some (r1, r2) := by rw [if_neg (show ¬ (false = true) by decide)] at H; exact H
             clear H
             have H := H1
             clear H1
             simp only [Option.some.injEq, Prod.mk.injEq] at H
             obtain ⟨rfl, rfl⟩ := H
             go_wp2_with (first | ((with_reducible refine gate_callee (f := 68) rfl ?_); refine goesL_ (some 65) rfl rfl Tryd.func68 (by kernel_rfl) rfl #[.int .i32 x5_3] rfl (by (try simp only [List.map_toArray, List.map_cons, List.map_nil]); first | done | rfl | (simp only [List.length_drop, List.length_take]; rfl)) ?_; (with_reducible refine (runes_Valid.calls x5_3 false _ A18.out).mono ?_); rintro e w' ⟨rfl, ⟨nd, rfl⟩⟩; refine ⟨_, rfl, ?_⟩))
             go_ret2
             exact ⟨by first | rfl | (simp; done) | (simp [*]; done), by repeat (first | exact Drawn0.refl _ | apply Drawn0.step)⟩
        ·rw [if_neg c12] at H
         exact absurd H (by simp)
       ·rw [if_neg c11] at H
        exact absurd H (by simp)
 ·rw [if_neg c2] at H
  exact absurd H (by simp)

/-! ### runes_Decode: function 64 -/
def runes_Decode.l0 : Nat → List Int → List Int → Option (List Int)
 | 0, _, _ => none
 | k + 1, x0, x3 => if (x0.length : Int) > 0 then ((runes_first.f k x0).bind fun bt302 => (if x3.length < 35184372088832 then (if 0 ≤ bt302.2 then (if bt302.2 ≤ (x0.length : Int) then (runes_Decode.l0 k (x0.drop (bt302.2 : Int).toNat) (x3 ++ [bt302.1])) else (none)) else (none)) else (none))) else (some x3)
def runes_Decode.f (k : Nat) (l0 : List Int) : Option (List Int) := runes_Decode.l0 k l0 ([] : List Int)
theorem runes_Decode.mono_l : ∀ k, (∀ y0 y1, LeO (runes_Decode.l0 k y0 y1) (runes_Decode.l0 (k + 1) y0 y1))
 | 0 => fun _ _ r h => by simp [runes_Decode.l0] at h
 | k + 1 => by
  have ih0 := runes_Decode.mono_l k
  ·intro y0 y1
   unfold runes_Decode.l0
   repeat' first
   | (with_reducible exact ih0 _ _)
   | (with_reducible exact runes_first.mono _ _)
   | (with_reducible exact LeO.refl _)
   | (with_reducible exact LeO.none _)
   | (with_reducible refine LeO.ite ?_ ?_)
   | (with_reducible refine LeO.bind ?_ (fun _ => ?_))
theorem runes_Decode.mono : ∀ a0 k, LeO (runes_Decode.f k a0) (runes_Decode.f (k + 1) a0) := by
 intro a0 k
 have ih0 := runes_Decode.mono_l k
 unfold runes_Decode.f
 repeat' first
   | (with_reducible exact ih0 _ _)
   | (with_reducible exact runes_first.mono _ _)
   | (with_reducible exact LeO.refl _)
   | (with_reducible exact LeO.none _)
   | (with_reducible refine LeO.ite ?_ ?_)
   | (with_reducible refine LeO.bind ?_ (fun _ => ?_))
theorem runes_Decode.calls (k : Nat) (P0_ : Nat → Prop) (A0 : Option Addr) (c0 : Nat) (l0 : List Int) (r : List Int) (w : World) (hs0 : Kd.V (Kd.int .u8) 5 w w.heap.size (fun k_ => P0_ k_) (.slice A0 l0.length c0) l0) (h : runes_Decode.f k l0 = some r) :
  Calls Tryd.prog 64 #[.slice A0 l0.length c0] w fun e w' => ∃ v0_ : Value, e = .returned (v0_) ∧ Kd.R (Kd.int .i32) 21 w' w.heap.size (fun k_ => (w.heap.size ≤ k_)) v0_ r ∧ Below w.heap.size w w' := by
 have HO0 := Aside0.mk (show Kd.V (Kd.int .u8) 5 w w.heap.size (fun k_ => (P0_ k_ ∨ w.heap.size ≤ k_)) (.slice A0 l0.length c0) l0 from Kd.V_mono hs0 (fun k_ hk => .inl hk))
 have HB := Aside0.mk (Below.refl w.heap.size w)
 have H : (runes_Decode.l0 k l0 ([] : List Int)) = some r := h
 clear h
 have H' := Aside0.mk H
 clear H
 go_enter Tryd.func64, Tryd.ntmps64
 go_wp2
 go_loopg [0, 3] k (fun kq v0 v3 w' => ∃ (x0_1 : List Int) (x3_1 : List Int), Aside0 (runes_Decode.l0 kq x0_1 x3_1 = some r) ∧ Aside0 (kq ≤ k) ∧ Aside0 (Kd.V (Kd.int .u8) 5 w' w.heap.size (fun k_ => (P0_ k_ ∨ w.heap.size ≤ k_) ∧ some k_ ≠ (v3 : Value).ownBlock) v0 x0_1) ∧ Aside0 (Kd.R (Kd.int .i32) 21 w' w.heap.size (fun k_ => (w.heap.size ≤ k_)) v3 x3_1) ∧ Aside0 (Below w.heap.size w w'))
 case atStart => exact ⟨(l0), (([] : List Int)), H', ⟨Nat.le_refl _⟩, ⟨by (with_reducible repeat (first | apply Kd.V_alloc | apply Kd.V_drewN | apply Kd.V_drew)); exact Kd.V_mono HO0.out (fun _ hk => ⟨hk, (by simp [Value.ownBlock])⟩)⟩, ⟨by first | exact Kd.R_nil _ _ _ _ _ | exact Kd.N_nil _ _ _ _ _ | exact Kd.V_nil _ _ _ _ _ | exact Kd.Q_nil _ _ _ _ _ | exact Kd.S_nil _ _ _ _ _⟩, ⟨by repeat (first | (with_reducible first | exact HB.out | apply below_alloc | apply pw_below_drewN | apply below_drew1) | exact HB.out)⟩⟩
 case round =>
  clear H'
  obtain ⟨x0_1, x3_1, HA, HK1, HO_0, HO_3, HB⟩ := hrel
  cases gk with
  | zero => exact absurd HA.out (by simp [runes_Decode.l0])
  | succ k1 =>
   have H := HA.out
   clear HA
   simp only [runes_Decode.l0] at H
   by_cases c2 : (x0_1.length : Int) > 0
   ·rw [if_pos c2] at H
    have c2b0 : decide (0 < (x0_1.length : Int)) = true := decide_eq_true c2
    have c2b1 : decide (0 < x0_1.length) = true := decide_eq_true (by omega)
    clear c2
    replace H := Option.bind_eq_some_iff.mp H
    obtain ⟨⟨t302, t303⟩, A30, H⟩ := H
    replace H : (if x3_1.length < 35184372088832 then (if 0 ≤ t303 then (if t303 ≤ (x0_1.length : Int) then (runes_Decode.l0 k1 (x0_1.drop (t303 : Int).toNat) (x3_1 ++ [t302])) else (none)) else (none)) else (none)) = some r := H
    have A3 := Aside0.mk A30
    clear A30
    by_cases c4 : x3_1.length < 35184372088832
    ·rw [if_pos c4] at H
     have LMc4 := Aside0.mk c4
     clear c4
     obtain ⟨y304, hy304⟩ : ∃ y_ : List Int, y_ = (x3_1 ++ [t302]) := ⟨_, rfl⟩
     replace H : (if 0 ≤ t303 then (if t303 ≤ (x0_1.length : Int) then (runes_Decode.l0 k1 (x0_1.drop (t303 : Int).toNat) y304) else (none)) else (none)) = some r := by first | (rw [hy304]; with_reducible exact H) | (have H2_ := (Option.bind_some _ _).symm.trans H; rw [hy304]; with_reducible exact H2_) | (have H2_ := (Option.bind_some _ _).symm.trans H; with_reducible exact H2_) | with_reducible exact H | (rw [hy304]; exact H) | exact H
     have Ny304 := Aside0.mk hy304
     clear hy304
     by_cases c5 : 0 ≤ t303
     ·rw [if_pos c5] at H
      have c5b0 := eq_true c5
      have c5b1 : decide (0 ≤ t303) = true := decide_eq_true c5
      clear c5
      by_cases c6 : t303 ≤ (x0_1.length : Int)
      ·rw [if_pos c6] at H
       have c6b0 := eq_true c6
       have c6b1 : decide (t303 ≤ (x0_1.length : Int)) = true := decide_eq_true c6
       clear c6
       obtain ⟨y307, hy307⟩ : ∃ y_ : List Int, y_ = (x0_1.drop (t303 : Int).toNat) := ⟨_, rfl⟩
       replace H : (runes_Decode.l0 k1 y307 y304) = some r := by first | (rw [hy307]; with_reducible exact H) | (have H2_ := (Option.bind_some _ _).symm.trans H; rw [hy307]; with_reducible exact H2_) | (have H2_ := (Option.bind_some _ _).symm.trans H; with_reducible exact H2_) | with_reducible exact H | (rw [hy307]; exact H) | exact H
       have Ny307 := Aside0.mk hy307
       clear hy307
       have H' := Aside0.mk H
       clear H
       obtain ⟨Ao7, co7, eo7⟩ := Kd.V_slice HO_0.out
       subst eo7
       go_wp2_with (first | ((with_reducible refine gate_callee (f := 76) rfl ?_); refine goesL_ (some 11) rfl rfl Tryd.func76 (by kernel_rfl) rfl #[.slice Ao7 x0_1.length co7] rfl (by (try simp only [List.map_toArray, List.map_cons, List.map_nil]); first | done | rfl | (simp only [List.length_drop, List.length_take]; rfl)) ?_; (with_reducible refine (runes_first.calls k1 _ _ x0_1 t302 t303 _ ?side1 ?side2 A3.out).mono ?_); (case side1 => repeat (first | exact (Kd.V_reads' HO_0.out).2.2 | (with_reducible refine Kd.C_alloc ?_ _) | (with_reducible refine Kd.C_drewN ?_ _) | (with_reducible refine Kd.C_drew ?_))); (case side2 => exact (Kd.V_reads' HO_0.out).2.1); rintro e w' ⟨rfl, ⟨nd, rfl⟩⟩; refine ⟨_, rfl, ?_⟩) | ((with_reducible refine gate_builtin (b := .append) (xs := #[.tmp 14, .tmp 16]) rfl ?_); at_builtin; refine Kd.R_append (Kd.int .i32) (w0 := w) w.heap.size rfl (.tmp 14) (.tmp 16) 72 21 (.int .i32 0) 4 rfl Tryd.underlying72 info21 rfl (by decide) (by omega) u3 x3_1 t302 [.int .i32 t302] (fun k_ => (w.heap.size ≤ k_)) (fun _ => False) rfl rfl ?aP (fun _ hk => hk.elim) ?aF ?aO ?aB ?aS ?aL ?_; (case aP => exact rfl); (case aB => exact (by repeat (first | (with_reducible first | exact HB.out | apply below_alloc | apply pw_below_drewN | apply below_drew1) | exact HB.out))); (case aF => exact (fun k_ hk => (Nat.le_trans (below_size (by repeat (first | (with_reducible first | exact HB.out | apply below_alloc | apply pw_below_drewN | apply below_drew1) | exact HB.out))) hk))); (case aO => exact (by (with_reducible repeat (first | apply Kd.R_alloc | apply Kd.R_drewN | apply Kd.R_drew)); exact HO_3.out)); (case aS => exact (below_size (by repeat (first | (with_reducible first | exact HB.out | apply below_alloc | apply pw_below_drewN | apply below_drew1) | exact HB.out)))); (case aL => have := LMc4.out; omega); intro v305 w8 ho hb hg hat; rw [← Ny304.out] at ho; have n0_ := Aside0.mk (Kd.V_afterv (ok := (fun k_ => (P0_ k_ ∨ w.heap.size ≤ k_))) (by (with_reducible repeat (first | apply Kd.V_alloc | apply Kd.V_drewN | apply Kd.V_drew)); exact HO_0.out) hg hat); have n1_ := Aside0.mk (hb); have n2_ := Aside0.mk (ho); clear HO_0; clear HB; clear HO_3; have HO_0 := n0_; have HB := n1_; have HO306 := n2_; clear n0_ n1_ n2_; clear ho hb hg hat; have q9 : (t303 : Int) ≤ ((x0_1.length : Int) : Int) := of_decide_eq_true (by first | (with_reducible assumption) | assumption); obtain ⟨i09, hi09, _, hsz9, _⟩ := info_parts info5; have hroom9 : x0_1.length ≤ co7 := (Kd.V_reads' HO_0.out).2.1; have hC9 : Kd.F (Kd.int .u8) _ _ Ao7 x0_1.length x0_1 := (Kd.V_at (base := w.heap.size) HO_0.out).2.2; have q09 : (0 : Int) ≤ (t303 : Int) := of_decide_eq_true (by first | (with_reducible assumption) | assumption); have hcut9 := cut_from (P := Tryd.prog) 22 5 .i64 Tryd.underlying22 hi09 1 hsz9 Ao7 x0_1.length co7 t303 q09 q9; have hr9 := Kd.F_cut (m := (t303 : Int).toNat) (c := co7) hC9 (by omega) hroom9; obtain ⟨A9, hA9⟩ : ∃ A1, A1 = (if co7 = (t303 : Int).toNat then Ao7 else (Ao7 : Option Addr).map (·.add ((t303 : Int).toNat * 1))) := ⟨_, rfl⟩; obtain ⟨c9, hc9⟩ : ∃ c1, c1 = co7 - (t303 : Int).toNat := ⟨_, rfl⟩; have hy9 : y307.length = x0_1.length - (t303 : Int).toNat := (by rw [Ny307.out, List.length_drop] <;> omega); rw [show (x0_1).drop (t303 : Int).toNat = y307 from Ny307.out.symm] at hr9; replace hr9 : Kd.F (Kd.int .u8) _ _ A9 y307.length y307 := (by rw [hA9]; exact hr9); rw [← hy9, ← hA9, ← hc9] at hcut9; have HO311 := Aside0.mk (show Kd.V (Kd.int .u8) 5 _ w.heap.size _ (.slice A9 y307.length c9) y307 from Kd.V_mk (by rw [hy9, hc9]; exact Nat.sub_le_sub_right hroom9 _) hr9); have HC311 := Aside0.mk (show y307.length ≤ c9 from by rw [hy9, hc9]; exact Nat.sub_le_sub_right hroom9 _); clear hr9 hC9 hroom9 hi09 hsz9 hc9; have KY9 := Aside0.mk hy9; have KA9 := Aside0.mk hA9; clear hy9 hA9; replace q9 := eq_true q9))
       go_roundg k1
       case measure => have := HK1.out; omega
       case rel => exact ⟨(y307), (y304), H', ⟨by have := HK1.out; omega⟩, ⟨by (with_reducible repeat (first | apply Kd.V_alloc | apply Kd.V_drewN | apply Kd.V_drew)); exact HO311.out⟩, ⟨by (with_reducible repeat (first | apply Kd.R_alloc | apply Kd.R_drewN | apply Kd.R_drew)); exact HO306.out⟩, ⟨by repeat (first | (with_reducible first | exact HB.out | apply below_alloc | apply pw_below_drewN | apply below_drew1) | exact HB.out)⟩⟩
      ·rw [if_neg c6] at H
       exact absurd H (by simp)
     ·rw [if_neg c5] at H
      exact absurd H (by simp)
    ·rw [if_neg c4] at H
     exact absurd H (by simp)
   ·rw [if_neg c2] at H
    have c2b0 : decide (0 < (x0_1.length : Int)) = false := decide_eq_false c2
    have c2b1 : decide (0 < x0_1.length) = false := decide_eq_false (by omega)
    clear c2
    obtain rfl := Option.some.inj H
    obtain ⟨Ao10, co10, eo10⟩ := Kd.V_slice HO_0.out
    subst eo10
    go_wp2
    go_ret
    exact ⟨_, by first | rfl | (simp [errW_none, errW_some] <;> rfl) | (simp [*, errW_none, errW_some] <;> rfl), by (with_reducible repeat (first | apply Kd.R_alloc | apply Kd.R_drewN | apply Kd.R_drew)); exact HO_3.out, by repeat (first | (with_reducible first | exact HB.out | apply below_alloc | apply pw_below_drewN | apply below_drew1) | exact HB.out)⟩

/-! ### api_Glyph_77: function 77 -/
def api_Glyph_77.l0 : Nat → List (S44) → List (S44) → Int → Int → Option (Bool)
 | 0, _, _, _, _ => none
 | k + 1, x0, x1, x12, x13 => if x13 < x12 then (if 0 ≤ x13 then (if x13 < (x0.length : Int) then (if x13 < (x1.length : Int) then (if (!(((rd_T44 x0 x13).f0) == ((rd_T44 x1 x13).f0)) || (!(((rd_T44 x0 x13).f1) == ((rd_T44 x1 x13).f1)))) = true then (some false) else (api_Glyph_77.l0 k x0 x1 x12 (wrap64 (x13 + 1)))) else (none)) else (none)) else (none)) else (some true)
def api_Glyph_77.f (k : Nat) (l0 : List (S44)) (l1 : List (S44)) : Option (Bool) := if (l0.length : Int) = (l1.length : Int) then (api_Glyph_77.l0 k l0 l1 (l0.length : Int) 0) else (some false)
theorem api_Glyph_77.mono_l : ∀ k, (∀ y0 y1 y2 y3, LeO (api_Glyph_77.l0 k y0 y1 y2 y3) (api_Glyph_77.l0 (k + 1) y0 y1 y2 y3))
 | 0 => fun _ _ _ _ r h => by simp [api_Glyph_77.l0] at h
 | k + 1 => by
  have ih0 := api_Glyph_77.mono_l k
  ·intro y0 y1 y2 y3
   unfold api_Glyph_77.l0
   repeat' first
   | (with_reducible exact ih0 _ _ _ _)
   | (with_reducible exact LeO.refl _)
   | (with_reducible exact LeO.none _)
   | (with_reducible refine LeO.ite ?_ ?_)
   | (with_reducible refine LeO.bind ?_ (fun _ => ?_))
theorem api_Glyph_77.mono : ∀ a0 a1 k, LeO (api_Glyph_77.f k a0 a1) (api_Glyph_77.f (k + 1) a0 a1) := by
 intro a0 a1 k
 have ih0 := api_Glyph_77.mono_l k
 unfold api_Glyph_77.f
 repeat' first
   | (with_reducible exact ih0 _ _ _ _)
   | (with_reducible exact LeO.refl _)
   | (with_reducible exact LeO.none _)
   | (with_reducible refine LeO.ite ?_ ?_)
   | (with_reducible refine LeO.bind ?_ (fun _ => ?_))
theorem api_Glyph_77.calls (k : Nat) (A0 : Option Addr) (c0 : Nat) (l0 : List (S44)) (A1 : Option Addr) (c1 : Nat) (l1 : List (S44)) (r : Bool) (w : World) (hr0 : Kd.C k44 w A0 l0.length l0) (hc0 : l0.length ≤ c0) (hr1 : Kd.C k44 w A1 l1.length l1) (hc1 : l1.length ≤ c1) (h : api_Glyph_77.f k l0 l1 = some r) :
  Calls Tryd.prog 77 #[.slice A0 l0.length c0, .slice A1 l1.length c1] w fun e w' => e = .returned (.bool r) ∧ Drawn0 w w' := by
 have hu44 := Tryd.underlying44
 have HR0 := Aside0.mk hr0
 have HC0 := Aside0.mk hc0
 clear hr0 hc0
 have HR1 := Aside0.mk hr1
 have HC1 := Aside0.mk hc1
 clear hr1 hc1
 have H : (if (l0.length : Int) = (l1.length : Int) then (api_Glyph_77.l0 k l0 l1 (l0.length : Int) 0) else (some false)) = some r := h
 clear h
 by_cases c3 : (l0.length : Int) = (l1.length : Int)
 ·rw [if_pos c3] at H
  have c3b0 : ((l0.length : Int) == (l1.length : Int)) = true := beq_iff_eq.mpr c3
  have c3b1 : ((l0.length : Int) != (l1.length : Int)) = false := bne_eq_false_iff_eq.mpr c3
  have c3b2 : (l0.length == l1.length) = true := by first | simpa using c3 | (simp at c3 ⊢; omega)
  clear c3
  have H' := Aside0.mk H
  clear H
  go_enter Tryd.func77, Tryd.ntmps77
  go_wp2
  repeat (go_quiet (fail); try go_wp2)
  go_loopg [13] k (fun kq v13 w' => ∃ (x13_1 : Int), v13 = .int .i64 x13_1 ∧ Aside0 (api_Glyph_77.l0 kq l0 l1 (l0.length : Int) x13_1 = some r) ∧ Aside0 (kq ≤ k) ∧ Drawn0 w w')
  case atStart => exact ⟨(0), (by first | rfl | (simp; done) | (simp [*]; done)), H', ⟨Nat.le_refl _⟩, by repeat (first | exact Drawn0.refl _ | apply Drawn0.step)⟩
  case round =>
   clear H'
   try clear c1
   try clear p2
   try clear c3
   try clear c3b0
   try clear c3b1
   try clear c3b2
   obtain ⟨x13_1, rfl, HA, HK1, ⟨m1, rfl⟩⟩ := hrel
   cases gk with
   | zero => exact absurd HA.out (by simp [api_Glyph_77.l0])
   | succ k1 =>
    have H := HA.out
    clear HA
    simp only [api_Glyph_77.l0] at H
    by_cases c4 : x13_1 < (l0.length : Int)
    ·rw [if_pos c4] at H
     have c4b0 : decide (x13_1 < (l0.length : Int)) = true := decide_eq_true c4
     clear c4
     by_cases c5 : 0 ≤ x13_1
     ·rw [if_pos c5] at H
      have c5b0 : decide (0 ≤ x13_1) = true := decide_eq_true c5
      clear c5
      by_cases c6 : x13_1 < (l0.length : Int)
      ·rw [if_pos c6] at H
       have c6b0 : decide (x13_1 < (l0.length : Int)) = true := decide_eq_true c6
       clear c6
       by_cases c7 : x13_1 < (l1.length : Int)
       ·rw [if_pos c7] at H
        have c7b0 : decide (x13_1 < (l1.length : Int)) = true := decide_eq_true c7
        clear c7
        by_cases c8 : (!(((rd_T44 l0 x13_1).f0) == ((rd_T44 l1 x13_1).f0)) || (!(((rd_T44 l0 x13_1).f1) == ((rd_T44 l1 x13_1).f1)))) = true
        ·rw [if_pos c8] at H
         have c8b0 : (!(((rd_T44 l0 x13_1).f0) == ((rd_T44 l1 x13_1).f0)) || (!(((rd_T44 l0 x13_1).f1) == ((rd_T44 l1 x13_1).f1)))) = true := c8
         clear c8
         obtain rfl := Option.some.inj H
         have p312 : 0 ≤ (x13_1 : Int) := of_decide_eq_true (by first | (with_reducible assumption) | assumption)
         have q312 : x13_1 < (l0.length : Int) := of_decide_eq_true (by first | (with_reducible assumption) | assumption)
         obtain ⟨ad312, e312, hx312_0, hx312_1⟩ := at_T44 HR0.out x13_1 p312 q312
         cases e312
         replace p312 := eq_true p312
         replace q312 := eq_true q312
         have p313 : 0 ≤ (x13_1 : Int) := of_decide_eq_true (by first | (with_reducible assumption) | assumption)
         have q313 : x13_1 < (l1.length : Int) := of_decide_eq_true (by first | (with_reducible assumption) | assumption)
         obtain ⟨ad313, e313, hx313_0, hx313_1⟩ := at_T44 HR1.out x13_1 p313 q313
         cases e313
         replace p313 := eq_true p313
         replace q313 := eq_true q313
         go_wp2
         repeat (go_quiet (fail); try go_wp2)
         go_ret
         exact ⟨by first | rfl | (simp; done) | (simp [*]; done), by repeat (first | exact Drawn0.refl _ | apply Drawn0.step)⟩
        ·rw [if_neg c8] at H
         have c8b0 : (!(((rd_T44 l0 x13_1).f0) == ((rd_T44 l1 x13_1).f0)) || (!(((rd_T44 l0 x13_1).f1) == ((rd_T44 l1 x13_1).f1)))) = false := by simpa using c8
         clear c8
         have H' := Aside0.mk H
         clear H
         have p312 : 0 ≤ (x13_1 : Int) := of_decide_eq_true (by first | (with_reducible assumption) | assumption)
         have q312 : x13_1 < (l0.length : Int) := of_decide_eq_true (by first | (with_reducible assumption) | assumption)
         obtain ⟨ad312, e312, hx312_0, hx312_1⟩ := at_T44 HR0.out x13_1 p312 q312
         cases e312
         replace p312 := eq_true p312
         replace q312 := eq_true q312
         have p313 : 0 ≤ (x13_1 : Int) := of_decide_eq_true (by first | (with_reducible assumption) | assumption)
         have q313 : x13_1 < (l1.length : Int) := of_decide_eq_true (by first | (with_reducible assumption) | assumption)
         obtain ⟨ad313, e313, hx313_0, hx313_1⟩ := at_T44 HR1.out x13_1 p313 q313
         cases e313
         replace p313 := eq_true p313
         replace q313 := eq_true q313
         go_wp2
         repeat (go_quiet (fail); try go_wp2)
         go_roundg k1
         case measure => have := HK1.out; omega
         case rel => exact ⟨(wrap64 (x13_1 + 1)), (by first | rfl | (simp; done) | (simp [*]; done)), H', ⟨by have := HK1.out; omega⟩, by repeat (first | exact Drawn0.refl _ | apply Drawn0.step)⟩
       ·rw [if_neg c7] at H
        exact absurd H (by simp)
      ·rw [if_neg c6] at H
       exact absurd H (by simp)
     ·rw [if_neg c5] at H
      exact absurd H (by simp)
    ·rw [if_neg c4] at H
     have c4b0 : decide (x13_1 < (l0.length : Int)) = false := decide_eq_false c4
     clear c4
     obtain rfl := Option.some.inj H
     go_wp2
     repeat (go_quiet (fail); try go_wp2)
     go_ret
     exact ⟨by first | rfl | (simp; done) | (simp [*]; done), by repeat (first | exact Drawn0.refl _ | apply Drawn0.step)⟩
 ·rw [if_neg c3] at H
  have c3b0 : ((l0.length : Int) == (l1.length : Int)) = false := beq_eq_false_iff_ne.mpr c3
  have c3b1 : ((l0.length : Int) != (l1.length : Int)) = true := bne_iff_ne.mpr c3
  have c3b2 : (l0.length == l1.length) = false := by first | simpa using c3 | (simp at c3 ⊢; omega)
  obtain rfl := Option.some.inj H
  go_enter Tryd.func77, Tryd.ntmps77
  go_wp2
  repeat (go_quiet (fail); try go_wp2)
  go_ret
  exact ⟨by first | rfl | (simp; done) | (simp [*]; done), by repeat (first | exact Drawn0.refl _ | apply Drawn0.step)⟩

/-! ### cells_Same: function 65 -/
def cells_Same.f (k : Nat) (l0 : List (S44)) (l1 : List (S44)) : Option (Bool) := (api_Glyph_77.f k l0 l1).bind fun t314 => (some t314)
theorem cells_Same.mono : ∀ a0 a1 k, LeO (cells_Same.f k a0 a1) (cells_Same.f (k + 1) a0 a1) := by
 intro a0 a1 k
 unfold cells_Same.f
 repeat' first
   | (with_reducible exact api_Glyph_77.mono _ _ _)
   | (with_reducible exact LeO.refl _)
   | (with_reducible exact LeO.none _)
   | (with_reducible refine LeO.ite ?_ ?_)
   | (with_reducible refine LeO.bind ?_ (fun _ => ?_))
theorem cells_Same.calls (k : Nat) (A0 : Option Addr) (c0 : Nat) (l0 : List (S44)) (A1 : Option Addr) (c1 : Nat) (l1 : List (S44)) (r : Bool) (w : World) (hr0 : Kd.C k44 w A0 l0.length l0) (hc0 : l0.length ≤ c0) (hr1 : Kd.C k44 w A1 l1.length l1) (hc1 : l1.length ≤ c1) (h : cells_Same.f k l0 l1 = some r) :
  Calls Tryd.prog 65 #[.slice A0 l0.length c0, .slice A1 l1.length c1] w fun e w' => e = .returned (.bool r) ∧ Drawn0 w w' := by
 have HR0 := Aside0.mk hr0
 have HC0 := Aside0.mk hc0
 clear hr0 hc0
 have HR1 := Aside0.mk hr1
 have HC1 := Aside0.mk hc1
 clear hr1 hc1
 have H : ((api_Glyph_77.f k l0 l1).bind fun t314 => (some t314)) = some r := h
 clear h
 replace H := Option.bind_eq_some_iff.mp H
 obtain ⟨t314, A30, H⟩ := H
 replace H : (some t314) = some r := H
 have A3 := Aside0.mk A30
 clear A30
 obtain rfl := Option.some.inj H
 go_enter Tryd.func65, Tryd.ntmps65
 go_wp2_with (first | ((with_reducible refine gate_callee (f := 77) rfl ?_); refine goesL_ (some 7) rfl rfl Tryd.func77 (by kernel_rfl) rfl #[.slice A0 l0.length c0, .slice A1 l1.length c1] rfl (by (try simp only [List.map_toArray, List.map_cons, List.map_nil]); first | done | rfl | (simp only [List.length_drop, List.length_take]; rfl)) ?_; (with_reducible refine (api_Glyph_77.calls k _ _ l0 _ _ l1 t314 _ ?side1 ?side2 ?side3 ?side4 A3.out).mono ?_); (case side1 => repeat (first | exact HR0.out | (with_reducible refine Kd.C_alloc ?_ _) | (with_reducible refine Kd.C_drewN ?_ _) | (with_reducible refine Kd.C_drew ?_))); (case side2 => exact HC0.out); (case side3 => repeat (first | exact HR1.out | (with_reducible refine Kd.C_alloc ?_ _) | (with_reducible refine Kd.C_drewN ?_ _) | (with_reducible refine Kd.C_drew ?_))); (case side4 => exact HC1.out); rintro e w' ⟨rfl, ⟨nd, rfl⟩⟩; refine ⟨_, rfl, ?_⟩))
 go_ret
 exact ⟨by first | rfl | (simp; done) | (simp [*]; done), by repeat (first | exact Drawn0.refl _ | apply Drawn0.step)⟩

end Go.Proofs.YtdjepocklmlnbaaDoor.X
