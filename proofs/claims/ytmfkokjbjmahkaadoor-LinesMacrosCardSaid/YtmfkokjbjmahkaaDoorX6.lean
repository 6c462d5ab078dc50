-- Written by this session's xprint.py (a variant of the kit's printer). Not trusted: Lean checks it.
import Derived.Test.YtmfkokjbjmahkaaDoorX0
import Derived.Test.YtmfkokjbjmahkaaDoorSlim
import Derived.Test.YtmfkokjbjmahkaaDoorX2
import Derived.Test.YtmfkokjbjmahkaaDoorX3
import Derived.Test.YtmfkokjbjmahkaaDoorX4
import Derived.Test.YtmfkokjbjmahkaaDoorX5
import Derived.Test.YtmfkokjbjmahkaaDoorHandA
import Derived.Test.YtmfkokjbjmahkaaDoorHandE
namespace Go.Proofs.YtmfkokjbjmahkaaDoor.X
open Go.Proofs.YtmfkokjbjmahkaaDoor.Hand
open Go.RowKit Go.Proofs.YtmfkokjbjmahkaaDoorW.PrintWords Go.Proofs.YtmfkokjbjmahkaaDoorW.PrintLast Go.Proofs.YtmfkokjbjmahkaaDoorW.PrintMore
attribute [local go_sem] max2_int min2_int max_two min_two max_three min_three max_four min_four   -- for this text's walks alone
set_option linter.unusedVariables false
set_option maxHeartbeats 8000000
set_option maxRecDepth 100000
set_option linter.unusedSimpArgs false

/-! ### flonglaw05_LinesMacros: function 8 -/
mutual
def flonglaw05_LinesMacros.l0 : Nat → ByteArray → List ByteArray → Int → Int → Int → Option (Bool)
 | 0, _, _, _, _, _ => none
 | k + 1, x0, x1, x2, x7, x8 => if x8 < (x1.length : Int) then (if 0 ≤ x8 then (flonglaw05_LinesMacros.l0 k x0 x1 x2 (wrap64 (x7 + ((rdOf ByteArray.empty x1 x8).size : Int))) (wrap64 (x8 + 1))) else (none)) else (if x7 > 400 then (flonglaw05_LinesMacros.j1 k x0 x1 x2 true) else (if x0.toList = ([] : List UInt8) then (flonglaw05_LinesMacros.j1 k x0 x1 x2 true) else ((lines_Check.f k 0 x0 x1 (⟨#[]⟩ : ByteArray)).bind fun t161 => (flonglaw05_LinesMacros.j1 k x0 x1 x2 (t161 != 0)))))
def flonglaw05_LinesMacros.j1 : Nat → ByteArray → List ByteArray → Int → Bool → Option (Bool)
 | 0, _, _, _, _ => none
 | k + 1, x0, x1, x2, x44 => if x44 = true then ((flonglaw05_known.f k).bind fun t162 => (some t162)) else (flonglaw05_LinesMacros.l1 k x0 x1 x2 x0 0)
def flonglaw05_LinesMacros.l1 : Nat → ByteArray → List ByteArray → Int → ByteArray → Int → Option (Bool)
 | 0, _, _, _, _, _ => none
 | k + 1, x0, x1, x2, x9, x10 => if x10 < (x1.length : Int) then (if x9.size + 1 ≤ 9223372036854775807 then (if 0 ≤ x10 then ((lines_Quoted.f (rdOf ByteArray.empty x1 x10)).bind fun t164 => (if (x9 ++ (⟨#[32]⟩ : ByteArray)).size + t164.size ≤ 9223372036854775807 then (flonglaw05_LinesMacros.l1 k x0 x1 x2 ((x9 ++ (⟨#[32]⟩ : ByteArray)) ++ t164) (wrap64 (x10 + 1))) else (none))) else (none)) else (none)) else (if 0 ≤ (Int.tmod x2 10) then (if (Int.tmod x2 10) ≤ 10 then (if 1 + ((⟨#[32, 32, 32, 32, 32, 32, 32, 32, 32, 32]⟩ : ByteArray).extract 0 ((Int.tmod x2 10) : Int).toNat).size ≤ 9223372036854775807 then (if ((⟨#[46]⟩ : ByteArray) ++ ((⟨#[32, 32, 32, 32, 32, 32, 32, 32, 32, 32]⟩ : ByteArray).extract 0 ((Int.tmod x2 10) : Int).toNat)).size + x9.size ≤ 9223372036854775807 then ((lines_Read.f k (((⟨#[46]⟩ : ByteArray) ++ ((⟨#[32, 32, 32, 32, 32, 32, 32, 32, 32, 32]⟩ : ByteArray).extract 0 ((Int.tmod x2 10) : Int).toNat)) ++ x9)).bind fun bt165 => (if ((⟨#[39]⟩ : ByteArray) ++ ((⟨#[32, 32, 32, 32, 32, 32, 32, 32, 32, 32]⟩ : ByteArray).extract 0 ((Int.tmod x2 10) : Int).toNat)).size + x9.size ≤ 9223372036854775807 then (if (((⟨#[39]⟩ : ByteArray) ++ ((⟨#[32, 32, 32, 32, 32, 32, 32, 32, 32, 32]⟩ : ByteArray).extract 0 ((Int.tmod x2 10) : Int).toNat)) ++ x9).size + 1 ≤ 9223372036854775807 then ((lines_Read.f k ((((⟨#[39]⟩ : ByteArray) ++ ((⟨#[32, 32, 32, 32, 32, 32, 32, 32, 32, 32]⟩ : ByteArray).extract 0 ((Int.tmod x2 10) : Int).toNat)) ++ x9) ++ (⟨#[10]⟩ : ByteArray))).bind fun bt171 => ((some (([(⟨1, x0, x1, (⟨#[]⟩ : ByteArray)⟩ : S35)] : List (S35)) : List (S35))).bind fun y177 => ((flongref05_Same.f k bt165.1 y177).bind fun t180 => (if t180 = true then ((flongref05_Same.f k bt171.1 y177).bind fun t181 => (if t181 = true then (if (wrap64 ((bt165.2.length : Int) + (bt171.2.length : Int))) = 0 then ((flonglaw05_known.f k).bind fun t182 => (some t182)) else (some false)) else (some false))) else (some false))))) else (none)) else (none))) else (none)) else (none)) else (none)) else (none))
end
def flonglaw05_LinesMacros.f (k : Nat) (a0 : ByteArray) (l1 : List ByteArray) (a2 : Int) : Option (Bool) := flonglaw05_LinesMacros.l0 k a0 l1 a2 (a0.size : Int) 0
theorem flonglaw05_LinesMacros.mono_l : ∀ k, (∀ y0 y1 y2 y3 y4, LeO (flonglaw05_LinesMacros.l0 k y0 y1 y2 y3 y4) (flonglaw05_LinesMacros.l0 (k + 1) y0 y1 y2 y3 y4)) ∧ (∀ y0 y1 y2 y3, LeO (flonglaw05_LinesMacros.j1 k y0 y1 y2 y3) (flonglaw05_LinesMacros.j1 (k + 1) y0 y1 y2 y3)) ∧ (∀ y0 y1 y2 y3 y4, LeO (flonglaw05_LinesMacros.l1 k y0 y1 y2 y3 y4) (flonglaw05_LinesMacros.l1 (k + 1) y0 y1 y2 y3 y4))
 | 0 => ⟨fun _ _ _ _ _ r h => by simp [flonglaw05_LinesMacros.l0] at h, fun _ _ _ _ r h => by simp [flonglaw05_LinesMacros.j1] at h, fun _ _ _ _ _ r h => by simp [flonglaw05_LinesMacros.l1] at h⟩
 | k + 1 => by
  obtain ⟨ih0, ih1, ih2⟩ := flonglaw05_LinesMacros.mono_l k
  refine ⟨?_, ?_, ?_⟩
  ·intro y0 y1 y2 y3 y4
   unfold flonglaw05_LinesMacros.l0
   repeat' first
   | (with_reducible exact ih0 _ _ _ _ _)
   | (with_reducible exact ih1 _ _ _ _)
   | (with_reducible exact ih2 _ _ _ _ _)
   | (with_reducible exact flonglaw05_known.mono _)
   | (with_reducible exact flongref05_Same.mono _ _ _)
   | (with_reducible exact lines_Check.mono _ _ _ _ _)
   | (with_reducible exact lines_Read.mono _ _)
   | (with_reducible exact LeO.refl _)
   | (with_reducible exact LeO.none _)
   | (with_reducible refine LeO.ite ?_ ?_)
   | (with_reducible refine LeO.bind ?_ (fun _ => ?_))
  ·intro y0 y1 y2 y3
   unfold flonglaw05_LinesMacros.j1
   repeat' first
   | (with_reducible exact ih0 _ _ _ _ _)
   | (with_reducible exact ih1 _ _ _ _)
   | (with_reducible exact ih2 _ _ _ _ _)
   | (with_reducible exact flonglaw05_known.mono _)
   | (with_reducible exact flongref05_Same.mono _ _ _)
   | (with_reducible exact lines_Check.mono _ _ _ _ _)
   | (with_reducible exact lines_Read.mono _ _)
   | (with_reducible exact LeO.refl _)
   | (with_reducible exact LeO.none _)
   | (with_reducible refine LeO.ite ?_ ?_)
   | (with_reducible refine LeO.bind ?_ (fun _ => ?_))
  ·intro y0 y1 y2 y3 y4
   unfold flonglaw05_LinesMacros.l1
   repeat' first
   | (with_reducible exact ih0 _ _ _ _ _)
   | (with_reducible exact ih1 _ _ _ _)
   | (with_reducible exact ih2 _ _ _ _ _)
   | (with_reducible exact flonglaw05_known.mono _)
   | (with_reducible exact flongref05_Same.mono _ _ _)
   | (with_reducible exact lines_Check.mono _ _ _ _ _)
   | (with_reducible exact lines_Read.mono _ _)
   | (with_reducible exact LeO.refl _)
   | (with_reducible exact LeO.none _)
   | (with_reducible refine LeO.ite ?_ ?_)
   | (with_reducible refine LeO.bind ?_ (fun _ => ?_))
theorem flonglaw05_LinesMacros.mono : ∀ a0 a1 a2 k, LeO (flonglaw05_LinesMacros.f k a0 a1 a2) (flonglaw05_LinesMacros.f (k + 1) a0 a1 a2) := by
 intro a0 a1 a2 k
 obtain ⟨ih0, ih1, ih2⟩ := flonglaw05_LinesMacros.mono_l k
 unfold flonglaw05_LinesMacros.f
 repeat' first
   | (with_reducible exact ih0 _ _ _ _ _)
   | (with_reducible exact ih1 _ _ _ _)
   | (with_reducible exact ih2 _ _ _ _ _)
   | (with_reducible exact flonglaw05_known.mono _)
   | (with_reducible exact flongref05_Same.mono _ _ _)
   | (with_reducible exact lines_Check.mono _ _ _ _ _)
   | (with_reducible exact lines_Read.mono _ _)
   | (with_reducible exact LeO.refl _)
   | (with_reducible exact LeO.none _)
   | (with_reducible refine LeO.ite ?_ ?_)
   | (with_reducible refine LeO.bind ?_ (fun _ => ?_))
theorem flonglaw05_LinesMacros.calls (k : Nat) (a0 : ByteArray) (P1_ : Nat → Prop) (A1 : Option Addr) (c1 : Nat) (l1 : List ByteArray) (a2 : Int) (r : Bool) (w : World) (hs1 : Kd.V Kd.string 9 w w.heap.size (fun k_ => P1_ k_) (.slice A1 l1.length c1) l1) (hG : GOK [0] w) (h : flonglaw05_LinesMacros.f k a0 l1 a2 = some r) :
  Calls Tryd.prog 8 #[.string a0, .slice A1 l1.length c1, .int .u8 a2] w fun e w' => e = .returned (.bool r) ∧ Below w.heap.size w w' := by
 have hu35 := Tryd.underlying35
 have HG := Aside0.mk hG
 clear hG
 have HO1 := Aside0.mk (show Kd.V Kd.string 9 w w.heap.size (fun k_ => (P1_ k_ ∨ w.heap.size ≤ k_)) (.slice A1 l1.length c1) l1 from Kd.V_mono hs1 (fun k_ hk => .inl hk))
 have HB := Aside0.mk (Below.refl w.heap.size w)
 have H : (flonglaw05_LinesMacros.l0 k a0 l1 a2 (a0.size : Int) 0) = some r := h
 clear h
 have H' := Aside0.mk H
 clear H
 go_enter Tryd.func8, Tryd.ntmps8
 go_wp2
 go_loopg [7, 8] k (fun kq v7 v8 w' => ∃ (x7_1 : Int) (x8_1 : Int), v7 = .int .i64 x7_1 ∧ v8 = .int .i64 x8_1 ∧ Aside0 (flonglaw05_LinesMacros.l0 kq a0 l1 a2 x7_1 x8_1 = some r) ∧ Aside0 (kq ≤ k) ∧ Aside0 (Kd.V Kd.string 9 w' w.heap.size (fun k_ => (P1_ k_ ∨ w.heap.size ≤ k_)) (.slice A1 l1.length c1) l1) ∧ Aside0 (Below w.heap.size w w'))
 case atStart => exact ⟨((a0.size : Int)), (0), sA, sA, H', ⟨Nat.le_refl _⟩, ⟨kV HO1⟩, ⟨bA⟩⟩
 case round =>
  clear H'
  try clear c1
  try clear p2
  obtain ⟨x7_1, x8_1, rfl, rfl, HA, HK1, HO_1, HB⟩ := hrel
  cases gk with
  | zero => exact absurd HA.out (by simp [flonglaw05_LinesMacros.l0])
  | succ k1 =>
   have H := HA.out
   clear HA
   simp only [flonglaw05_LinesMacros.l0] at H
   by_cases c4 : x8_1 < (l1.length : Int)
   ·rw [if_pos c4] at H
    have c4b0 : decide (x8_1 < (l1.length : Int)) = true := decide_eq_true c4
    clear c4
    by_cases c5 : 0 ≤ x8_1
    ·rw [if_pos c5] at H
     have c5b0 : decide (0 ≤ x8_1) = true := decide_eq_true c5
     clear c5
     have H' := Aside0.mk H
     clear H
     have p160 : 0 ≤ (x8_1 : Int) := of_decide_eq_true asA
     have q160 : x8_1 < (l1.length : Int) := of_decide_eq_true asA
     obtain ⟨ad160, e160, hx160_0⟩ := Kd.at_string (Kd.V_reads' HO_1.out).2.2 x8_1 p160 q160
     cases e160
     replace p160 := eq_true p160
     replace q160 := eq_true q160
     go_wp2
     go_roundg k1
     case measure => have := HK1.out; omega
     case rel => exact ⟨(wrap64 (x7_1 + ((rdOf ByteArray.empty l1 x8_1).size : Int))), (wrap64 (x8_1 + 1)), sA, sA, H', ⟨by have := HK1.out; omega⟩, ⟨kV HO_1⟩, ⟨bA⟩⟩
    ·rw [if_neg c5] at H
     exact absurd H (by simp)
   ·rw [if_neg c4] at H
    have c4b0 : decide (x8_1 < (l1.length : Int)) = false := decide_eq_false c4
    clear c4
    have HC6 := Aside0.mk H
    clear H
    go_upto_region 6 with (fail)
    go_cut [44] (fun v44 wc => ∃ (kq : Nat) (x44_5 : Bool), v44 = .bool x44_5 ∧ Aside0 (flonglaw05_LinesMacros.j1 kq a0 l1 a2 x44_5 = some r) ∧ Aside0 (kq ≤ k1) ∧ Aside0 (Kd.V Kd.string 9 wc w.heap.size (fun k_ => (P1_ k_ ∨ w.heap.size ≤ k_)) (.slice A1 l1.length c1) l1) ∧ Aside0 (Below w.heap.size w wc))
    case first =>
     have H := HC6.out
     clear HC6
     by_cases c7 : x7_1 > 400
     ·rw [if_pos c7] at H
      have c7b0 : decide (400 < x7_1) = true := decide_eq_true c7
      clear c7
      (first | rw [c7b0] | (simp only [i64_w, i32_w]; rw [c7b0]) | skip)
      have H' := Aside0.mk H
      clear H
      go_wp2
      go_meet
      case rel => exact ⟨_, (true), sA, H', ⟨by have := HK1.out; first | omega | exact Nat.le_refl _⟩, ⟨kV HO_1⟩, ⟨bA⟩⟩
     ·rw [if_neg c7] at H
      have c7b0 : decide (400 < x7_1) = false := decide_eq_false c7
      clear c7
      (first | rw [c7b0] | (simp only [i64_w, i32_w]; rw [c7b0]) | skip)
      by_cases c8 : a0.toList = ([] : List UInt8)
      ·rw [if_pos c8] at H
       have c8b0 : (a0.toList == ([] : List UInt8)) = true := beq_iff_eq.mpr c8
       have c8b1 : (a0.toList != ([] : List UInt8)) = false := bne_eq_false_iff_eq.mpr c8
       clear c8
       have H' := Aside0.mk H
       clear H
       go_wp2
       go_meet
       case rel => exact ⟨_, (true), sA, H', ⟨by have := HK1.out; first | omega | exact Nat.le_refl _⟩, ⟨kV HO_1⟩, ⟨bA⟩⟩
      ·rw [if_neg c8] at H
       have c8b0 : (a0.toList == ([] : List UInt8)) = false := beq_eq_false_iff_ne.mpr c8
       have c8b1 : (a0.toList != ([] : List UInt8)) = true := bne_iff_ne.mpr c8
       replace H := Option.bind_eq_some_iff.mp H
       obtain ⟨t161, A90, H⟩ := H
       replace H : (flonglaw05_LinesMacros.j1 k1 a0 l1 a2 (t161 != 0)) = some r := H
       have A9 := Aside0.mk A90
       clear A90
       have H' := Aside0.mk H
       clear H
       go_wp2_with (first | (go_at_call 19; (with_reducible refine (lines_Check.calls k1 0 a0 _ _ l1 (⟨#[]⟩ : ByteArray) t161 _ ?side1 ?side2 A9.out).mono ?_); (case side1 => repeat (first | exact (Kd.V_reads' HO_1.out).2.2 | (with_reducible refine Kd.C_alloc ?_ _) | (with_reducible refine Kd.C_drewN ?_ _) | (with_reducible refine Kd.C_drew ?_))); (case side2 => exact (Kd.V_reads' HO_1.out).2.1); rintro e w10 ⟨rfl, hb⟩; replace HO_1 := Aside0.mk (Kd.V_below (kV HO_1) hb); replace HB := Aside0.mk (below_step bA hb); (try clear hb); (try clear hb2); (try clear hk); (try clear hi)))
       go_meet
       case rel => exact ⟨_, ((t161 != 0)), sA, H', ⟨by have := HK1.out; first | omega | exact Nat.le_refl _⟩, ⟨kV HO_1⟩, ⟨bA⟩⟩
    case rest =>
     clear HC6
     try clear c1
     try clear p1
     try clear q1
     try clear hx1
     try clear p2
     try clear c4
     try clear c4b0
     try clear c5
     try clear c5b0
     try clear p6
     try clear c7
     try clear c7b0
     try clear c8
     try clear c8b0
     try clear c8b1
     try clear hx160_0
     try clear p160
     try clear p2
     try clear q160
     obtain ⟨kq, x44_5, rfl, HA, HJ5, HO_1, HB⟩ := hcut
     cases kq with
     | zero => exact absurd HA.out (by simp [flonglaw05_LinesMacros.j1])
     | succ kj5 =>
      have H := HA.out
      clear HA
      simp only [flonglaw05_LinesMacros.j1] at H
      by_cases c11 : x44_5 = true
      ·subst c11
       have H1 : ((flonglaw05_known.f kj5).bind fun t162 => (some t162)) = some r := by rw [if_pos rfl] at H; exact H
       clear H
       have H := H1
       clear H1
       replace H := Option.bind_eq_some_iff.mp H
       obtain ⟨t162, A120, H⟩ := H
       replace H : (some t162) = some r := H
       have A12 := Aside0.mk A120
       clear A120
       obtain rfl := Option.some.inj H
       go_wp2_with (first | ((with_reducible refine gate_callee (f := 11) rfl ?_); refine goesL_ (some 45) rfl rfl Tryd.func11 (by kernel_rfl) rfl #[] rfl aP ?_; (with_reducible refine (flonglaw05_known.calls kj5  t162 _ ?side1 A12.out).mono ?_); (case side1 => exact GOK.of_below (GOK.sub HG.out rfl) bA); rintro e w13 ⟨rfl, hb⟩; refine ⟨_, rfl, ?_⟩; replace HO_1 := Aside0.mk (Kd.V_below (kV HO_1) hb); replace HB := Aside0.mk (below_step bA hb); (try clear hb); (try clear hb2); (try clear hk); (try clear hi)))
       go_ret
       exact ⟨eW, bA⟩
      ·replace c11 := Bool.eq_false_iff.mpr c11
       subst c11
       have H1 : (flonglaw05_LinesMacros.l1 kj5 a0 l1 a2 a0 0) = some r := by rw [if_neg (show ¬ (false = true) by decide)] at H; exact H
       clear H
       have H := H1
       clear H1
       have H' := Aside0.mk H
       clear H
       go_wp2
       go_loopg [9, 10] kj5 (fun kq v9 v10 w' => ∃ (x9_3 : ByteArray) (x10_3 : Int), v9 = .string x9_3 ∧ v10 = .int .i64 x10_3 ∧ Aside0 (flonglaw05_LinesMacros.l1 kq a0 l1 a2 x9_3 x10_3 = some r) ∧ Aside0 (kq ≤ kj5) ∧ Aside0 (Kd.V Kd.string 9 w' w.heap.size (fun k_ => (P1_ k_ ∨ w.heap.size ≤ k_)) (.slice A1 l1.length c1) l1) ∧ Aside0 (Below w.heap.size w w'))
       case atStart => exact ⟨(a0), (0), sA, sA, H', ⟨Nat.le_refl _⟩, ⟨kV HO_1⟩, ⟨bA⟩⟩
       case round =>
        clear H'
        try clear c1
        try clear p1
        try clear q1
        try clear hx1
        try clear p2
        try clear c4
        try clear c4b0
        try clear c5
        try clear c5b0
        try clear p6
        try clear c7
        try clear c7b0
        try clear c8
        try clear c8b0
        try clear c8b1
        try clear c11
        try clear hx160_0
        try clear p1
        try clear p160
        try clear p2
        try clear p6
        try clear q1
        try clear q160
        obtain ⟨x9_3, x10_3, rfl, rfl, HA, HK3, HO_1, HB⟩ := hrel
        cases gk with
        | zero => exact absurd HA.out (by simp [flonglaw05_LinesMacros.l1])
        | succ k3 =>
         have H := HA.out
         clear HA
         simp only [flonglaw05_LinesMacros.l1] at H
         by_cases c14 : x10_3 < (l1.length : Int)
         ·rw [if_pos c14] at H
          have c14b0 : decide (x10_3 < (l1.length : Int)) = true := decide_eq_true c14
          clear c14
          by_cases c15 : x9_3.size + 1 ≤ 9223372036854775807
          ·rw [if_pos c15] at H
           have c15b0 := eq_true c15
           have c15b1 : decide (x9_3.size + 1 ≤ 9223372036854775807) = true := decide_eq_true c15
           try have c15b2 : (9223372036854775807 < x9_3.size + 1) = False := eq_false (Nat.not_lt.2 c15)
           by_cases c16 : 0 ≤ x10_3
           ·rw [if_pos c16] at H
            have c16b0 : decide (0 ≤ x10_3) = true := decide_eq_true c16
            clear c16
            replace H := Option.bind_eq_some_iff.mp H
            obtain ⟨t164, A170, H⟩ := H
            replace H : (if (x9_3 ++ (⟨#[32]⟩ : ByteArray)).size + t164.size ≤ 9223372036854775807 then (flonglaw05_LinesMacros.l1 k3 a0 l1 a2 ((x9_3 ++ (⟨#[32]⟩ : ByteArray)) ++ t164) (wrap64 (x10_3 + 1))) else (none)) = some r := H
            have A17 := Aside0.mk A170
            clear A170
            by_cases c18 : (x9_3 ++ (⟨#[32]⟩ : ByteArray)).size + t164.size ≤ 9223372036854775807
            ·rw [if_pos c18] at H
             have c18b0 := eq_true c18
             have c18b1 : decide ((x9_3 ++ (⟨#[32]⟩ : ByteArray)).size + t164.size ≤ 9223372036854775807) = true := decide_eq_true c18
             try have c18b2 : (9223372036854775807 < (x9_3 ++ (⟨#[32]⟩ : ByteArray)).size + t164.size) = False := eq_false (Nat.not_lt.2 c18)
             (try (have c18n := c18; simp only [ByteArray.size_append'] at c18n; have c18b3 := eq_false (Nat.not_lt.2 c18n); have c18b4 := eq_true c18n; clear c18n))
             (try (have c18k := c18; simp only [ByteArray.size_append', show (⟨#[32]⟩ : ByteArray).size = 1 from rfl] at c18k; have c18b7 := eq_false (Nat.not_lt.2 c18k); have c18b8 := eq_true c18k; clear c18k))
             have H' := Aside0.mk H
             clear H
             have p163 : 0 ≤ (x10_3 : Int) := of_decide_eq_true asA
             have q163 : x10_3 < (l1.length : Int) := of_decide_eq_true asA
             obtain ⟨ad163, e163, hx163_0⟩ := Kd.at_string (Kd.V_reads' HO_1.out).2.2 x10_3 p163 q163
             cases e163
             replace p163 := eq_true p163
             replace q163 := eq_true q163
             go_wp2_with (first | ((with_reducible refine gate_callee (f := 15) rfl ?_); refine goesL_ (some 59) rfl rfl Tryd.func15 (by kernel_rfl) rfl #[.string (rdOf ByteArray.empty l1 x10_3)] rfl aP ?_; (with_reducible refine (lines_Quoted.calls (rdOf ByteArray.empty l1 x10_3) t164 _ ?side1 A17.out).mono ?_); (case side1 => exact GOK.of_below (GOK.sub HG.out rfl) bA); rintro e w19 ⟨rfl, hb⟩; refine ⟨_, rfl, ?_⟩; replace HO_1 := Aside0.mk (Kd.V_below (kV HO_1) hb); replace HB := Aside0.mk (below_step bA hb); (try clear hb); (try clear hb2); (try clear hk); (try clear hi)))
             go_roundg k3
             case measure => have := HK1.out; have := HJ5.out; have := HK3.out; omega
             case rel => exact ⟨((x9_3 ++ (⟨#[32]⟩ : ByteArray)) ++ t164), (wrap64 (x10_3 + 1)), sA, sA, H', ⟨by have := HK1.out; have := HJ5.out; have := HK3.out; omega⟩, ⟨kV HO_1⟩, ⟨bA⟩⟩
            ·rw [if_neg c18] at H
             exact absurd H (by simp)
           ·rw [if_neg c16] at H
            exact absurd H (by simp)
          ·rw [if_neg c15] at H
           exact absurd H (by simp)
         ·rw [if_neg c14] at H
          have c14b0 : decide (x10_3 < (l1.length : Int)) = false := decide_eq_false c14
          clear c14
          obtain ⟨ji20, hji20⟩ : ∃ j_ : Int, (Int.tmod a2 10) = j_ := ⟨_, rfl⟩
          replace H : (if 0 ≤ (ji20) then (if (ji20) ≤ 10 then (if 1 + ((⟨#[32, 32, 32, 32, 32, 32, 32, 32, 32, 32]⟩ : ByteArray).extract 0 ((ji20) : Int).toNat).size ≤ 9223372036854775807 then (if ((⟨#[46]⟩ : ByteArray) ++ ((⟨#[32, 32, 32, 32, 32, 32, 32, 32, 32, 32]⟩ : ByteArray).extract 0 ((ji20) : Int).toNat)).size + x9_3.size ≤ 9223372036854775807 then ((lines_Read.f k3 (((⟨#[46]⟩ : ByteArray) ++ ((⟨#[32, 32, 32, 32, 32, 32, 32, 32, 32, 32]⟩ : ByteArray).extract 0 ((ji20) : Int).toNat)) ++ x9_3)).bind fun bt165 => (if ((⟨#[39]⟩ : ByteArray) ++ ((⟨#[32, 32, 32, 32, 32, 32, 32, 32, 32, 32]⟩ : ByteArray).extract 0 ((ji20) : Int).toNat)).size + x9_3.size ≤ 9223372036854775807 then (if (((⟨#[39]⟩ : ByteArray) ++ ((⟨#[32, 32, 32, 32, 32, 32, 32, 32, 32, 32]⟩ : ByteArray).extract 0 ((ji20) : Int).toNat)) ++ x9_3).size + 1 ≤ 9223372036854775807 then ((lines_Read.f k3 ((((⟨#[39]⟩ : ByteArray) ++ ((⟨#[32, 32, 32, 32, 32, 32, 32, 32, 32, 32]⟩ : ByteArray).extract 0 ((ji20) : Int).toNat)) ++ x9_3) ++ (⟨#[10]⟩ : ByteArray))).bind fun bt171 => ((some (([(⟨1, a0, l1, (⟨#[]⟩ : ByteArray)⟩ : S35)] : List (S35)) : List (S35))).bind fun y177 => ((flongref05_Same.f k3 bt165.1 y177).bind fun t180 => (if t180 = true then ((flongref05_Same.f k3 bt171.1 y177).bind fun t181 => (if t181 = true then (if (wrap64 ((bt165.2.length : Int) + (bt171.2.length : Int))) = 0 then ((flonglaw05_known.f k3).bind fun t182 => (some t182)) else (some false)) else (some false))) else (some false))))) else (none)) else (none))) else (none)) else (none)) else (none)) else (none)) = some r := by first | (rw [hji20] at H; exact H) | (simp only [hji20] at H ⊢; exact H)
          by_cases c21 : 0 ≤ (ji20)
          ·rw [if_pos c21] at H
           have c21b0 := eq_true c21
           have c21b1 : decide (0 ≤ (ji20)) = true := decide_eq_true c21
           clear c21
           by_cases c22 : (ji20) ≤ 10
           ·rw [if_pos c22] at H
            have c22b0 := eq_true c22
            have c22b1 : decide ((ji20) ≤ 10) = true := decide_eq_true c22
            clear c22
            by_cases c23 : 1 + ((⟨#[32, 32, 32, 32, 32, 32, 32, 32, 32, 32]⟩ : ByteArray).extract 0 ((ji20) : Int).toNat).size ≤ 9223372036854775807
            ·rw [if_pos c23] at H
             have c23b0 := eq_true c23
             have c23b1 : decide (1 + ((⟨#[32, 32, 32, 32, 32, 32, 32, 32, 32, 32]⟩ : ByteArray).extract 0 ((ji20) : Int).toNat).size ≤ 9223372036854775807) = true := decide_eq_true c23
             try have c23b2 : (9223372036854775807 < 1 + ((⟨#[32, 32, 32, 32, 32, 32, 32, 32, 32, 32]⟩ : ByteArray).extract 0 ((ji20) : Int).toNat).size) = False := eq_false (Nat.not_lt.2 c23)
             (try (have c23x := c23; simp only [ByteArray.size_append', ByteArray.size_extract, Nat.sub_zero, show (⟨#[32, 32, 32, 32, 32, 32, 32, 32, 32, 32]⟩ : ByteArray).size = 10 from rfl, Nat.min_eq_left (show (ji20 : Int).toNat ≤ 10 from by have h_ : ji20 ≤ 10 := of_eq_true (by assumption); omega)] at c23x; have c23d1 := eq_false (Nat.not_lt.2 c23x); have c23d2 := eq_true c23x; clear c23x))
             by_cases c24 : ((⟨#[46]⟩ : ByteArray) ++ ((⟨#[32, 32, 32, 32, 32, 32, 32, 32, 32, 32]⟩ : ByteArray).extract 0 ((ji20) : Int).toNat)).size + x9_3.size ≤ 9223372036854775807
             ·rw [if_pos c24] at H
              have c24b0 := eq_true c24
              have c24b1 : decide (((⟨#[46]⟩ : ByteArray) ++ ((⟨#[32, 32, 32, 32, 32, 32, 32, 32, 32, 32]⟩ : ByteArray).extract 0 ((ji20) : Int).toNat)).size + x9_3.size ≤ 9223372036854775807) = true := decide_eq_true c24
              try have c24b2 : (9223372036854775807 < ((⟨#[46]⟩ : ByteArray) ++ ((⟨#[32, 32, 32, 32, 32, 32, 32, 32, 32, 32]⟩ : ByteArray).extract 0 ((ji20) : Int).toNat)).size + x9_3.size) = False := eq_false (Nat.not_lt.2 c24)
              (try (have c24n := c24; simp only [ByteArray.size_append'] at c24n; have c24b3 := eq_false (Nat.not_lt.2 c24n); have c24b4 := eq_true c24n; clear c24n))
              (try (have c24k := c24; simp only [ByteArray.size_append', show (⟨#[32, 32, 32, 32, 32, 32, 32, 32, 32, 32]⟩ : ByteArray).size = 10 from rfl, show (⟨#[46]⟩ : ByteArray).size = 1 from rfl] at c24k; have c24b7 := eq_false (Nat.not_lt.2 c24k); have c24b8 := eq_true c24k; clear c24k))
              (try (have c24x := c24; simp only [ByteArray.size_append', ByteArray.size_extract, Nat.sub_zero, show (⟨#[32, 32, 32, 32, 32, 32, 32, 32, 32, 32]⟩ : ByteArray).size = 10 from rfl, show (⟨#[46]⟩ : ByteArray).size = 1 from rfl, Nat.min_eq_left (show (ji20 : Int).toNat ≤ 10 from by have h_ : ji20 ≤ 10 := of_eq_true (by assumption); omega)] at c24x; have c24d1 := eq_false (Nat.not_lt.2 c24x); have c24d2 := eq_true c24x; clear c24x))
              replace H := Option.bind_eq_some_iff.mp H
              obtain ⟨⟨t165, t166⟩, A250, H⟩ := H
              replace H : (if ((⟨#[39]⟩ : ByteArray) ++ ((⟨#[32, 32, 32, 32, 32, 32, 32, 32, 32, 32]⟩ : ByteArray).extract 0 ((ji20) : Int).toNat)).size + x9_3.size ≤ 9223372036854775807 then (if (((⟨#[39]⟩ : ByteArray) ++ ((⟨#[32, 32, 32, 32, 32, 32, 32, 32, 32, 32]⟩ : ByteArray).extract 0 ((ji20) : Int).toNat)) ++ x9_3).size + 1 ≤ 9223372036854775807 then ((lines_Read.f k3 ((((⟨#[39]⟩ : ByteArray) ++ ((⟨#[32, 32, 32, 32, 32, 32, 32, 32, 32, 32]⟩ : ByteArray).extract 0 ((ji20) : Int).toNat)) ++ x9_3) ++ (⟨#[10]⟩ : ByteArray))).bind fun bt171 => ((some (([(⟨1, a0, l1, (⟨#[]⟩ : ByteArray)⟩ : S35)] : List (S35)) : List (S35))).bind fun y177 => ((flongref05_Same.f k3 t165 y177).bind fun t180 => (if t180 = true then ((flongref05_Same.f k3 bt171.1 y177).bind fun t181 => (if t181 = true then (if (wrap64 ((t166.length : Int) + (bt171.2.length : Int))) = 0 then ((flonglaw05_known.f k3).bind fun t182 => (some t182)) else (some false)) else (some false))) else (some false))))) else (none)) else (none)) = some r := H
              have A25 := Aside0.mk A250
              clear A250
              by_cases c26 : ((⟨#[39]⟩ : ByteArray) ++ ((⟨#[32, 32, 32, 32, 32, 32, 32, 32, 32, 32]⟩ : ByteArray).extract 0 ((ji20) : Int).toNat)).size + x9_3.size ≤ 9223372036854775807
              ·rw [if_pos c26] at H
               have c26b0 := eq_true c26
               have c26b1 : decide (((⟨#[39]⟩ : ByteArray) ++ ((⟨#[32, 32, 32, 32, 32, 32, 32, 32, 32, 32]⟩ : ByteArray).extract 0 ((ji20) : Int).toNat)).size + x9_3.size ≤ 9223372036854775807) = true := decide_eq_true c26
               try have c26b2 : (9223372036854775807 < ((⟨#[39]⟩ : ByteArray) ++ ((⟨#[32, 32, 32, 32, 32, 32, 32, 32, 32, 32]⟩ : ByteArray).extract 0 ((ji20) : Int).toNat)).size + x9_3.size) = False := eq_false (Nat.not_lt.2 c26)
               (try (have c26n := c26; simp only [ByteArray.size_append'] at c26n; have c26b3 := eq_false (Nat.not_lt.2 c26n); have c26b4 := eq_true c26n; clear c26n))
               (try (have c26k := c26; simp only [ByteArray.size_append', show (⟨#[32, 32, 32, 32, 32, 32, 32, 32, 32, 32]⟩ : ByteArray).size = 10 from rfl, show (⟨#[39]⟩ : ByteArray).size = 1 from rfl] at c26k; have c26b7 := eq_false (Nat.not_lt.2 c26k); have c26b8 := eq_true c26k; clear c26k))
               (try (have c26x := c26; simp only [ByteArray.size_append', ByteArray.size_extract, Nat.sub_zero, show (⟨#[32, 32, 32, 32, 32, 32, 32, 32, 32, 32]⟩ : ByteArray).size = 10 from rfl, show (⟨#[39]⟩ : ByteArray).size = 1 from rfl, Nat.min_eq_left (show (ji20 : Int).toNat ≤ 10 from by have h_ : ji20 ≤ 10 := of_eq_true (by assumption); omega)] at c26x; have c26d1 := eq_false (Nat.not_lt.2 c26x); have c26d2 := eq_true c26x; clear c26x))
               by_cases c27 : (((⟨#[39]⟩ : ByteArray) ++ ((⟨#[32, 32, 32, 32, 32, 32, 32, 32, 32, 32]⟩ : ByteArray).extract 0 ((ji20) : Int).toNat)) ++ x9_3).size + 1 ≤ 9223372036854775807
               ·rw [if_pos c27] at H
                have c27b0 := eq_true c27
                have c27b1 : decide ((((⟨#[39]⟩ : ByteArray) ++ ((⟨#[32, 32, 32, 32, 32, 32, 32, 32, 32, 32]⟩ : ByteArray).extract 0 ((ji20) : Int).toNat)) ++ x9_3).size + 1 ≤ 9223372036854775807) = true := decide_eq_true c27
                try have c27b2 : (9223372036854775807 < (((⟨#[39]⟩ : ByteArray) ++ ((⟨#[32, 32, 32, 32, 32, 32, 32, 32, 32, 32]⟩ : ByteArray).extract 0 ((ji20) : Int).toNat)) ++ x9_3).size + 1) = False := eq_false (Nat.not_lt.2 c27)
                (try (have c27n := c27; simp only [ByteArray.size_append'] at c27n; have c27b3 := eq_false (Nat.not_lt.2 c27n); have c27b4 := eq_true c27n; clear c27n))
                (try (have c27k := c27; simp only [ByteArray.size_append', show (⟨#[32, 32, 32, 32, 32, 32, 32, 32, 32, 32]⟩ : ByteArray).size = 10 from rfl, show (⟨#[39]⟩ : ByteArray).size = 1 from rfl] at c27k; have c27b7 := eq_false (Nat.not_lt.2 c27k); have c27b8 := eq_true c27k; clear c27k))
                (try (have c27x := c27; simp only [ByteArray.size_append', ByteArray.size_extract, Nat.sub_zero, show (⟨#[32, 32, 32, 32, 32, 32, 32, 32, 32, 32]⟩ : ByteArray).size = 10 from rfl, show (⟨#[39]⟩ : ByteArray).size = 1 from rfl, Nat.min_eq_left (show (ji20 : Int).toNat ≤ 10 from by have h_ : ji20 ≤ 10 := of_eq_true (by assumption); omega)] at c27x; have c27d1 := eq_false (Nat.not_lt.2 c27x); have c27d2 := eq_true c27x; clear c27x))
                replace H := Option.bind_eq_some_iff.mp H
                obtain ⟨⟨t171, t172⟩, A280, H⟩ := H
                replace H : ((some (([(⟨1, a0, l1, (⟨#[]⟩ : ByteArray)⟩ : S35)] : List (S35)) : List (S35))).bind fun y177 => ((flongref05_Same.f k3 t165 y177).bind fun t180 => (if t180 = true then ((flongref05_Same.f k3 t171 y177).bind fun t181 => (if t181 = true then (if (wrap64 ((t166.length : Int) + (t172.length : Int))) = 0 then ((flonglaw05_known.f k3).bind fun t182 => (some t182)) else (some false)) else (some false))) else (some false)))) = some r := H
                have A28 := Aside0.mk A280
                clear A280
                obtain ⟨y177, hy177⟩ : ∃ y_ : List (S35), y_ = (([(⟨1, a0, l1, (⟨#[]⟩ : ByteArray)⟩ : S35)] : List (S35))) := ⟨_, rfl⟩
                replace H : ((flongref05_Same.f k3 t165 y177).bind fun t180 => (if t180 = true then ((flongref05_Same.f k3 t171 y177).bind fun t181 => (if t181 = true then (if (wrap64 ((t166.length : Int) + (t172.length : Int))) = 0 then ((flonglaw05_known.f k3).bind fun t182 => (some t182)) else (some false)) else (some false))) else (some false))) = some r := hyA hy177 H
                have Ny177 := Aside0.mk hy177
                clear hy177
                replace H := Option.bind_eq_some_iff.mp H
                obtain ⟨t180, A290, H⟩ := H
                replace H : (if t180 = true then ((flongref05_Same.f k3 t171 y177).bind fun t181 => (if t181 = true then (if (wrap64 ((t166.length : Int) + (t172.length : Int))) = 0 then ((flonglaw05_known.f k3).bind fun t182 => (some t182)) else (some false)) else (some false))) else (some false)) = some r := H
                have A29 := Aside0.mk A290
                clear A290
                by_cases c30 : t180 = true
                ·subst c30
                 have H1 : ((flongref05_Same.f k3 t171 y177).bind fun t181 => (if t181 = true then (if (wrap64 ((t166.length : Int) + (t172.length : Int))) = 0 then ((flonglaw05_known.f k3).bind fun t182 => (some t182)) else (some false)) else (some false))) = some r := by rw [if_pos rfl] at H; exact H
                 clear H
                 have H := H1
                 clear H1
                 replace H := Option.bind_eq_some_iff.mp H
                 obtain ⟨t181, A310, H⟩ := H
                 replace H : (if t181 = true then (if (wrap64 ((t166.length : Int) + (t172.length : Int))) = 0 then ((flonglaw05_known.f k3).bind fun t182 => (some t182)) else (some false)) else (some false)) = some r := H
                 have A31 := Aside0.mk A310
                 clear A310
                 by_cases c32 : t181 = true
                 ·subst c32
                  have H1 : (if (wrap64 ((t166.length : Int) + (t172.length : Int))) = 0 then ((flonglaw05_known.f k3).bind fun t182 => (some t182)) else (some false)) = some r := by rw [if_pos rfl] at H; exact H
                  clear H
                  have H := H1
                  clear H1
                  by_cases c33 : (wrap64 ((t166.length : Int) + (t172.length : Int))) = 0
                  ·rw [if_pos c33] at H
                   have c33b0 : ((wrap64 ((t166.length : Int) + (t172.length : Int))) == 0) = true := beq_iff_eq.mpr c33
                   have c33b1 : ((wrap64 ((t166.length : Int) + (t172.length : Int))) != 0) = false := bne_eq_false_iff_eq.mpr c33
                   clear c33
                   replace H := Option.bind_eq_some_iff.mp H
                   obtain ⟨t182, A340, H⟩ := H
                   replace H : (some t182) = some r := H
                   have A34 := Aside0.mk A340
                   clear A340
                   obtain rfl := Option.some.inj H
                   go_wp2_with (first | ((with_reducible refine gate_callee (f := 17) rfl ?_); refine goesL_ (some 69) rfl rfl Tryd.func17 (by kernel_rfl) rfl #[.string (((⟨#[46]⟩ : ByteArray) ++ ((⟨#[32, 32, 32, 32, 32, 32, 32, 32, 32, 32]⟩ : ByteArray).extract 0 ((ji20) : Int).toNat)) ++ x9_3)] rfl (by (try simp only [List.map_toArray, List.map_cons, List.map_nil]); first | done | (simp only [hji20]; rfl) | rfl | (simp only [List.length_drop, List.length_take]; rfl)) ?_; (with_reducible refine (lines_Read.calls k3 (((⟨#[46]⟩ : ByteArray) ++ ((⟨#[32, 32, 32, 32, 32, 32, 32, 32, 32, 32]⟩ : ByteArray).extract 0 ((ji20) : Int).toNat)) ++ x9_3) t165 t166 _ A25.out).mono ?_); rintro e w35 ⟨v167, v169, rfl, ho0, ho1, hb⟩; refine ⟨_, rfl, ?_⟩; replace HO_1 := Aside0.mk (Kd.V_mono (Kd.V_told (Kd.V_told (Kd.V_old (kV HO_1) hb) (Kd.S_base ho0)) (Kd.R_base ho1)) (fun _ h_ => h_.1)); have HO168 := Aside0.mk (Kd.N_lower (Kd.N_mono (ok' := fun k_ => (P1_ k_ ∨ w.heap.size ≤ k_) ∧ some k_ ≠ (v169 : Value).ownBlock) (Kd.S_N (Kd.S_bound (Kd.S_apart' ho0 (Kd.R_typed ho1) (by decide)))) (fun k_ hk_ => ⟨(.inr (Nat.le_trans (below_size bA) hk_.2.1)), hk_.1.2⟩)) (below_size bA)); have HO170 := Aside0.mk (Kd.R_lower (Kd.R_newM (M := fun k_ => (w.heap.size ≤ k_)) ho1 (below_size bA) (fun k_ h_ => h_)) (below_size bA)); replace HB := Aside0.mk (below_step bA hb); (try clear hb); (try clear hb2); (try clear hk); (try clear hi); (try clear ho0); (try clear ho1)) | ((with_reducible refine gate_callee (f := 17) rfl ?_); refine goesL_ (some 78) rfl rfl Tryd.func17 (by kernel_rfl) rfl #[.string ((((⟨#[39]⟩ : ByteArray) ++ ((⟨#[32, 32, 32, 32, 32, 32, 32, 32, 32, 32]⟩ : ByteArray).extract 0 ((ji20) : Int).toNat)) ++ x9_3) ++ (⟨#[10]⟩ : ByteArray))] rfl (by (try simp only [List.map_toArray, List.map_cons, List.map_nil]); first | done | (simp only [hji20]; rfl) | rfl | (simp only [List.length_drop, List.length_take]; rfl)) ?_; (with_reducible refine (lines_Read.calls k3 ((((⟨#[39]⟩ : ByteArray) ++ ((⟨#[32, 32, 32, 32, 32, 32, 32, 32, 32, 32]⟩ : ByteArray).extract 0 ((ji20) : Int).toNat)) ++ x9_3) ++ (⟨#[10]⟩ : ByteArray)) t171 t172 _ A28.out).mono ?_); rintro e w36 ⟨v173, v175, rfl, ho0, ho1, hb⟩; refine ⟨_, rfl, ?_⟩; have n0_ := Aside0.mk (Kd.V_mono (Kd.V_told (Kd.V_told (Kd.V_old (kV HO_1) hb) (Kd.S_base ho0)) (Kd.R_base ho1)) (fun _ h_ => h_.1)); have n1_ := Aside0.mk (Kd.N_mono (Kd.N_told (Kd.N_told (Kd.N_old (by (with_reducible repeat (first | apply Kd.N_alloc | apply Kd.N_drewN | apply Kd.N_drew)); exact HO168.out) hb) (Kd.S_base ho0)) (Kd.R_base ho1)) (fun _ h_ => h_.1)); have n2_ := Aside0.mk (Kd.R_elder' (kR HO170) (Kd.R_base ho1) hb); have n3_ := Aside0.mk (Kd.N_lower (Kd.N_mono (ok' := fun k_ => (P1_ k_ ∨ w.heap.size ≤ k_) ∧ some k_ ≠ (v175 : Value).ownBlock ∧ some k_ ≠ (v167 : Value).ownBlock ∧ some k_ ≠ (v169 : Value).ownBlock) (Kd.S_N (Kd.S_bound (Kd.S_apart' ho0 (Kd.R_typed ho1) (by decide)))) (fun k_ hk_ => ⟨(.inr (Nat.le_trans (below_size bA) hk_.2.1)), hk_.1.2, (Kd.fresh' (Kd.N_lt (by (with_reducible repeat (first | apply Kd.N_alloc | apply Kd.N_drewN | apply Kd.N_drew)); exact HO168.out)) k_ hk_.2.1), (Kd.fresh' (Kd.R_lt (kR HO170)) k_ hk_.2.1)⟩)) (below_size bA)); have n4_ := Aside0.mk (Kd.R_lower (Kd.R_new' (Kd.R_newM (M := fun k_ => (w.heap.size ≤ k_)) ho1 (below_size bA) (fun k_ h_ => h_)) (Kd.R_lt (kR HO170))) (below_size bA)); have n5_ := Aside0.mk (below_step bA hb); clear HO_1; clear HO168; clear HO170; clear HB; have HO_1 := n0_; have HO168 := n1_; have HO170 := n2_; have HO174 := n3_; have HO176 := n4_; have HB := n5_; clear n0_ n1_ n2_ n3_ n4_ n5_; (try clear hb); (try clear hb2); (try clear hk); (try clear hi); (try clear ho0); (try clear ho1)) | ((with_reducible refine gate_dst (N := 84) rfl ?_); (try (refine gate_guard (by rfl) ?_; dsimp only)); refine Kd.N_lit k35 _ 35 ?hg (N' := 84) ?hd (xs := ([(⟨1, a0, l1, (⟨#[]⟩ : ByteArray)⟩ : S35)] : List (S35))) (inner := [.int .i64 1, .string a0, .slice A1 l1.length c1, .string (⟨#[]⟩ : ByteArray)]) (ok := (fun k_ => (P1_ k_ ∨ w.heap.size ≤ k_) ∧ some k_ ≠ (v167 : Value).ownBlock ∧ some k_ ≠ (v169 : Value).ownBlock ∧ some k_ ≠ (v173 : Value).ownBlock ∧ some k_ ≠ (v175 : Value).ownBlock)) (okp := (fun k_ => (P1_ k_ ∨ w.heap.size ≤ k_) ∧ some k_ ≠ (v167 : Value).ownBlock ∧ some k_ ≠ (v169 : Value).ownBlock ∧ some k_ ≠ (v173 : Value).ownBlock ∧ some k_ ≠ (v175 : Value).ownBlock)) ?hr ?hp (fun _ hk => hk) ((show ∀ k_, w36.heap.size ≤ k_ → (fun k_ => (P1_ k_ ∨ w.heap.size ≤ k_) ∧ some k_ ≠ (v167 : Value).ownBlock ∧ some k_ ≠ (v169 : Value).ownBlock ∧ some k_ ≠ (v173 : Value).ownBlock ∧ some k_ ≠ (v175 : Value).ownBlock) k_ from fun k_ hk => ⟨(.inr (Nat.le_trans (below_size bA) hk)), Kd.fresh' (Kd.N_lt (by (with_reducible repeat (first | apply Kd.N_alloc | apply Kd.N_drewN | apply Kd.N_drew)); exact HO168.out)) k_ hk, Kd.fresh' (Kd.R_lt (kR HO170)) k_ hk, Kd.fresh' (Kd.N_lt (by (with_reducible repeat (first | apply Kd.N_alloc | apply Kd.N_drewN | apply Kd.N_drew)); exact HO174.out)) k_ hk, Kd.fresh' (Kd.R_lt (kR HO176)) k_ hk⟩) _ (Nat.le_refl _)) (Below.refl _ _) (Nat.le_refl _) (by simp) ?_; (case hd => rfl); (case hg => rfl); (case hr => first | (go_simp; done) | (go_simp; rfl)); (case hp => exact (Reps.c4 (show Kd.FK k35 _ _ (⟨1, a0, l1, (⟨#[]⟩ : ByteArray)⟩ : S35) [.int .i64 1, .string a0, .slice A1 l1.length c1, .string (⟨#[]⟩ : ByteArray)] from (k35_mkF _ _ (⟨1, a0, l1, (⟨#[]⟩ : ByteArray)⟩ : S35) (Kd.V_reads' (Kd.V_mono (ok' := (fun k_ => (P1_ k_ ∨ w.heap.size ≤ k_) ∧ some k_ ≠ (v167 : Value).ownBlock ∧ some k_ ≠ (v169 : Value).ownBlock ∧ some k_ ≠ (v173 : Value).ownBlock ∧ some k_ ≠ (v175 : Value).ownBlock)) (HO_1.out) (fun k_ hk => ⟨hk.1.1.1.1, ⟨hk.1.1.1.2, ⟨hk.1.1.2, ⟨hk.1.2, hk.2⟩⟩⟩⟩))).2.1 (Kd.V_F (Kd.V_mono (ok' := (fun k_ => (P1_ k_ ∨ w.heap.size ≤ k_) ∧ some k_ ≠ (v167 : Value).ownBlock ∧ some k_ ≠ (v169 : Value).ownBlock ∧ some k_ ≠ (v173 : Value).ownBlock ∧ some k_ ≠ (v175 : Value).ownBlock)) (HO_1.out) (fun k_ hk => ⟨hk.1.1.1.1, ⟨hk.1.1.1.2, ⟨hk.1.1.2, ⟨hk.1.2, hk.2⟩⟩⟩⟩))))) (Reps.none _ _))); intro v178 w37 ho38 hb hg_ hnew_; clear hg_ hnew_; (first | rw [← Ny177.out] at ho38 | (simp only [Int.reduceToNat] at ho38; rw [← Ny177.out] at ho38)); have n0_ := Aside0.mk (Kd.V_elder' (kV HO_1) (Kd.N_base ho38) hb); have n1_ := Aside0.mk (Kd.N_elder' (by (with_reducible repeat (first | apply Kd.N_alloc | apply Kd.N_drewN | apply Kd.N_drew)); exact HO168.out) (Kd.N_base ho38) hb); have n2_ := Aside0.mk (Kd.R_below (kR HO170) hb); have n3_ := Aside0.mk (Kd.N_elder' (by (with_reducible repeat (first | apply Kd.N_alloc | apply Kd.N_drewN | apply Kd.N_drew)); exact HO174.out) (Kd.N_base ho38) hb); have n4_ := Aside0.mk (Kd.R_below (kR HO176) hb); have n5_ := Aside0.mk (Kd.N_lower ho38 (below_size bA)); have n6_ := Aside0.mk (below_step bA hb); clear HO_1; clear HO168; clear HO170; clear HO174; clear HO176; clear HB; have HO_1 := n0_; have HO168 := n1_; have HO170 := n2_; have HO174 := n3_; have HO176 := n4_; have HO179 := n5_; have HB := n6_; clear n0_ n1_ n2_ n3_ n4_ n5_ n6_; clear hb ho38; obtain ⟨Ao39, co39, eo39⟩ := Kd.N_slice HO168.out; subst eo39; obtain ⟨Ao40, co40, eo40⟩ := Kd.N_slice HO179.out; subst eo40) | ((with_reducible refine gate_callee (f := 18) rfl ?_); refine goesL_ (some 87) rfl rfl Tryd.func18 (by kernel_rfl) rfl #[.slice Ao39 t165.length co39, .slice Ao40 y177.length co40] rfl aP ?_; (with_reducible refine (flongref05_Same.calls k3 _ _ t165 _ _ y177 true _ ?side1 ?side2 ?side3 ?side4 A29.out).mono ?_); (case side1 => repeat (first | exact (Kd.N_reads' HO168.out).2.2 | (with_reducible refine Kd.C_alloc ?_ _) | (with_reducible refine Kd.C_drewN ?_ _) | (with_reducible refine Kd.C_drew ?_))); (case side2 => exact (Kd.N_reads' HO168.out).2.1); (case side3 => repeat (first | exact (Kd.N_reads' HO179.out).2.2 | (with_reducible refine Kd.C_alloc ?_ _) | (with_reducible refine Kd.C_drewN ?_ _) | (with_reducible refine Kd.C_drew ?_))); (case side4 => exact (Kd.N_reads' HO179.out).2.1); rintro e w41 ⟨rfl, hb⟩; refine ⟨_, rfl, ?_⟩; have n0_ := Aside0.mk (Kd.V_below (kV HO_1) hb); have n1_ := Aside0.mk (Kd.N_below (by (with_reducible repeat (first | apply Kd.N_alloc | apply Kd.N_drewN | apply Kd.N_drew)); exact HO168.out) hb); have n2_ := Aside0.mk (Kd.R_below (kR HO170) hb); have n3_ := Aside0.mk (Kd.N_below (by (with_reducible repeat (first | apply Kd.N_alloc | apply Kd.N_drewN | apply Kd.N_drew)); exact HO174.out) hb); have n4_ := Aside0.mk (Kd.R_below (kR HO176) hb); have n5_ := Aside0.mk (Kd.N_below (by (with_reducible repeat (first | apply Kd.N_alloc | apply Kd.N_drewN | apply Kd.N_drew)); exact HO179.out) hb); have n6_ := Aside0.mk (below_step bA hb); clear HO_1; clear HO168; clear HO170; clear HO174; clear HO176; clear HO179; clear HB; have HO_1 := n0_; have HO168 := n1_; have HO170 := n2_; have HO174 := n3_; have HO176 := n4_; have HO179 := n5_; have HB := n6_; clear n0_ n1_ n2_ n3_ n4_ n5_ n6_; (try clear hb); (try clear hb2); (try clear hk); (try clear hi); obtain ⟨Ao42, co42, eo42⟩ := Kd.N_slice HO174.out; subst eo42) | (go_at_call 18; (with_reducible refine (flongref05_Same.calls k3 _ _ t171 _ _ y177 true _ ?side1 ?side2 ?side3 ?side4 A31.out).mono ?_); (case side1 => repeat (first | exact (Kd.N_reads' HO174.out).2.2 | (with_reducible refine Kd.C_alloc ?_ _) | (with_reducible refine Kd.C_drewN ?_ _) | (with_reducible refine Kd.C_drew ?_))); (case side2 => exact (Kd.N_reads' HO174.out).2.1); (case side3 => repeat (first | exact (Kd.N_reads' HO179.out).2.2 | (with_reducible refine Kd.C_alloc ?_ _) | (with_reducible refine Kd.C_drewN ?_ _) | (with_reducible refine Kd.C_drew ?_))); (case side4 => exact (Kd.N_reads' HO179.out).2.1); rintro e w43 ⟨rfl, hb⟩; have n0_ := Aside0.mk (Kd.V_below (kV HO_1) hb); have n1_ := Aside0.mk (Kd.N_below (by (with_reducible repeat (first | apply Kd.N_alloc | apply Kd.N_drewN | apply Kd.N_drew)); exact HO168.out) hb); have n2_ := Aside0.mk (Kd.R_below (kR HO170) hb); have n3_ := Aside0.mk (Kd.N_below (by (with_reducible repeat (first | apply Kd.N_alloc | apply Kd.N_drewN | apply Kd.N_drew)); exact HO174.out) hb); have n4_ := Aside0.mk (Kd.R_below (kR HO176) hb); have n5_ := Aside0.mk (Kd.N_below (by (with_reducible repeat (first | apply Kd.N_alloc | apply Kd.N_drewN | apply Kd.N_drew)); exact HO179.out) hb); have n6_ := Aside0.mk (below_step bA hb); clear HO_1; clear HO168; clear HO170; clear HO174; clear HO176; clear HO179; clear HB; have HO_1 := n0_; have HO168 := n1_; have HO170 := n2_; have HO174 := n3_; have HO176 := n4_; have HO179 := n5_; have HB := n6_; clear n0_ n1_ n2_ n3_ n4_ n5_ n6_; (try clear hb); (try clear hb2); (try clear hk); (try clear hi); obtain ⟨Ao44, co44, eo44⟩ := Kd.R_slice HO170.out; subst eo44; obtain ⟨Ao45, co45, eo45⟩ := Kd.R_slice HO176.out; subst eo45) | (go_at_call 11; (with_reducible refine (flonglaw05_known.calls k3  t182 _ ?side1 A34.out).mono ?_); (case side1 => exact GOK.of_below (GOK.sub HG.out rfl) bA); rintro e w46 ⟨rfl, hb⟩; have n0_ := Aside0.mk (Kd.V_below (kV HO_1) hb); have n1_ := Aside0.mk (Kd.N_below (by (with_reducible repeat (first | apply Kd.N_alloc | apply Kd.N_drewN | apply Kd.N_drew)); exact HO168.out) hb); have n2_ := Aside0.mk (Kd.R_below (kR HO170) hb); have n3_ := Aside0.mk (Kd.N_below (by (with_reducible repeat (first | apply Kd.N_alloc | apply Kd.N_drewN | apply Kd.N_drew)); exact HO174.out) hb); have n4_ := Aside0.mk (Kd.R_below (kR HO176) hb); have n5_ := Aside0.mk (Kd.N_below (by (with_reducible repeat (first | apply Kd.N_alloc | apply Kd.N_drewN | apply Kd.N_drew)); exact HO179.out) hb); have n6_ := Aside0.mk (below_step bA hb); clear HO_1; clear HO168; clear HO170; clear HO174; clear HO176; clear HO179; clear HB; have HO_1 := n0_; have HO168 := n1_; have HO170 := n2_; have HO174 := n3_; have HO176 := n4_; have HO179 := n5_; have HB := n6_; clear n0_ n1_ n2_ n3_ n4_ n5_ n6_; (try clear hb); (try clear hb2); (try clear hk); (try clear hi)))
                   go_ret
                   exact ⟨by first | rfl | (simp [errW_none, errW_some] <;> rfl) | (simp only [← hji20]; first | rfl | (simp [errW_none, errW_some] <;> rfl)) | (simp [*, errW_none, errW_some] <;> rfl), bA⟩
                  ·rw [if_neg c33] at H
                   have c33b0 : ((wrap64 ((t166.length : Int) + (t172.length : Int))) == 0) = false := beq_eq_false_iff_ne.mpr c33
                   have c33b1 : ((wrap64 ((t166.length : Int) + (t172.length : Int))) != 0) = true := bne_iff_ne.mpr c33
                   obtain rfl := Option.some.inj H
                   go_wp2_with (first | ((with_reducible refine gate_callee (f := 17) rfl ?_); refine goesL_ (some 69) rfl rfl Tryd.func17 (by kernel_rfl) rfl #[.string (((⟨#[46]⟩ : ByteArray) ++ ((⟨#[32, 32, 32, 32, 32, 32, 32, 32, 32, 32]⟩ : ByteArray).extract 0 ((ji20) : Int).toNat)) ++ x9_3)] rfl (by (try simp only [List.map_toArray, List.map_cons, List.map_nil]); first | done | (simp only [hji20]; rfl) | rfl | (simp only [List.length_drop, List.length_take]; rfl)) ?_; (with_reducible refine (lines_Read.calls k3 (((⟨#[46]⟩ : ByteArray) ++ ((⟨#[32, 32, 32, 32, 32, 32, 32, 32, 32, 32]⟩ : ByteArray).extract 0 ((ji20) : Int).toNat)) ++ x9_3) t165 t166 _ A25.out).mono ?_); rintro e w47 ⟨v167, v169, rfl, ho0, ho1, hb⟩; refine ⟨_, rfl, ?_⟩; replace HO_1 := Aside0.mk (Kd.V_mono (Kd.V_told (Kd.V_told (Kd.V_old (kV HO_1) hb) (Kd.S_base ho0)) (Kd.R_base ho1)) (fun _ h_ => h_.1)); have HO168 := Aside0.mk (Kd.N_lower (Kd.N_mono (ok' := fun k_ => (P1_ k_ ∨ w.heap.size ≤ k_) ∧ some k_ ≠ (v169 : Value).ownBlock) (Kd.S_N (Kd.S_bound (Kd.S_apart' ho0 (Kd.R_typed ho1) (by decide)))) (fun k_ hk_ => ⟨(.inr (Nat.le_trans (below_size bA) hk_.2.1)), hk_.1.2⟩)) (below_size bA)); have HO170 := Aside0.mk (Kd.R_lower (Kd.R_newM (M := fun k_ => (w.heap.size ≤ k_)) ho1 (below_size bA) (fun k_ h_ => h_)) (below_size bA)); replace HB := Aside0.mk (below_step bA hb); (try clear hb); (try clear hb2); (try clear hk); (try clear hi); (try clear ho0); (try clear ho1)) | ((with_reducible refine gate_callee (f := 17) rfl ?_); refine goesL_ (some 78) rfl rfl Tryd.func17 (by kernel_rfl) rfl #[.string ((((⟨#[39]⟩ : ByteArray) ++ ((⟨#[32, 32, 32, 32, 32, 32, 32, 32, 32, 32]⟩ : ByteArray).extract 0 ((ji20) : Int).toNat)) ++ x9_3) ++ (⟨#[10]⟩ : ByteArray))] rfl (by (try simp only [List.map_toArray, List.map_cons, List.map_nil]); first | done | (simp only [hji20]; rfl) | rfl | (simp only [List.length_drop, List.length_take]; rfl)) ?_; (with_reducible refine (lines_Read.calls k3 ((((⟨#[39]⟩ : ByteArray) ++ ((⟨#[32, 32, 32, 32, 32, 32, 32, 32, 32, 32]⟩ : ByteArray).extract 0 ((ji20) : Int).toNat)) ++ x9_3) ++ (⟨#[10]⟩ : ByteArray)) t171 t172 _ A28.out).mono ?_); rintro e w48 ⟨v173, v175, rfl, ho0, ho1, hb⟩; refine ⟨_, rfl, ?_⟩; have n0_ := Aside0.mk (Kd.V_mono (Kd.V_told (Kd.V_told (Kd.V_old (kV HO_1) hb) (Kd.S_base ho0)) (Kd.R_base ho1)) (fun _ h_ => h_.1)); have n1_ := Aside0.mk (Kd.N_mono (Kd.N_told (Kd.N_told (Kd.N_old (by (with_reducible repeat (first | apply Kd.N_alloc | apply Kd.N_drewN | apply Kd.N_drew)); exact HO168.out) hb) (Kd.S_base ho0)) (Kd.R_base ho1)) (fun _ h_ => h_.1)); have n2_ := Aside0.mk (Kd.R_elder' (kR HO170) (Kd.R_base ho1) hb); have n3_ := Aside0.mk (Kd.N_lower (Kd.N_mono (ok' := fun k_ => (P1_ k_ ∨ w.heap.size ≤ k_) ∧ some k_ ≠ (v175 : Value).ownBlock ∧ some k_ ≠ (v167 : Value).ownBlock ∧ some k_ ≠ (v169 : Value).ownBlock) (Kd.S_N (Kd.S_bound (Kd.S_apart' ho0 (Kd.R_typed ho1) (by decide)))) (fun k_ hk_ => ⟨(.inr (Nat.le_trans (below_size bA) hk_.2.1)), hk_.1.2, (Kd.fresh' (Kd.N_lt (by (with_reducible repeat (first | apply Kd.N_alloc | apply Kd.N_drewN | apply Kd.N_drew)); exact HO168.out)) k_ hk_.2.1), (Kd.fresh' (Kd.R_lt (kR HO170)) k_ hk_.2.1)⟩)) (below_size bA)); have n4_ := Aside0.mk (Kd.R_lower (Kd.R_new' (Kd.R_newM (M := fun k_ => (w.heap.size ≤ k_)) ho1 (below_size bA) (fun k_ h_ => h_)) (Kd.R_lt (kR HO170))) (below_size bA)); have n5_ := Aside0.mk (below_step bA hb); clear HO_1; clear HO168; clear HO170; clear HB; have HO_1 := n0_; have HO168 := n1_; have HO170 := n2_; have HO174 := n3_; have HO176 := n4_; have HB := n5_; clear n0_ n1_ n2_ n3_ n4_ n5_; (try clear hb); (try clear hb2); (try clear hk); (try clear hi); (try clear ho0); (try clear ho1)) | ((with_reducible refine gate_dst (N := 84) rfl ?_); (try (refine gate_guard (by rfl) ?_; dsimp only)); refine Kd.N_lit k35 _ 35 ?hg (N' := 84) ?hd (xs := ([(⟨1, a0, l1, (⟨#[]⟩ : ByteArray)⟩ : S35)] : List (S35))) (inner := [.int .i64 1, .string a0, .slice A1 l1.length c1, .string (⟨#[]⟩ : ByteArray)]) (ok := (fun k_ => (P1_ k_ ∨ w.heap.size ≤ k_) ∧ some k_ ≠ (v167 : Value).ownBlock ∧ some k_ ≠ (v169 : Value).ownBlock ∧ some k_ ≠ (v173 : Value).ownBlock ∧ some k_ ≠ (v175 : Value).ownBlock)) (okp := (fun k_ => (P1_ k_ ∨ w.heap.size ≤ k_) ∧ some k_ ≠ (v167 : Value).ownBlock ∧ some k_ ≠ (v169 : Value).ownBlock ∧ some k_ ≠ (v173 : Value).ownBlock ∧ some k_ ≠ (v175 : Value).ownBlock)) ?hr ?hp (fun _ hk => hk) ((show ∀ k_, w48.heap.size ≤ k_ → (fun k_ => (P1_ k_ ∨ w.heap.size ≤ k_) ∧ some k_ ≠ (v167 : Value).ownBlock ∧ some k_ ≠ (v169 : Value).ownBlock ∧ some k_ ≠ (v173 : Value).ownBlock ∧ some k_ ≠ (v175 : Value).ownBlock) k_ from fun k_ hk => ⟨(.inr (Nat.le_trans (below_size bA) hk)), Kd.fresh' (Kd.N_lt (by (with_reducible repeat (first | apply Kd.N_alloc | apply Kd.N_drewN | apply Kd.N_drew)); exact HO168.out)) k_ hk, Kd.fresh' (Kd.R_lt (kR HO170)) k_ hk, Kd.fresh' (Kd.N_lt (by (with_reducible repeat (first | apply Kd.N_alloc | apply Kd.N_drewN | apply Kd.N_drew)); exact HO174.out)) k_ hk, Kd.fresh' (Kd.R_lt (kR HO176)) k_ hk⟩) _ (Nat.le_refl _)) (Below.refl _ _) (Nat.le_refl _) (by simp) ?_; (case hd => rfl); (case hg => rfl); (case hr => first | (go_simp; done) | (go_simp; rfl)); (case hp => exact (Reps.c4 (show Kd.FK k35 _ _ (⟨1, a0, l1, (⟨#[]⟩ : ByteArray)⟩ : S35) [.int .i64 1, .string a0, .slice A1 l1.length c1, .string (⟨#[]⟩ : ByteArray)] from (k35_mkF _ _ (⟨1, a0, l1, (⟨#[]⟩ : ByteArray)⟩ : S35) (Kd.V_reads' (Kd.V_mono (ok' := (fun k_ => (P1_ k_ ∨ w.heap.size ≤ k_) ∧ some k_ ≠ (v167 : Value).ownBlock ∧ some k_ ≠ (v169 : Value).ownBlock ∧ some k_ ≠ (v173 : Value).ownBlock ∧ some k_ ≠ (v175 : Value).ownBlock)) (HO_1.out) (fun k_ hk => ⟨hk.1.1.1.1, ⟨hk.1.1.1.2, ⟨hk.1.1.2, ⟨hk.1.2, hk.2⟩⟩⟩⟩))).2.1 (Kd.V_F (Kd.V_mono (ok' := (fun k_ => (P1_ k_ ∨ w.heap.size ≤ k_) ∧ some k_ ≠ (v167 : Value).ownBlock ∧ some k_ ≠ (v169 : Value).ownBlock ∧ some k_ ≠ (v173 : Value).ownBlock ∧ some k_ ≠ (v175 : Value).ownBlock)) (HO_1.out) (fun k_ hk => ⟨hk.1.1.1.1, ⟨hk.1.1.1.2, ⟨hk.1.1.2, ⟨hk.1.2, hk.2⟩⟩⟩⟩))))) (Reps.none _ _))); intro v178 w49 ho50 hb hg_ hnew_; clear hg_ hnew_; (first | rw [← Ny177.out] at ho50 | (simp only [Int.reduceToNat] at ho50; rw [← Ny177.out] at ho50)); have n0_ := Aside0.mk (Kd.V_elder' (kV HO_1) (Kd.N_base ho50) hb); have n1_ := Aside0.mk (Kd.N_elder' (by (with_reducible repeat (first | apply Kd.N_alloc | apply Kd.N_drewN | apply Kd.N_drew)); exact HO168.out) (Kd.N_base ho50) hb); have n2_ := Aside0.mk (Kd.R_below (kR HO170) hb); have n3_ := Aside0.mk (Kd.N_elder' (by (with_reducible repeat (first | apply Kd.N_alloc | apply Kd.N_drewN | apply Kd.N_drew)); exact HO174.out) (Kd.N_base ho50) hb); have n4_ := Aside0.mk (Kd.R_below (kR HO176) hb); have n5_ := Aside0.mk (Kd.N_lower ho50 (below_size bA)); have n6_ := Aside0.mk (below_step bA hb); clear HO_1; clear HO168; clear HO170; clear HO174; clear HO176; clear HB; have HO_1 := n0_; have HO168 := n1_; have HO170 := n2_; have HO174 := n3_; have HO176 := n4_; have HO179 := n5_; have HB := n6_; clear n0_ n1_ n2_ n3_ n4_ n5_ n6_; clear hb ho50; obtain ⟨Ao51, co51, eo51⟩ := Kd.N_slice HO168.out; subst eo51; obtain ⟨Ao52, co52, eo52⟩ := Kd.N_slice HO179.out; subst eo52) | ((with_reducible refine gate_callee (f := 18) rfl ?_); refine goesL_ (some 87) rfl rfl Tryd.func18 (by kernel_rfl) rfl #[.slice Ao51 t165.length co51, .slice Ao52 y177.length co52] rfl aP ?_; (with_reducible refine (flongref05_Same.calls k3 _ _ t165 _ _ y177 true _ ?side1 ?side2 ?side3 ?side4 A29.out).mono ?_); (case side1 => repeat (first | exact (Kd.N_reads' HO168.out).2.2 | (with_reducible refine Kd.C_alloc ?_ _) | (with_reducible refine Kd.C_drewN ?_ _) | (with_reducible refine Kd.C_drew ?_))); (case side2 => exact (Kd.N_reads' HO168.out).2.1); (case side3 => repeat (first | exact (Kd.N_reads' HO179.out).2.2 | (with_reducible refine Kd.C_alloc ?_ _) | (with_reducible refine Kd.C_drewN ?_ _) | (with_reducible refine Kd.C_drew ?_))); (case side4 => exact (Kd.N_reads' HO179.out).2.1); rintro e w53 ⟨rfl, hb⟩; refine ⟨_, rfl, ?_⟩; have n0_ := Aside0.mk (Kd.V_below (kV HO_1) hb); have n1_ := Aside0.mk (Kd.N_below (by (with_reducible repeat (first | apply Kd.N_alloc | apply Kd.N_drewN | apply Kd.N_drew)); exact HO168.out) hb); have n2_ := Aside0.mk (Kd.R_below (kR HO170) hb); have n3_ := Aside0.mk (Kd.N_below (by (with_reducible repeat (first | apply Kd.N_alloc | apply Kd.N_drewN | apply Kd.N_drew)); exact HO174.out) hb); have n4_ := Aside0.mk (Kd.R_below (kR HO176) hb); have n5_ := Aside0.mk (Kd.N_below (by (with_reducible repeat (first | apply Kd.N_alloc | apply Kd.N_drewN | apply Kd.N_drew)); exact HO179.out) hb); have n6_ := Aside0.mk (below_step bA hb); clear HO_1; clear HO168; clear HO170; clear HO174; clear HO176; clear HO179; clear HB; have HO_1 := n0_; have HO168 := n1_; have HO170 := n2_; have HO174 := n3_; have HO176 := n4_; have HO179 := n5_; have HB := n6_; clear n0_ n1_ n2_ n3_ n4_ n5_ n6_; (try clear hb); (try clear hb2); (try clear hk); (try clear hi); obtain ⟨Ao54, co54, eo54⟩ := Kd.N_slice HO174.out; subst eo54) | (go_at_call 18; (with_reducible refine (flongref05_Same.calls k3 _ _ t171 _ _ y177 true _ ?side1 ?side2 ?side3 ?side4 A31.out).mono ?_); (case side1 => repeat (first | exact (Kd.N_reads' HO174.out).2.2 | (with_reducible refine Kd.C_alloc ?_ _) | (with_reducible refine Kd.C_drewN ?_ _) | (with_reducible refine Kd.C_drew ?_))); (case side2 => exact (Kd.N_reads' HO174.out).2.1); (case side3 => repeat (first | exact (Kd.N_reads' HO179.out).2.2 | (with_reducible refine Kd.C_alloc ?_ _) | (with_reducible refine Kd.C_drewN ?_ _) | (with_reducible refine Kd.C_drew ?_))); (case side4 => exact (Kd.N_reads' HO179.out).2.1); rintro e w55 ⟨rfl, hb⟩; have n0_ := Aside0.mk (Kd.V_below (kV HO_1) hb); have n1_ := Aside0.mk (Kd.N_below (by (with_reducible repeat (first | apply Kd.N_alloc | apply Kd.N_drewN | apply Kd.N_drew)); exact HO168.out) hb); have n2_ := Aside0.mk (Kd.R_below (kR HO170) hb); have n3_ := Aside0.mk (Kd.N_below (by (with_reducible repeat (first | apply Kd.N_alloc | apply Kd.N_drewN | apply Kd.N_drew)); exact HO174.out) hb); have n4_ := Aside0.mk (Kd.R_below (kR HO176) hb); have n5_ := Aside0.mk (Kd.N_below (by (with_reducible repeat (first | apply Kd.N_alloc | apply Kd.N_drewN | apply Kd.N_drew)); exact HO179.out) hb); have n6_ := Aside0.mk (below_step bA hb); clear HO_1; clear HO168; clear HO170; clear HO174; clear HO176; clear HO179; clear HB; have HO_1 := n0_; have HO168 := n1_; have HO170 := n2_; have HO174 := n3_; have HO176 := n4_; have HO179 := n5_; have HB := n6_; clear n0_ n1_ n2_ n3_ n4_ n5_ n6_; (try clear hb); (try clear hb2); (try clear hk); (try clear hi); obtain ⟨Ao56, co56, eo56⟩ := Kd.R_slice HO170.out; subst eo56; obtain ⟨Ao57, co57, eo57⟩ := Kd.R_slice HO176.out; subst eo57))
                   go_ret
                   exact ⟨by first | rfl | (simp [errW_none, errW_some] <;> rfl) | (simp only [← hji20]; first | rfl | (simp [errW_none, errW_some] <;> rfl)) | (simp [*, errW_none, errW_some] <;> rfl), bA⟩
                 ·replace c32 := Bool.eq_false_iff.mpr c32
                  subst c32
                  have H1 : (some false) = some r := by rw [if_neg (show ¬ (false = true) by decide)] at H; exact H
                  clear H
                  have H := H1
                  clear H1
                  obtain rfl := Option.some.inj H
                  go_wp2_with (first | ((with_reducible refine gate_callee (f := 17) rfl ?_); refine goesL_ (some 69) rfl rfl Tryd.func17 (by kernel_rfl) rfl #[.string (((⟨#[46]⟩ : ByteArray) ++ ((⟨#[32, 32, 32, 32, 32, 32, 32, 32, 32, 32]⟩ : ByteArray).extract 0 ((ji20) : Int).toNat)) ++ x9_3)] rfl (by (try simp only [List.map_toArray, List.map_cons, List.map_nil]); first | done | (simp only [hji20]; rfl) | rfl | (simp only [List.length_drop, List.length_take]; rfl)) ?_; (with_reducible refine (lines_Read.calls k3 (((⟨#[46]⟩ : ByteArray) ++ ((⟨#[32, 32, 32, 32, 32, 32, 32, 32, 32, 32]⟩ : ByteArray).extract 0 ((ji20) : Int).toNat)) ++ x9_3) t165 t166 _ A25.out).mono ?_); rintro e w58 ⟨v167, v169, rfl, ho0, ho1, hb⟩; refine ⟨_, rfl, ?_⟩; replace HO_1 := Aside0.mk (Kd.V_mono (Kd.V_told (Kd.V_told (Kd.V_old (kV HO_1) hb) (Kd.S_base ho0)) (Kd.R_base ho1)) (fun _ h_ => h_.1)); have HO168 := Aside0.mk (Kd.N_lower (Kd.N_mono (ok' := fun k_ => (P1_ k_ ∨ w.heap.size ≤ k_) ∧ some k_ ≠ (v169 : Value).ownBlock) (Kd.S_N (Kd.S_bound (Kd.S_apart' ho0 (Kd.R_typed ho1) (by decide)))) (fun k_ hk_ => ⟨(.inr (Nat.le_trans (below_size bA) hk_.2.1)), hk_.1.2⟩)) (below_size bA)); have HO170 := Aside0.mk (Kd.R_lower (Kd.R_newM (M := fun k_ => (w.heap.size ≤ k_)) ho1 (below_size bA) (fun k_ h_ => h_)) (below_size bA)); replace HB := Aside0.mk (below_step bA hb); (try clear hb); (try clear hb2); (try clear hk); (try clear hi); (try clear ho0); (try clear ho1)) | ((with_reducible refine gate_callee (f := 17) rfl ?_); refine goesL_ (some 78) rfl rfl Tryd.func17 (by kernel_rfl) rfl #[.string ((((⟨#[39]⟩ : ByteArray) ++ ((⟨#[32, 32, 32, 32, 32, 32, 32, 32, 32, 32]⟩ : ByteArray).extract 0 ((ji20) : Int).toNat)) ++ x9_3) ++ (⟨#[10]⟩ : ByteArray))] rfl (by (try simp only [List.map_toArray, List.map_cons, List.map_nil]); first | done | (simp only [hji20]; rfl) | rfl | (simp only [List.length_drop, List.length_take]; rfl)) ?_; (with_reducible refine (lines_Read.calls k3 ((((⟨#[39]⟩ : ByteArray) ++ ((⟨#[32, 32, 32, 32, 32, 32, 32, 32, 32, 32]⟩ : ByteArray).extract 0 ((ji20) : Int).toNat)) ++ x9_3) ++ (⟨#[10]⟩ : ByteArray)) t171 t172 _ A28.out).mono ?_); rintro e w59 ⟨v173, v175, rfl, ho0, ho1, hb⟩; refine ⟨_, rfl, ?_⟩; have n0_ := Aside0.mk (Kd.V_mono (Kd.V_told (Kd.V_told (Kd.V_old (kV HO_1) hb) (Kd.S_base ho0)) (Kd.R_base ho1)) (fun _ h_ => h_.1)); have n1_ := Aside0.mk (Kd.N_mono (Kd.N_told (Kd.N_told (Kd.N_old (by (with_reducible repeat (first | apply Kd.N_alloc | apply Kd.N_drewN | apply Kd.N_drew)); exact HO168.out) hb) (Kd.S_base ho0)) (Kd.R_base ho1)) (fun _ h_ => h_.1)); have n2_ := Aside0.mk (Kd.R_elder' (kR HO170) (Kd.R_base ho1) hb); have n3_ := Aside0.mk (Kd.N_lower (Kd.N_mono (ok' := fun k_ => (P1_ k_ ∨ w.heap.size ≤ k_) ∧ some k_ ≠ (v175 : Value).ownBlock ∧ some k_ ≠ (v167 : Value).ownBlock ∧ some k_ ≠ (v169 : Value).ownBlock) (Kd.S_N (Kd.S_bound (Kd.S_apart' ho0 (Kd.R_typed ho1) (by decide)))) (fun k_ hk_ => ⟨(.inr (Nat.le_trans (below_size bA) hk_.2.1)), hk_.1.2, (Kd.fresh' (Kd.N_lt (by (with_reducible repeat (first | apply Kd.N_alloc | apply Kd.N_drewN | apply Kd.N_drew)); exact HO168.out)) k_ hk_.2.1), (Kd.fresh' (Kd.R_lt (kR HO170)) k_ hk_.2.1)⟩)) (below_size bA)); have n4_ := Aside0.mk (Kd.R_lower (Kd.R_new' (Kd.R_newM (M := fun k_ => (w.heap.size ≤ k_)) ho1 (below_size bA) (fun k_ h_ => h_)) (Kd.R_lt (kR HO170))) (below_size bA)); have n5_ := Aside0.mk (below_step bA hb); clear HO_1; clear HO168; clear HO170; clear HB; have HO_1 := n0_; have HO168 := n1_; have HO170 := n2_; have HO174 := n3_; have HO176 := n4_; have HB := n5_; clear n0_ n1_ n2_ n3_ n4_ n5_; (try clear hb); (try clear hb2); (try clear hk); (try clear hi); (try clear ho0); (try clear ho1)) | ((with_reducible refine gate_dst (N := 84) rfl ?_); (try (refine gate_guard (by rfl) ?_; dsimp only)); refine Kd.N_lit k35 _ 35 ?hg (N' := 84) ?hd (xs := ([(⟨1, a0, l1, (⟨#[]⟩ : ByteArray)⟩ : S35)] : List (S35))) (inner := [.int .i64 1, .string a0, .slice A1 l1.length c1, .string (⟨#[]⟩ : ByteArray)]) (ok := (fun k_ => (P1_ k_ ∨ w.heap.size ≤ k_) ∧ some k_ ≠ (v167 : Value).ownBlock ∧ some k_ ≠ (v169 : Value).ownBlock ∧ some k_ ≠ (v173 : Value).ownBlock ∧ some k_ ≠ (v175 : Value).ownBlock)) (okp := (fun k_ => (P1_ k_ ∨ w.heap.size ≤ k_) ∧ some k_ ≠ (v167 : Value).ownBlock ∧ some k_ ≠ (v169 : Value).ownBlock ∧ some k_ ≠ (v173 : Value).ownBlock ∧ some k_ ≠ (v175 : Value).ownBlock)) ?hr ?hp (fun _ hk => hk) ((show ∀ k_, w59.heap.size ≤ k_ → (fun k_ => (P1_ k_ ∨ w.heap.size ≤ k_) ∧ some k_ ≠ (v167 : Value).ownBlock ∧ some k_ ≠ (v169 : Value).ownBlock ∧ some k_ ≠ (v173 : Value).ownBlock ∧ some k_ ≠ (v175 : Value).ownBlock) k_ from fun k_ hk => ⟨(.inr (Nat.le_trans (below_size bA) hk)), Kd.fresh' (Kd.N_lt (by (with_reducible repeat (first | apply Kd.N_alloc | apply Kd.N_drewN | apply Kd.N_drew)); exact HO168.out)) k_ hk, Kd.fresh' (Kd.R_lt (kR HO170)) k_ hk, Kd.fresh' (Kd.N_lt (by (with_reducible repeat (first | apply Kd.N_alloc | apply Kd.N_drewN | apply Kd.N_drew)); exact HO174.out)) k_ hk, Kd.fresh' (Kd.R_lt (kR HO176)) k_ hk⟩) _ (Nat.le_refl _)) (Below.refl _ _) (Nat.le_refl _) (by simp) ?_; (case hd => rfl); (case hg => rfl); (case hr => first | (go_simp; done) | (go_simp; rfl)); (case hp => exact (Reps.c4 (show Kd.FK k35 _ _ (⟨1, a0, l1, (⟨#[]⟩ : ByteArray)⟩ : S35) [.int .i64 1, .string a0, .slice A1 l1.length c1, .string (⟨#[]⟩ : ByteArray)] from (k35_mkF _ _ (⟨1, a0, l1, (⟨#[]⟩ : ByteArray)⟩ : S35) (Kd.V_reads' (Kd.V_mono (ok' := (fun k_ => (P1_ k_ ∨ w.heap.size ≤ k_) ∧ some k_ ≠ (v167 : Value).ownBlock ∧ some k_ ≠ (v169 : Value).ownBlock ∧ some k_ ≠ (v173 : Value).ownBlock ∧ some k_ ≠ (v175 : Value).ownBlock)) (HO_1.out) (fun k_ hk => ⟨hk.1.1.1.1, ⟨hk.1.1.1.2, ⟨hk.1.1.2, ⟨hk.1.2, hk.2⟩⟩⟩⟩))).2.1 (Kd.V_F (Kd.V_mono (ok' := (fun k_ => (P1_ k_ ∨ w.heap.size ≤ k_) ∧ some k_ ≠ (v167 : Value).ownBlock ∧ some k_ ≠ (v169 : Value).ownBlock ∧ some k_ ≠ (v173 : Value).ownBlock ∧ some k_ ≠ (v175 : Value).ownBlock)) (HO_1.out) (fun k_ hk => ⟨hk.1.1.1.1, ⟨hk.1.1.1.2, ⟨hk.1.1.2, ⟨hk.1.2, hk.2⟩⟩⟩⟩))))) (Reps.none _ _))); intro v178 w60 ho61 hb hg_ hnew_; clear hg_ hnew_; (first | rw [← Ny177.out] at ho61 | (simp only [Int.reduceToNat] at ho61; rw [← Ny177.out] at ho61)); have n0_ := Aside0.mk (Kd.V_elder' (kV HO_1) (Kd.N_base ho61) hb); have n1_ := Aside0.mk (Kd.N_elder' (by (with_reducible repeat (first | apply Kd.N_alloc | apply Kd.N_drewN | apply Kd.N_drew)); exact HO168.out) (Kd.N_base ho61) hb); have n2_ := Aside0.mk (Kd.R_below (kR HO170) hb); have n3_ := Aside0.mk (Kd.N_elder' (by (with_reducible repeat (first | apply Kd.N_alloc | apply Kd.N_drewN | apply Kd.N_drew)); exact HO174.out) (Kd.N_base ho61) hb); have n4_ := Aside0.mk (Kd.R_below (kR HO176) hb); have n5_ := Aside0.mk (Kd.N_lower ho61 (below_size bA)); have n6_ := Aside0.mk (below_step bA hb); clear HO_1; clear HO168; clear HO170; clear HO174; clear HO176; clear HB; have HO_1 := n0_; have HO168 := n1_; have HO170 := n2_; have HO174 := n3_; have HO176 := n4_; have HO179 := n5_; have HB := n6_; clear n0_ n1_ n2_ n3_ n4_ n5_ n6_; clear hb ho61; obtain ⟨Ao62, co62, eo62⟩ := Kd.N_slice HO168.out; subst eo62; obtain ⟨Ao63, co63, eo63⟩ := Kd.N_slice HO179.out; subst eo63) | ((with_reducible refine gate_callee (f := 18) rfl ?_); refine goesL_ (some 87) rfl rfl Tryd.func18 (by kernel_rfl) rfl #[.slice Ao62 t165.length co62, .slice Ao63 y177.length co63] rfl aP ?_; (with_reducible refine (flongref05_Same.calls k3 _ _ t165 _ _ y177 true _ ?side1 ?side2 ?side3 ?side4 A29.out).mono ?_); (case side1 => repeat (first | exact (Kd.N_reads' HO168.out).2.2 | (with_reducible refine Kd.C_alloc ?_ _) | (with_reducible refine Kd.C_drewN ?_ _) | (with_reducible refine Kd.C_drew ?_))); (case side2 => exact (Kd.N_reads' HO168.out).2.1); (case side3 => repeat (first | exact (Kd.N_reads' HO179.out).2.2 | (with_reducible refine Kd.C_alloc ?_ _) | (with_reducible refine Kd.C_drewN ?_ _) | (with_reducible refine Kd.C_drew ?_))); (case side4 => exact (Kd.N_reads' HO179.out).2.1); rintro e w64 ⟨rfl, hb⟩; refine ⟨_, rfl, ?_⟩; have n0_ := Aside0.mk (Kd.V_below (kV HO_1) hb); have n1_ := Aside0.mk (Kd.N_below (by (with_reducible repeat (first | apply Kd.N_alloc | apply Kd.N_drewN | apply Kd.N_drew)); exact HO168.out) hb); have n2_ := Aside0.mk (Kd.R_below (kR HO170) hb); have n3_ := Aside0.mk (Kd.N_below (by (with_reducible repeat (first | apply Kd.N_alloc | apply Kd.N_drewN | apply Kd.N_drew)); exact HO174.out) hb); have n4_ := Aside0.mk (Kd.R_below (kR HO176) hb); have n5_ := Aside0.mk (Kd.N_below (by (with_reducible repeat (first | apply Kd.N_alloc | apply Kd.N_drewN | apply Kd.N_drew)); exact HO179.out) hb); have n6_ := Aside0.mk (below_step bA hb); clear HO_1; clear HO168; clear HO170; clear HO174; clear HO176; clear HO179; clear HB; have HO_1 := n0_; have HO168 := n1_; have HO170 := n2_; have HO174 := n3_; have HO176 := n4_; have HO179 := n5_; have HB := n6_; clear n0_ n1_ n2_ n3_ n4_ n5_ n6_; (try clear hb); (try clear hb2); (try clear hk); (try clear hi); obtain ⟨Ao65, co65, eo65⟩ := Kd.N_slice HO174.out; subst eo65) | (go_at_call 18; (with_reducible refine (flongref05_Same.calls k3 _ _ t171 _ _ y177 false _ ?side1 ?side2 ?side3 ?side4 A31.out).mono ?_); (case side1 => repeat (first | exact (Kd.N_reads' HO174.out).2.2 | (with_reducible refine Kd.C_alloc ?_ _) | (with_reducible refine Kd.C_drewN ?_ _) | (with_reducible refine Kd.C_drew ?_))); (case side2 => exact (Kd.N_reads' HO174.out).2.1); (case side3 => repeat (first | exact (Kd.N_reads' HO179.out).2.2 | (with_reducible refine Kd.C_alloc ?_ _) | (with_reducible refine Kd.C_drewN ?_ _) | (with_reducible refine Kd.C_drew ?_))); (case side4 => exact (Kd.N_reads' HO179.out).2.1); rintro e w66 ⟨rfl, hb⟩; have n0_ := Aside0.mk (Kd.V_below (kV HO_1) hb); have n1_ := Aside0.mk (Kd.N_below (by (with_reducible repeat (first | apply Kd.N_alloc | apply Kd.N_drewN | apply Kd.N_drew)); exact HO168.out) hb); have n2_ := Aside0.mk (Kd.R_below (kR HO170) hb); have n3_ := Aside0.mk (Kd.N_below (by (with_reducible repeat (first | apply Kd.N_alloc | apply Kd.N_drewN | apply Kd.N_drew)); exact HO174.out) hb); have n4_ := Aside0.mk (Kd.R_below (kR HO176) hb); have n5_ := Aside0.mk (Kd.N_below (by (with_reducible repeat (first | apply Kd.N_alloc | apply Kd.N_drewN | apply Kd.N_drew)); exact HO179.out) hb); have n6_ := Aside0.mk (below_step bA hb); clear HO_1; clear HO168; clear HO170; clear HO174; clear HO176; clear HO179; clear HB; have HO_1 := n0_; have HO168 := n1_; have HO170 := n2_; have HO174 := n3_; have HO176 := n4_; have HO179 := n5_; have HB := n6_; clear n0_ n1_ n2_ n3_ n4_ n5_ n6_; (try clear hb); (try clear hb2); (try clear hk); (try clear hi)))
                  go_ret
                  exact ⟨by first | rfl | (simp [errW_none, errW_some] <;> rfl) | (simp only [← hji20]; first | rfl | (simp [errW_none, errW_some] <;> rfl)) | (simp [*, errW_none, errW_some] <;> rfl), bA⟩
                ·replace c30 := Bool.eq_false_iff.mpr c30
                 subst c30
                 have H1 : (some false) = some r := by rw [if_neg (show ¬ (false = true) by decide)] at H; exact H
                 clear H
                 have H := H1
                 clear H1
                 obtain rfl := Option.some.inj H
                 go_wp2_with (first | ((with_reducible refine gate_callee (f := 17) rfl ?_); refine goesL_ (some 69) rfl rfl Tryd.func17 (by kernel_rfl) rfl #[.string (((⟨#[46]⟩ : ByteArray) ++ ((⟨#[32, 32, 32, 32, 32, 32, 32, 32, 32, 32]⟩ : ByteArray).extract 0 ((ji20) : Int).toNat)) ++ x9_3)] rfl (by (try simp only [List.map_toArray, List.map_cons, List.map_nil]); first | done | (simp only [hji20]; rfl) | rfl | (simp only [List.length_drop, List.length_take]; rfl)) ?_; (with_reducible refine (lines_Read.calls k3 (((⟨#[46]⟩ : ByteArray) ++ ((⟨#[32, 32, 32, 32, 32, 32, 32, 32, 32, 32]⟩ : ByteArray).extract 0 ((ji20) : Int).toNat)) ++ x9_3) t165 t166 _ A25.out).mono ?_); rintro e w67 ⟨v167, v169, rfl, ho0, ho1, hb⟩; refine ⟨_, rfl, ?_⟩; replace HO_1 := Aside0.mk (Kd.V_mono (Kd.V_told (Kd.V_told (Kd.V_old (kV HO_1) hb) (Kd.S_base ho0)) (Kd.R_base ho1)) (fun _ h_ => h_.1)); have HO168 := Aside0.mk (Kd.N_lower (Kd.N_mono (ok' := fun k_ => (P1_ k_ ∨ w.heap.size ≤ k_) ∧ some k_ ≠ (v169 : Value).ownBlock) (Kd.S_N (Kd.S_bound (Kd.S_apart' ho0 (Kd.R_typed ho1) (by decide)))) (fun k_ hk_ => ⟨(.inr (Nat.le_trans (below_size bA) hk_.2.1)), hk_.1.2⟩)) (below_size bA)); have HO170 := Aside0.mk (Kd.R_lower (Kd.R_newM (M := fun k_ => (w.heap.size ≤ k_)) ho1 (below_size bA) (fun k_ h_ => h_)) (below_size bA)); replace HB := Aside0.mk (below_step bA hb); (try clear hb); (try clear hb2); (try clear hk); (try clear hi); (try clear ho0); (try clear ho1)) | ((with_reducible refine gate_callee (f := 17) rfl ?_); refine goesL_ (some 78) rfl rfl Tryd.func17 (by kernel_rfl) rfl #[.string ((((⟨#[39]⟩ : ByteArray) ++ ((⟨#[32, 32, 32, 32, 32, 32, 32, 32, 32, 32]⟩ : ByteArray).extract 0 ((ji20) : Int).toNat)) ++ x9_3) ++ (⟨#[10]⟩ : ByteArray))] rfl (by (try simp only [List.map_toArray, List.map_cons, List.map_nil]); first | done | (simp only [hji20]; rfl) | rfl | (simp only [List.length_drop, List.length_take]; rfl)) ?_; (with_reducible refine (lines_Read.calls k3 ((((⟨#[39]⟩ : ByteArray) ++ ((⟨#[32, 32, 32, 32, 32, 32, 32, 32, 32, 32]⟩ : ByteArray).extract 0 ((ji20) : Int).toNat)) ++ x9_3) ++ (⟨#[10]⟩ : ByteArray)) t171 t172 _ A28.out).mono ?_); rintro e w68 ⟨v173, v175, rfl, ho0, ho1, hb⟩; refine ⟨_, rfl, ?_⟩; have n0_ := Aside0.mk (Kd.V_mono (Kd.V_told (Kd.V_told (Kd.V_old (kV HO_1) hb) (Kd.S_base ho0)) (Kd.R_base ho1)) (fun _ h_ => h_.1)); have n1_ := Aside0.mk (Kd.N_mono (Kd.N_told (Kd.N_told (Kd.N_old (by (with_reducible repeat (first | apply Kd.N_alloc | apply Kd.N_drewN | apply Kd.N_drew)); exact HO168.out) hb) (Kd.S_base ho0)) (Kd.R_base ho1)) (fun _ h_ => h_.1)); have n2_ := Aside0.mk (Kd.R_elder' (kR HO170) (Kd.R_base ho1) hb); have n3_ := Aside0.mk (Kd.N_lower (Kd.N_mono (ok' := fun k_ => (P1_ k_ ∨ w.heap.size ≤ k_) ∧ some k_ ≠ (v175 : Value).ownBlock ∧ some k_ ≠ (v167 : Value).ownBlock ∧ some k_ ≠ (v169 : Value).ownBlock) (Kd.S_N (Kd.S_bound (Kd.S_apart' ho0 (Kd.R_typed ho1) (by decide)))) (fun k_ hk_ => ⟨(.inr (Nat.le_trans (below_size bA) hk_.2.1)), hk_.1.2, (Kd.fresh' (Kd.N_lt (by (with_reducible repeat (first | apply Kd.N_alloc | apply Kd.N_drewN | apply Kd.N_drew)); exact HO168.out)) k_ hk_.2.1), (Kd.fresh' (Kd.R_lt (kR HO170)) k_ hk_.2.1)⟩)) (below_size bA)); have n4_ := Aside0.mk (Kd.R_lower (Kd.R_new' (Kd.R_newM (M := fun k_ => (w.heap.size ≤ k_)) ho1 (below_size bA) (fun k_ h_ => h_)) (Kd.R_lt (kR HO170))) (below_size bA)); have n5_ := Aside0.mk (below_step bA hb); clear HO_1; clear HO168; clear HO170; clear HB; have HO_1 := n0_; have HO168 := n1_; have HO170 := n2_; have HO174 := n3_; have HO176 := n4_; have HB := n5_; clear n0_ n1_ n2_ n3_ n4_ n5_; (try clear hb); (try clear hb2); (try clear hk); (try clear hi); (try clear ho0); (try clear ho1)) | ((with_reducible refine gate_dst (N := 84) rfl ?_); (try (refine gate_guard (by rfl) ?_; dsimp only)); refine Kd.N_lit k35 _ 35 ?hg (N' := 84) ?hd (xs := ([(⟨1, a0, l1, (⟨#[]⟩ : ByteArray)⟩ : S35)] : List (S35))) (inner := [.int .i64 1, .string a0, .slice A1 l1.length c1, .string (⟨#[]⟩ : ByteArray)]) (ok := (fun k_ => (P1_ k_ ∨ w.heap.size ≤ k_) ∧ some k_ ≠ (v167 : Value).ownBlock ∧ some k_ ≠ (v169 : Value).ownBlock ∧ some k_ ≠ (v173 : Value).ownBlock ∧ some k_ ≠ (v175 : Value).ownBlock)) (okp := (fun k_ => (P1_ k_ ∨ w.heap.size ≤ k_) ∧ some k_ ≠ (v167 : Value).ownBlock ∧ some k_ ≠ (v169 : Value).ownBlock ∧ some k_ ≠ (v173 : Value).ownBlock ∧ some k_ ≠ (v175 : Value).ownBlock)) ?hr ?hp (fun _ hk => hk) ((show ∀ k_, w68.heap.size ≤ k_ → (fun k_ => (P1_ k_ ∨ w.heap.size ≤ k_) ∧ some k_ ≠ (v167 : Value).ownBlock ∧ some k_ ≠ (v169 : Value).ownBlock ∧ some k_ ≠ (v173 : Value).ownBlock ∧ some k_ ≠ (v175 : Value).ownBlock) k_ from fun k_ hk => ⟨(.inr (Nat.le_trans (below_size bA) hk)), Kd.fresh' (Kd.N_lt (by (with_reducible repeat (first | apply Kd.N_alloc | apply Kd.N_drewN | apply Kd.N_drew)); exact HO168.out)) k_ hk, Kd.fresh' (Kd.R_lt (kR HO170)) k_ hk, Kd.fresh' (Kd.N_lt (by (with_reducible repeat (first | apply Kd.N_alloc | apply Kd.N_drewN | apply Kd.N_drew)); exact HO174.out)) k_ hk, Kd.fresh' (Kd.R_lt (kR HO176)) k_ hk⟩) _ (Nat.le_refl _)) (Below.refl _ _) (Nat.le_refl _) (by simp) ?_; (case hd => rfl); (case hg => rfl); (case hr => first | (go_simp; done) | (go_simp; rfl)); (case hp => exact (Reps.c4 (show Kd.FK k35 _ _ (⟨1, a0, l1, (⟨#[]⟩ : ByteArray)⟩ : S35) [.int .i64 1, .string a0, .slice A1 l1.length c1, .string (⟨#[]⟩ : ByteArray)] from (k35_mkF _ _ (⟨1, a0, l1, (⟨#[]⟩ : ByteArray)⟩ : S35) (Kd.V_reads' (Kd.V_mono (ok' := (fun k_ => (P1_ k_ ∨ w.heap.size ≤ k_) ∧ some k_ ≠ (v167 : Value).ownBlock ∧ some k_ ≠ (v169 : Value).ownBlock ∧ some k_ ≠ (v173 : Value).ownBlock ∧ some k_ ≠ (v175 : Value).ownBlock)) (HO_1.out) (fun k_ hk => ⟨hk.1.1.1.1, ⟨hk.1.1.1.2, ⟨hk.1.1.2, ⟨hk.1.2, hk.2⟩⟩⟩⟩))).2.1 (Kd.V_F (Kd.V_mono (ok' := (fun k_ => (P1_ k_ ∨ w.heap.size ≤ k_) ∧ some k_ ≠ (v167 : Value).ownBlock ∧ some k_ ≠ (v169 : Value).ownBlock ∧ some k_ ≠ (v173 : Value).ownBlock ∧ some k_ ≠ (v175 : Value).ownBlock)) (HO_1.out) (fun k_ hk => ⟨hk.1.1.1.1, ⟨hk.1.1.1.2, ⟨hk.1.1.2, ⟨hk.1.2, hk.2⟩⟩⟩⟩))))) (Reps.none _ _))); intro v178 w69 ho70 hb hg_ hnew_; clear hg_ hnew_; (first | rw [← Ny177.out] at ho70 | (simp only [Int.reduceToNat] at ho70; rw [← Ny177.out] at ho70)); have n0_ := Aside0.mk (Kd.V_elder' (kV HO_1) (Kd.N_base ho70) hb); have n1_ := Aside0.mk (Kd.N_elder' (by (with_reducible repeat (first | apply Kd.N_alloc | apply Kd.N_drewN | apply Kd.N_drew)); exact HO168.out) (Kd.N_base ho70) hb); have n2_ := Aside0.mk (Kd.R_below (kR HO170) hb); have n3_ := Aside0.mk (Kd.N_elder' (by (with_reducible repeat (first | apply Kd.N_alloc | apply Kd.N_drewN | apply Kd.N_drew)); exact HO174.out) (Kd.N_base ho70) hb); have n4_ := Aside0.mk (Kd.R_below (kR HO176) hb); have n5_ := Aside0.mk (Kd.N_lower ho70 (below_size bA)); have n6_ := Aside0.mk (below_step bA hb); clear HO_1; clear HO168; clear HO170; clear HO174; clear HO176; clear HB; have HO_1 := n0_; have HO168 := n1_; have HO170 := n2_; have HO174 := n3_; have HO176 := n4_; have HO179 := n5_; have HB := n6_; clear n0_ n1_ n2_ n3_ n4_ n5_ n6_; clear hb ho70; obtain ⟨Ao71, co71, eo71⟩ := Kd.N_slice HO168.out; subst eo71; obtain ⟨Ao72, co72, eo72⟩ := Kd.N_slice HO179.out; subst eo72) | ((with_reducible refine gate_callee (f := 18) rfl ?_); refine goesL_ (some 87) rfl rfl Tryd.func18 (by kernel_rfl) rfl #[.slice Ao71 t165.length co71, .slice Ao72 y177.length co72] rfl aP ?_; (with_reducible refine (flongref05_Same.calls k3 _ _ t165 _ _ y177 false _ ?side1 ?side2 ?side3 ?side4 A29.out).mono ?_); (case side1 => repeat (first | exact (Kd.N_reads' HO168.out).2.2 | (with_reducible refine Kd.C_alloc ?_ _) | (with_reducible refine Kd.C_drewN ?_ _) | (with_reducible refine Kd.C_drew ?_))); (case side2 => exact (Kd.N_reads' HO168.out).2.1); (case side3 => repeat (first | exact (Kd.N_reads' HO179.out).2.2 | (with_reducible refine Kd.C_alloc ?_ _) | (with_reducible refine Kd.C_drewN ?_ _) | (with_reducible refine Kd.C_drew ?_))); (case side4 => exact (Kd.N_reads' HO179.out).2.1); rintro e w73 ⟨rfl, hb⟩; refine ⟨_, rfl, ?_⟩; have n0_ := Aside0.mk (Kd.V_below (kV HO_1) hb); have n1_ := Aside0.mk (Kd.N_below (by (with_reducible repeat (first | apply Kd.N_alloc | apply Kd.N_drewN | apply Kd.N_drew)); exact HO168.out) hb); have n2_ := Aside0.mk (Kd.R_below (kR HO170) hb); have n3_ := Aside0.mk (Kd.N_below (by (with_reducible repeat (first | apply Kd.N_alloc | apply Kd.N_drewN | apply Kd.N_drew)); exact HO174.out) hb); have n4_ := Aside0.mk (Kd.R_below (kR HO176) hb); have n5_ := Aside0.mk (Kd.N_below (by (with_reducible repeat (first | apply Kd.N_alloc | apply Kd.N_drewN | apply Kd.N_drew)); exact HO179.out) hb); have n6_ := Aside0.mk (below_step bA hb); clear HO_1; clear HO168; clear HO170; clear HO174; clear HO176; clear HO179; clear HB; have HO_1 := n0_; have HO168 := n1_; have HO170 := n2_; have HO174 := n3_; have HO176 := n4_; have HO179 := n5_; have HB := n6_; clear n0_ n1_ n2_ n3_ n4_ n5_ n6_; (try clear hb); (try clear hb2); (try clear hk); (try clear hi)))
                 go_ret
                 exact ⟨by first | rfl | (simp [errW_none, errW_some] <;> rfl) | (simp only [← hji20]; first | rfl | (simp [errW_none, errW_some] <;> rfl)) | (simp [*, errW_none, errW_some] <;> rfl), bA⟩
               ·rw [if_neg c27] at H
                exact absurd H (by simp)
              ·rw [if_neg c26] at H
               exact absurd H (by simp)
             ·rw [if_neg c24] at H
              exact absurd H (by simp)
            ·rw [if_neg c23] at H
             exact absurd H (by simp)
           ·rw [if_neg c22] at H
            exact absurd H (by simp)
          ·rw [if_neg c21] at H
           exact absurd H (by simp)

end Go.Proofs.YtmfkokjbjmahkaaDoor.X
