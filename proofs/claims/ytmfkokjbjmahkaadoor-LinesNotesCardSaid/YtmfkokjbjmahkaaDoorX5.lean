-- Written by this session's xprint.py (a variant of the kit's printer). Not trusted: Lean checks it.
import Derived.Test.YtmfkokjbjmahkaaDoorX0
import Derived.Test.YtmfkokjbjmahkaaDoorSlim
import Derived.Test.YtmfkokjbjmahkaaDoorX3
import Derived.Test.YtmfkokjbjmahkaaDoorX4
import Derived.Test.YtmfkokjbjmahkaaDoorHandA
import Derived.Test.YtmfkokjbjmahkaaDoorHandE
namespace Go.Proofs.YtmfkokjbjmahkaaDoor.X
open Go.Proofs.YtmfkokjbjmahkaaDoor.Hand
open Go.RowKit Go.Proofs.YtmfkokjbjmahkaaDoorW.PrintWords Go.Proofs.YtmfkokjbjmahkaaDoorW.PrintLast Go.Proofs.YtmfkokjbjmahkaaDoorW.PrintMore
attribute [local go_sem] max2_int min2_int max_two min_two max_three min_three max_four min_four   -- for this text's walks alone
set_option linter.unusedVariables false
set_option maxHeartbeats 8000000
set_option maxRecDepth 100000
set_option linter.unusedSimpArgs false

/-! ### flonglaw05_LinesNotes: function 7 -/
mutual
def flonglaw05_LinesNotes.j0 : Nat → ByteArray → ByteArray → Bool → Option (Bool)
 | 0, _, _, _ => none
 | k + 1, x0, x1, x20 => if x20 = true then ((flonglaw05_known.f k).bind fun t151 => (some t151)) else (flonglaw05_LinesNotes.l0 k x0 x1 0)
def flonglaw05_LinesNotes.l0 : Nat → ByteArray → ByteArray → Int → Option (Bool)
 | 0, _, _, _ => none
 | k + 1, x0, x1, x5 => if x5 < (x0.size : Int) then (if 0 ≤ x5 then (if (bt x0 x5) = 92 then ((flonglaw05_known.f k).bind fun t152 => (some t152)) else (if (bt x0 x5) = 10 then ((flonglaw05_known.f k).bind fun t153 => (some t153)) else (if (bt x0 x5) = 13 then ((flonglaw05_known.f k).bind fun t154 => (some t154)) else (flonglaw05_LinesNotes.l0 k x0 x1 (wrap64 (x5 + 1)))))) else (none)) else (flonglaw05_LinesNotes.l1 k x0 x1 0)
def flonglaw05_LinesNotes.l1 : Nat → ByteArray → ByteArray → Int → Option (Bool)
 | 0, _, _, _ => none
 | k + 1, x0, x1, x6 => if x6 < (x1.size : Int) then (if 0 ≤ x6 then (if (bt x1 x6) = 10 then ((flonglaw05_known.f k).bind fun t155 => (some t155)) else (flonglaw05_LinesNotes.l1 k x0 x1 (wrap64 (x6 + 1)))) else (none)) else (if x0.size + 1 ≤ 9223372036854775807 then ((lines_Read.f k (x0 ++ (⟨#[10]⟩ : ByteArray))).bind fun bt156 => (if x0.size + 2 ≤ 9223372036854775807 then (if (x0 ++ (⟨#[92, 34]⟩ : ByteArray)).size + x1.size ≤ 9223372036854775807 then (if ((x0 ++ (⟨#[92, 34]⟩ : ByteArray)) ++ x1).size + 1 ≤ 9223372036854775807 then ((lines_Read.f k (((x0 ++ (⟨#[92, 34]⟩ : ByteArray)) ++ x1) ++ (⟨#[10]⟩ : ByteArray))).bind fun bt162 => (if 5 + x1.size ≤ 9223372036854775807 then (if ((⟨#[46, 32, 32, 92, 34]⟩ : ByteArray) ++ x1).size + 3 ≤ 9223372036854775807 then (if (((⟨#[46, 32, 32, 92, 34]⟩ : ByteArray) ++ x1) ++ (⟨#[10, 92, 34]⟩ : ByteArray)).size + x1.size ≤ 9223372036854775807 then (if ((((⟨#[46, 32, 32, 92, 34]⟩ : ByteArray) ++ x1) ++ (⟨#[10, 92, 34]⟩ : ByteArray)) ++ x1).size + 1 ≤ 9223372036854775807 then ((lines_Read.f k (((((⟨#[46, 32, 32, 92, 34]⟩ : ByteArray) ++ x1) ++ (⟨#[10, 92, 34]⟩ : ByteArray)) ++ x1) ++ (⟨#[10]⟩ : ByteArray))).bind fun bt168 => (if (bt168.1.length : Int) = 0 then (flonglaw05_LinesNotes.j3 k x0 bt156.1 bt162.1 ((bt168.2.length : Int) != 0)) else (flonglaw05_LinesNotes.j3 k x0 bt156.1 bt162.1 true))) else (none)) else (none)) else (none)) else (none))) else (none)) else (none)) else (none))) else (none))
def flonglaw05_LinesNotes.j3 : Nat → ByteArray → List (S35) → List (S35) → Bool → Option (Bool)
 | 0, _, _, _, _ => none
 | k + 1, x0, x7, x9, x88 => if x88 = true then (some false) else (if x0.toList = ([] : List UInt8) then (if (x9.length : Int) = 0 then ((flonglaw05_known.f k).bind fun t174 => (some t174)) else (some false)) else ((flongref05_Same.f k x7 x9).bind fun t175 => (if t175 = true then ((flonglaw05_known.f k).bind fun t176 => (some t176)) else (some false))))
end
def flonglaw05_LinesNotes.f (k : Nat) (a0 : ByteArray) (a1 : ByteArray) : Option (Bool) := if (a0.size : Int) > 300 then (flonglaw05_LinesNotes.j0 k a0 a1 true) else (flonglaw05_LinesNotes.j0 k a0 a1 (decide ((a1.size : Int) > 300)))
theorem flonglaw05_LinesNotes.mono_l : ∀ k, (∀ y0 y1 y2, LeO (flonglaw05_LinesNotes.j0 k y0 y1 y2) (flonglaw05_LinesNotes.j0 (k + 1) y0 y1 y2)) ∧ (∀ y0 y1 y2, LeO (flonglaw05_LinesNotes.l0 k y0 y1 y2) (flonglaw05_LinesNotes.l0 (k + 1) y0 y1 y2)) ∧ (∀ y0 y1 y2, LeO (flonglaw05_LinesNotes.l1 k y0 y1 y2) (flonglaw05_LinesNotes.l1 (k + 1) y0 y1 y2)) ∧ (∀ y0 y1 y2 y3, LeO (flonglaw05_LinesNotes.j3 k y0 y1 y2 y3) (flonglaw05_LinesNotes.j3 (k + 1) y0 y1 y2 y3))
 | 0 => ⟨fun _ _ _ r h => by simp [flonglaw05_LinesNotes.j0] at h, fun _ _ _ r h => by simp [flonglaw05_LinesNotes.l0] at h, fun _ _ _ r h => by simp [flonglaw05_LinesNotes.l1] at h, fun _ _ _ _ r h => by simp [flonglaw05_LinesNotes.j3] at h⟩
 | k + 1 => by
  obtain ⟨ih0, ih1, ih2, ih3⟩ := flonglaw05_LinesNotes.mono_l k
  refine ⟨?_, ?_, ?_, ?_⟩
  ·intro y0 y1 y2
   unfold flonglaw05_LinesNotes.j0
   repeat' first
   | (with_reducible exact ih0 _ _ _)
   | (with_reducible exact ih1 _ _ _)
   | (with_reducible exact ih2 _ _ _)
   | (with_reducible exact ih3 _ _ _ _)
   | (with_reducible exact flonglaw05_known.mono _)
   | (with_reducible exact flongref05_Same.mono _ _ _)
   | (with_reducible exact lines_Read.mono _ _)
   | (with_reducible exact LeO.refl _)
   | (with_reducible exact LeO.none _)
   | (with_reducible refine LeO.ite ?_ ?_)
   | (with_reducible refine LeO.bind ?_ (fun _ => ?_))
  ·intro y0 y1 y2
   unfold flonglaw05_LinesNotes.l0
   repeat' first
   | (with_reducible exact ih0 _ _ _)
   | (with_reducible exact ih1 _ _ _)
   | (with_reducible exact ih2 _ _ _)
   | (with_reducible exact ih3 _ _ _ _)
   | (with_reducible exact flonglaw05_known.mono _)
   | (with_reducible exact flongref05_Same.mono _ _ _)
   | (with_reducible exact lines_Read.mono _ _)
   | (with_reducible exact LeO.refl _)
   | (with_reducible exact LeO.none _)
   | (with_reducible refine LeO.ite ?_ ?_)
   | (with_reducible refine LeO.bind ?_ (fun _ => ?_))
  ·intro y0 y1 y2
   unfold flonglaw05_LinesNotes.l1
   repeat' first
   | (with_reducible exact ih0 _ _ _)
   | (with_reducible exact ih1 _ _ _)
   | (with_reducible exact ih2 _ _ _)
   | (with_reducible exact ih3 _ _ _ _)
   | (with_reducible exact flonglaw05_known.mono _)
   | (with_reducible exact flongref05_Same.mono _ _ _)
   | (with_reducible exact lines_Read.mono _ _)
   | (with_reducible exact LeO.refl _)
   | (with_reducible exact LeO.none _)
   | (with_reducible refine LeO.ite ?_ ?_)
   | (with_reducible refine LeO.bind ?_ (fun _ => ?_))
  ·intro y0 y1 y2 y3
   unfold flonglaw05_LinesNotes.j3
   repeat' first
   | (with_reducible exact ih0 _ _ _)
   | (with_reducible exact ih1 _ _ _)
   | (with_reducible exact ih2 _ _ _)
   | (with_reducible exact ih3 _ _ _ _)
   | (with_reducible exact flonglaw05_known.mono _)
   | (with_reducible exact flongref05_Same.mono _ _ _)
   | (with_reducible exact lines_Read.mono _ _)
   | (with_reducible exact LeO.refl _)
   | (with_reducible exact LeO.none _)
   | (with_reducible refine LeO.ite ?_ ?_)
   | (with_reducible refine LeO.bind ?_ (fun _ => ?_))
theorem flonglaw05_LinesNotes.mono : ∀ a0 a1 k, LeO (flonglaw05_LinesNotes.f k a0 a1) (flonglaw05_LinesNotes.f (k + 1) a0 a1) := by
 intro a0 a1 k
 obtain ⟨ih0, ih1, ih2, ih3⟩ := flonglaw05_LinesNotes.mono_l k
 unfold flonglaw05_LinesNotes.f
 repeat' first
   | (with_reducible exact ih0 _ _ _)
   | (with_reducible exact ih1 _ _ _)
   | (with_reducible exact ih2 _ _ _)
   | (with_reducible exact ih3 _ _ _ _)
   | (with_reducible exact flonglaw05_known.mono _)
   | (with_reducible exact flongref05_Same.mono _ _ _)
   | (with_reducible exact lines_Read.mono _ _)
   | (with_reducible exact LeO.refl _)
   | (with_reducible exact LeO.none _)
   | (with_reducible refine LeO.ite ?_ ?_)
   | (with_reducible refine LeO.bind ?_ (fun _ => ?_))
theorem flonglaw05_LinesNotes.calls (k : Nat) (a0 : ByteArray) (a1 : ByteArray) (r : Bool) (w : World) (hG : GOK [0] w) (h : flonglaw05_LinesNotes.f k a0 a1 = some r) :
  Calls Tryd.prog 7 #[.string a0, .string a1] w fun e w' => e = .returned (.bool r) ∧ Below w.heap.size w w' := by
 have HG := Aside0.mk hG
 clear hG
 have HB := Aside0.mk (Below.refl w.heap.size w)
 have H : (if (a0.size : Int) > 300 then (flonglaw05_LinesNotes.j0 k a0 a1 true) else (flonglaw05_LinesNotes.j0 k a0 a1 (decide ((a1.size : Int) > 300)))) = some r := h
 clear h
 have HC3 := Aside0.mk H
 clear H
 go_enter Tryd.func7, Tryd.ntmps7
 go_upto_region 1 with (fail)
 go_cut [20] (fun v20 wc => ∃ (kq : Nat) (x20_2 : Bool), v20 = .bool x20_2 ∧ Aside0 (flonglaw05_LinesNotes.j0 kq a0 a1 x20_2 = some r) ∧ Aside0 (kq ≤ k) ∧ Aside0 (Below w.heap.size w wc))
 case first =>
  have H := HC3.out
  clear HC3
  by_cases c4 : (a0.size : Int) > 300
  ·rw [if_pos c4] at H
   have c4b0 : decide (300 < (a0.size : Int)) = true := decide_eq_true c4
   have c4b1 : decide (300 < a0.size) = true := decide_eq_true (by omega)
   clear c4
   (first | rw [c4b0] | (simp only [i64_w, i32_w]; rw [c4b0]) | skip)
   have H' := Aside0.mk H
   clear H
   go_wp2
   go_meet
   case rel => exact ⟨_, (true), sA, H', ⟨by first | omega | exact Nat.le_refl _⟩, ⟨bA⟩⟩
  ·rw [if_neg c4] at H
   have c4b0 : decide (300 < (a0.size : Int)) = false := decide_eq_false c4
   have c4b1 : decide (300 < a0.size) = false := decide_eq_false (by omega)
   clear c4
   (first | rw [c4b0] | (simp only [i64_w, i32_w]; rw [c4b0]) | skip)
   have H' := Aside0.mk H
   clear H
   go_wp2
   go_meet
   case rel => exact ⟨_, (decide ((a1.size : Int) > 300)), sA, H', ⟨by first | omega | exact Nat.le_refl _⟩, ⟨bA⟩⟩
 case rest =>
  clear HC3
  try clear p2
  try clear c4
  try clear c4b0
  try clear c4b1
  obtain ⟨kq, x20_2, rfl, HA, HJ2, HB⟩ := hcut
  cases kq with
  | zero => exact absurd HA.out (by simp [flonglaw05_LinesNotes.j0])
  | succ kj2 =>
   have H := HA.out
   clear HA
   simp only [flonglaw05_LinesNotes.j0] at H
   by_cases c5 : x20_2 = true
   ·subst c5
    have H1 : ((flonglaw05_known.f kj2).bind fun t151 => (some t151)) = some r := by rw [if_pos rfl] at H; exact H
    clear H
    have H := H1
    clear H1
    replace H := Option.bind_eq_some_iff.mp H
    obtain ⟨t151, A60, H⟩ := H
    replace H : (some t151) = some r := H
    have A6 := Aside0.mk A60
    clear A60
    obtain rfl := Option.some.inj H
    go_wp2_with (first | ((with_reducible refine gate_callee (f := 11) rfl ?_); refine goesL_ (some 21) rfl rfl Tryd.func11 (by kernel_rfl) rfl #[] rfl aP ?_; (with_reducible refine (flonglaw05_known.calls kj2  t151 _ ?side1 A6.out).mono ?_); (case side1 => exact GOK.of_below (GOK.sub HG.out rfl) bA); rintro e w7 ⟨rfl, hb⟩; refine ⟨_, rfl, ?_⟩; replace HB := Aside0.mk (below_step bA hb); (try clear hb); (try clear hb2); (try clear hk); (try clear hi)))
    go_ret
    exact ⟨eW, bA⟩
   ·replace c5 := Bool.eq_false_iff.mpr c5
    subst c5
    have H1 : (flonglaw05_LinesNotes.l0 kj2 a0 a1 0) = some r := by rw [if_neg (show ¬ (false = true) by decide)] at H; exact H
    clear H
    have H := H1
    clear H1
    have H' := Aside0.mk H
    clear H
    go_wp2
    go_loopg [5] kj2 (fun kq v5 w' => ∃ (x5_2 : Int), v5 = .int .i64 x5_2 ∧ Aside0 (flonglaw05_LinesNotes.l0 kq a0 a1 x5_2 = some r) ∧ Aside0 (kq ≤ kj2) ∧ Aside0 (Below w.heap.size w w'))
    case atStart => exact ⟨(0), sA, H', ⟨Nat.le_refl _⟩, ⟨bA⟩⟩
    case round =>
     clear H'
     try clear c1
     try clear p2
     try clear c4
     try clear c4b0
     try clear c4b1
     try clear c5
     try clear c7
     try clear p2
     obtain ⟨x5_2, rfl, HA, HK2, HB⟩ := hrel
     cases gk with
     | zero => exact absurd HA.out (by simp [flonglaw05_LinesNotes.l0])
     | succ k2 =>
      have H := HA.out
      clear HA
      simp only [flonglaw05_LinesNotes.l0] at H
      by_cases c8 : x5_2 < (a0.size : Int)
      ·rw [if_pos c8] at H
       have c8b0 : decide (x5_2 < (a0.size : Int)) = true := decide_eq_true c8
       clear c8
       by_cases c9 : 0 ≤ x5_2
       ·rw [if_pos c9] at H
        have c9b0 : decide (0 ≤ x5_2) = true := decide_eq_true c9
        clear c9
        by_cases c11 : (bt a0 x5_2) = 92
        ·rw [if_pos c11] at H
         have c11b0 : ((bt a0 x5_2) == 92) = true := beq_iff_eq.mpr c11
         have c11b1 : ((bt a0 x5_2) != 92) = false := bne_eq_false_iff_eq.mpr c11
         clear c11
         replace H := Option.bind_eq_some_iff.mp H
         obtain ⟨t152, A120, H⟩ := H
         replace H : (some t152) = some r := H
         have A12 := Aside0.mk A120
         clear A120
         obtain rfl := Option.some.inj H
         have p10 : 0 ≤ (x5_2 : Int) := of_decide_eq_true asA
         have q10 : x5_2 < (a0.size : Int) := of_decide_eq_true asA
         have hx10 := bt_at a0 x5_2
         replace p10 := eq_true p10
         replace q10 := eq_true q10
         go_wp2_with (first | ((with_reducible refine gate_callee (f := 11) rfl ?_); refine goesL_ (some 44) rfl rfl Tryd.func11 (by kernel_rfl) rfl #[] rfl aP ?_; (with_reducible refine (flonglaw05_known.calls k2  t152 _ ?side1 A12.out).mono ?_); (case side1 => exact GOK.of_below (GOK.sub HG.out rfl) bA); rintro e w13 ⟨rfl, hb⟩; refine ⟨_, rfl, ?_⟩; replace HB := Aside0.mk (below_step bA hb); (try clear hb); (try clear hb2); (try clear hk); (try clear hi)))
         go_ret
         exact ⟨eW, bA⟩
        ·rw [if_neg c11] at H
         have c11b0 : ((bt a0 x5_2) == 92) = false := beq_eq_false_iff_ne.mpr c11
         have c11b1 : ((bt a0 x5_2) != 92) = true := bne_iff_ne.mpr c11
         by_cases c15 : (bt a0 x5_2) = 10
         ·rw [if_pos c15] at H
          have c15b0 : ((bt a0 x5_2) == 10) = true := beq_iff_eq.mpr c15
          have c15b1 : ((bt a0 x5_2) != 10) = false := bne_eq_false_iff_eq.mpr c15
          clear c15
          replace H := Option.bind_eq_some_iff.mp H
          obtain ⟨t153, A160, H⟩ := H
          replace H : (some t153) = some r := H
          have A16 := Aside0.mk A160
          clear A160
          obtain rfl := Option.some.inj H
          have p10 : 0 ≤ (x5_2 : Int) := of_decide_eq_true asA
          have q10 : x5_2 < (a0.size : Int) := of_decide_eq_true asA
          have hx10 := bt_at a0 x5_2
          replace p10 := eq_true p10
          replace q10 := eq_true q10
          have p14 : 0 ≤ (x5_2 : Int) := of_decide_eq_true asA
          have q14 : x5_2 < (a0.size : Int) := of_decide_eq_true asA
          have hx14 := bt_at a0 x5_2
          replace p14 := eq_true p14
          replace q14 := eq_true q14
          go_wp2_with (first | ((with_reducible refine gate_callee (f := 11) rfl ?_); refine goesL_ (some 44) rfl rfl Tryd.func11 (by kernel_rfl) rfl #[] rfl aP ?_; (with_reducible refine (flonglaw05_known.calls k2  t153 _ ?side1 A16.out).mono ?_); (case side1 => exact GOK.of_below (GOK.sub HG.out rfl) bA); rintro e w17 ⟨rfl, hb⟩; refine ⟨_, rfl, ?_⟩; replace HB := Aside0.mk (below_step bA hb); (try clear hb); (try clear hb2); (try clear hk); (try clear hi)))
          go_ret
          exact ⟨eW, bA⟩
         ·rw [if_neg c15] at H
          have c15b0 : ((bt a0 x5_2) == 10) = false := beq_eq_false_iff_ne.mpr c15
          have c15b1 : ((bt a0 x5_2) != 10) = true := bne_iff_ne.mpr c15
          by_cases c19 : (bt a0 x5_2) = 13
          ·rw [if_pos c19] at H
           have c19b0 : ((bt a0 x5_2) == 13) = true := beq_iff_eq.mpr c19
           have c19b1 : ((bt a0 x5_2) != 13) = false := bne_eq_false_iff_eq.mpr c19
           clear c19
           replace H := Option.bind_eq_some_iff.mp H
           obtain ⟨t154, A200, H⟩ := H
           replace H : (some t154) = some r := H
           have A20 := Aside0.mk A200
           clear A200
           obtain rfl := Option.some.inj H
           have p10 : 0 ≤ (x5_2 : Int) := of_decide_eq_true asA
           have q10 : x5_2 < (a0.size : Int) := of_decide_eq_true asA
           have hx10 := bt_at a0 x5_2
           replace p10 := eq_true p10
           replace q10 := eq_true q10
           have p14 : 0 ≤ (x5_2 : Int) := of_decide_eq_true asA
           have q14 : x5_2 < (a0.size : Int) := of_decide_eq_true asA
           have hx14 := bt_at a0 x5_2
           replace p14 := eq_true p14
           replace q14 := eq_true q14
           have p18 : 0 ≤ (x5_2 : Int) := of_decide_eq_true asA
           have q18 : x5_2 < (a0.size : Int) := of_decide_eq_true asA
           have hx18 := bt_at a0 x5_2
           replace p18 := eq_true p18
           replace q18 := eq_true q18
           go_wp2_with (first | ((with_reducible refine gate_callee (f := 11) rfl ?_); refine goesL_ (some 44) rfl rfl Tryd.func11 (by kernel_rfl) rfl #[] rfl aP ?_; (with_reducible refine (flonglaw05_known.calls k2  t154 _ ?side1 A20.out).mono ?_); (case side1 => exact GOK.of_below (GOK.sub HG.out rfl) bA); rintro e w21 ⟨rfl, hb⟩; refine ⟨_, rfl, ?_⟩; replace HB := Aside0.mk (below_step bA hb); (try clear hb); (try clear hb2); (try clear hk); (try clear hi)))
           go_ret
           exact ⟨eW, bA⟩
          ·rw [if_neg c19] at H
           have c19b0 : ((bt a0 x5_2) == 13) = false := beq_eq_false_iff_ne.mpr c19
           have c19b1 : ((bt a0 x5_2) != 13) = true := bne_iff_ne.mpr c19
           have H' := Aside0.mk H
           clear H
           have p10 : 0 ≤ (x5_2 : Int) := of_decide_eq_true asA
           have q10 : x5_2 < (a0.size : Int) := of_decide_eq_true asA
           have hx10 := bt_at a0 x5_2
           replace p10 := eq_true p10
           replace q10 := eq_true q10
           have p14 : 0 ≤ (x5_2 : Int) := of_decide_eq_true asA
           have q14 : x5_2 < (a0.size : Int) := of_decide_eq_true asA
           have hx14 := bt_at a0 x5_2
           replace p14 := eq_true p14
           replace q14 := eq_true q14
           have p18 : 0 ≤ (x5_2 : Int) := of_decide_eq_true asA
           have q18 : x5_2 < (a0.size : Int) := of_decide_eq_true asA
           have hx18 := bt_at a0 x5_2
           replace p18 := eq_true p18
           replace q18 := eq_true q18
           go_wp2
           go_roundg k2
           case measure => have := HJ2.out; have := HK2.out; omega
           case rel => exact ⟨(wrap64 (x5_2 + 1)), sA, H', ⟨by have := HJ2.out; have := HK2.out; omega⟩, ⟨bA⟩⟩
       ·rw [if_neg c9] at H
        exact absurd H (by simp)
      ·rw [if_neg c8] at H
       have c8b0 : decide (x5_2 < (a0.size : Int)) = false := decide_eq_false c8
       clear c8
       have H' := Aside0.mk H
       clear H
       go_wp2
       go_loopg [6] k2 (fun kq v6 w' => ∃ (x6_3 : Int), v6 = .int .i64 x6_3 ∧ Aside0 (flonglaw05_LinesNotes.l1 kq a0 a1 x6_3 = some r) ∧ Aside0 (kq ≤ k2) ∧ Aside0 (Below w.heap.size w w'))
       case atStart => exact ⟨(0), sA, H', ⟨Nat.le_refl _⟩, ⟨bA⟩⟩
       case round =>
        clear H'
        try clear c1
        try clear p1
        try clear q1
        try clear hx1
        try clear p2
        try clear c4
        try clear c4b0
        try clear c4b1
        try clear c5
        try clear p6
        try clear c7
        try clear c8
        try clear c8b0
        try clear c9
        try clear c9b0
        try clear p10
        try clear q10
        try clear hx10
        try clear c11
        try clear c11b0
        try clear c11b1
        try clear p14
        try clear q14
        try clear hx14
        try clear c15
        try clear c15b0
        try clear c15b1
        try clear p18
        try clear q18
        try clear hx18
        try clear c19
        try clear c19b0
        try clear c19b1
        try clear p10
        try clear p14
        try clear p18
        try clear p2
        try clear q10
        try clear q14
        try clear q18
        obtain ⟨x6_3, rfl, HA, HK3, HB⟩ := hrel
        cases gk with
        | zero => exact absurd HA.out (by simp [flonglaw05_LinesNotes.l1])
        | succ k3 =>
         have H := HA.out
         clear HA
         simp only [flonglaw05_LinesNotes.l1] at H
         by_cases c22 : x6_3 < (a1.size : Int)
         ·rw [if_pos c22] at H
          have c22b0 : decide (x6_3 < (a1.size : Int)) = true := decide_eq_true c22
          clear c22
          by_cases c23 : 0 ≤ x6_3
          ·rw [if_pos c23] at H
           have c23b0 : decide (0 ≤ x6_3) = true := decide_eq_true c23
           clear c23
           by_cases c25 : (bt a1 x6_3) = 10
           ·rw [if_pos c25] at H
            have c25b0 : ((bt a1 x6_3) == 10) = true := beq_iff_eq.mpr c25
            have c25b1 : ((bt a1 x6_3) != 10) = false := bne_eq_false_iff_eq.mpr c25
            clear c25
            replace H := Option.bind_eq_some_iff.mp H
            obtain ⟨t155, A260, H⟩ := H
            replace H : (some t155) = some r := H
            have A26 := Aside0.mk A260
            clear A260
            obtain rfl := Option.some.inj H
            have p24 : 0 ≤ (x6_3 : Int) := of_decide_eq_true asA
            have q24 : x6_3 < (a1.size : Int) := of_decide_eq_true asA
            have hx24 := bt_at a1 x6_3
            replace p24 := eq_true p24
            replace q24 := eq_true q24
            go_wp2_with (first | ((with_reducible refine gate_callee (f := 11) rfl ?_); refine goesL_ (some 55) rfl rfl Tryd.func11 (by kernel_rfl) rfl #[] rfl aP ?_; (with_reducible refine (flonglaw05_known.calls k3  t155 _ ?side1 A26.out).mono ?_); (case side1 => exact GOK.of_below (GOK.sub HG.out rfl) bA); rintro e w27 ⟨rfl, hb⟩; refine ⟨_, rfl, ?_⟩; replace HB := Aside0.mk (below_step bA hb); (try clear hb); (try clear hb2); (try clear hk); (try clear hi)))
            go_ret
            exact ⟨eW, bA⟩
           ·rw [if_neg c25] at H
            have c25b0 : ((bt a1 x6_3) == 10) = false := beq_eq_false_iff_ne.mpr c25
            have c25b1 : ((bt a1 x6_3) != 10) = true := bne_iff_ne.mpr c25
            have H' := Aside0.mk H
            clear H
            have p24 : 0 ≤ (x6_3 : Int) := of_decide_eq_true asA
            have q24 : x6_3 < (a1.size : Int) := of_decide_eq_true asA
            have hx24 := bt_at a1 x6_3
            replace p24 := eq_true p24
            replace q24 := eq_true q24
            go_wp2
            go_roundg k3
            case measure => have := HJ2.out; have := HK2.out; have := HK3.out; omega
            case rel => exact ⟨(wrap64 (x6_3 + 1)), sA, H', ⟨by have := HJ2.out; have := HK2.out; have := HK3.out; omega⟩, ⟨bA⟩⟩
          ·rw [if_neg c23] at H
           exact absurd H (by simp)
         ·rw [if_neg c22] at H
          have c22b0 : decide (x6_3 < (a1.size : Int)) = false := decide_eq_false c22
          clear c22
          by_cases c28 : a0.size + 1 ≤ 9223372036854775807
          ·rw [if_pos c28] at H
           have c28b0 := eq_true c28
           have c28b1 : decide (a0.size + 1 ≤ 9223372036854775807) = true := decide_eq_true c28
           try have c28b2 : (9223372036854775807 < a0.size + 1) = False := eq_false (Nat.not_lt.2 c28)
           replace H := Option.bind_eq_some_iff.mp H
           obtain ⟨⟨t156, t157⟩, A290, H⟩ := H
           replace H : (if a0.size + 2 ≤ 9223372036854775807 then (if (a0 ++ (⟨#[92, 34]⟩ : ByteArray)).size + a1.size ≤ 9223372036854775807 then (if ((a0 ++ (⟨#[92, 34]⟩ : ByteArray)) ++ a1).size + 1 ≤ 9223372036854775807 then ((lines_Read.f k3 (((a0 ++ (⟨#[92, 34]⟩ : ByteArray)) ++ a1) ++ (⟨#[10]⟩ : ByteArray))).bind fun bt162 => (if 5 + a1.size ≤ 9223372036854775807 then (if ((⟨#[46, 32, 32, 92, 34]⟩ : ByteArray) ++ a1).size + 3 ≤ 9223372036854775807 then (if (((⟨#[46, 32, 32, 92, 34]⟩ : ByteArray) ++ a1) ++ (⟨#[10, 92, 34]⟩ : ByteArray)).size + a1.size ≤ 9223372036854775807 then (if ((((⟨#[46, 32, 32, 92, 34]⟩ : ByteArray) ++ a1) ++ (⟨#[10, 92, 34]⟩ : ByteArray)) ++ a1).size + 1 ≤ 9223372036854775807 then ((lines_Read.f k3 (((((⟨#[46, 32, 32, 92, 34]⟩ : ByteArray) ++ a1) ++ (⟨#[10, 92, 34]⟩ : ByteArray)) ++ a1) ++ (⟨#[10]⟩ : ByteArray))).bind fun bt168 => (if (bt168.1.length : Int) = 0 then (flonglaw05_LinesNotes.j3 k3 a0 t156 bt162.1 ((bt168.2.length : Int) != 0)) else (flonglaw05_LinesNotes.j3 k3 a0 t156 bt162.1 true))) else (none)) else (none)) else (none)) else (none))) else (none)) else (none)) else (none)) = some r := H
           have A29 := Aside0.mk A290
           clear A290
           by_cases c30 : a0.size + 2 ≤ 9223372036854775807
           ·rw [if_pos c30] at H
            have c30b0 := eq_true c30
            have c30b1 : decide (a0.size + 2 ≤ 9223372036854775807) = true := decide_eq_true c30
            try have c30b2 : (9223372036854775807 < a0.size + 2) = False := eq_false (Nat.not_lt.2 c30)
            by_cases c31 : (a0 ++ (⟨#[92, 34]⟩ : ByteArray)).size + a1.size ≤ 9223372036854775807
            ·rw [if_pos c31] at H
             have c31b0 := eq_true c31
             have c31b1 : decide ((a0 ++ (⟨#[92, 34]⟩ : ByteArray)).size + a1.size ≤ 9223372036854775807) = true := decide_eq_true c31
             try have c31b2 : (9223372036854775807 < (a0 ++ (⟨#[92, 34]⟩ : ByteArray)).size + a1.size) = False := eq_false (Nat.not_lt.2 c31)
             (try (have c31n := c31; simp only [ByteArray.size_append'] at c31n; have c31b3 := eq_false (Nat.not_lt.2 c31n); have c31b4 := eq_true c31n; clear c31n))
             (try (have c31k := c31; simp only [ByteArray.size_append', show (⟨#[92, 34]⟩ : ByteArray).size = 2 from rfl] at c31k; have c31b7 := eq_false (Nat.not_lt.2 c31k); have c31b8 := eq_true c31k; clear c31k))
             by_cases c32 : ((a0 ++ (⟨#[92, 34]⟩ : ByteArray)) ++ a1).size + 1 ≤ 9223372036854775807
             ·rw [if_pos c32] at H
              have c32b0 := eq_true c32
              have c32b1 : decide (((a0 ++ (⟨#[92, 34]⟩ : ByteArray)) ++ a1).size + 1 ≤ 9223372036854775807) = true := decide_eq_true c32
              try have c32b2 : (9223372036854775807 < ((a0 ++ (⟨#[92, 34]⟩ : ByteArray)) ++ a1).size + 1) = False := eq_false (Nat.not_lt.2 c32)
              (try (have c32n := c32; simp only [ByteArray.size_append'] at c32n; have c32b3 := eq_false (Nat.not_lt.2 c32n); have c32b4 := eq_true c32n; clear c32n))
              (try (have c32k := c32; simp only [ByteArray.size_append', show (⟨#[92, 34]⟩ : ByteArray).size = 2 from rfl] at c32k; have c32b7 := eq_false (Nat.not_lt.2 c32k); have c32b8 := eq_true c32k; clear c32k))
              replace H := Option.bind_eq_some_iff.mp H
              obtain ⟨⟨t162, t163⟩, A330, H⟩ := H
              replace H : (if 5 + a1.size ≤ 9223372036854775807 then (if ((⟨#[46, 32, 32, 92, 34]⟩ : ByteArray) ++ a1).size + 3 ≤ 9223372036854775807 then (if (((⟨#[46, 32, 32, 92, 34]⟩ : ByteArray) ++ a1) ++ (⟨#[10, 92, 34]⟩ : ByteArray)).size + a1.size ≤ 9223372036854775807 then (if ((((⟨#[46, 32, 32, 92, 34]⟩ : ByteArray) ++ a1) ++ (⟨#[10, 92, 34]⟩ : ByteArray)) ++ a1).size + 1 ≤ 9223372036854775807 then ((lines_Read.f k3 (((((⟨#[46, 32, 32, 92, 34]⟩ : ByteArray) ++ a1) ++ (⟨#[10, 92, 34]⟩ : ByteArray)) ++ a1) ++ (⟨#[10]⟩ : ByteArray))).bind fun bt168 => (if (bt168.1.length : Int) = 0 then (flonglaw05_LinesNotes.j3 k3 a0 t156 t162 ((bt168.2.length : Int) != 0)) else (flonglaw05_LinesNotes.j3 k3 a0 t156 t162 true))) else (none)) else (none)) else (none)) else (none)) = some r := H
              have A33 := Aside0.mk A330
              clear A330
              by_cases c34 : 5 + a1.size ≤ 9223372036854775807
              ·rw [if_pos c34] at H
               have c34b0 := eq_true c34
               have c34b1 : decide (5 + a1.size ≤ 9223372036854775807) = true := decide_eq_true c34
               try have c34b2 : (9223372036854775807 < 5 + a1.size) = False := eq_false (Nat.not_lt.2 c34)
               by_cases c35 : ((⟨#[46, 32, 32, 92, 34]⟩ : ByteArray) ++ a1).size + 3 ≤ 9223372036854775807
               ·rw [if_pos c35] at H
                have c35b0 := eq_true c35
                have c35b1 : decide (((⟨#[46, 32, 32, 92, 34]⟩ : ByteArray) ++ a1).size + 3 ≤ 9223372036854775807) = true := decide_eq_true c35
                try have c35b2 : (9223372036854775807 < ((⟨#[46, 32, 32, 92, 34]⟩ : ByteArray) ++ a1).size + 3) = False := eq_false (Nat.not_lt.2 c35)
                (try (have c35n := c35; simp only [ByteArray.size_append'] at c35n; have c35b3 := eq_false (Nat.not_lt.2 c35n); have c35b4 := eq_true c35n; clear c35n))
                (try (have c35k := c35; simp only [ByteArray.size_append', show (⟨#[46, 32, 32, 92, 34]⟩ : ByteArray).size = 5 from rfl] at c35k; have c35b7 := eq_false (Nat.not_lt.2 c35k); have c35b8 := eq_true c35k; clear c35k))
                by_cases c36 : (((⟨#[46, 32, 32, 92, 34]⟩ : ByteArray) ++ a1) ++ (⟨#[10, 92, 34]⟩ : ByteArray)).size + a1.size ≤ 9223372036854775807
                ·rw [if_pos c36] at H
                 have c36b0 := eq_true c36
                 have c36b1 : decide ((((⟨#[46, 32, 32, 92, 34]⟩ : ByteArray) ++ a1) ++ (⟨#[10, 92, 34]⟩ : ByteArray)).size + a1.size ≤ 9223372036854775807) = true := decide_eq_true c36
                 try have c36b2 : (9223372036854775807 < (((⟨#[46, 32, 32, 92, 34]⟩ : ByteArray) ++ a1) ++ (⟨#[10, 92, 34]⟩ : ByteArray)).size + a1.size) = False := eq_false (Nat.not_lt.2 c36)
                 (try (have c36n := c36; simp only [ByteArray.size_append'] at c36n; have c36b3 := eq_false (Nat.not_lt.2 c36n); have c36b4 := eq_true c36n; clear c36n))
                 (try (have c36k := c36; simp only [ByteArray.size_append', show (⟨#[10, 92, 34]⟩ : ByteArray).size = 3 from rfl, show (⟨#[46, 32, 32, 92, 34]⟩ : ByteArray).size = 5 from rfl] at c36k; have c36b7 := eq_false (Nat.not_lt.2 c36k); have c36b8 := eq_true c36k; clear c36k))
                 by_cases c37 : ((((⟨#[46, 32, 32, 92, 34]⟩ : ByteArray) ++ a1) ++ (⟨#[10, 92, 34]⟩ : ByteArray)) ++ a1).size + 1 ≤ 9223372036854775807
                 ·rw [if_pos c37] at H
                  have c37b0 := eq_true c37
                  have c37b1 : decide (((((⟨#[46, 32, 32, 92, 34]⟩ : ByteArray) ++ a1) ++ (⟨#[10, 92, 34]⟩ : ByteArray)) ++ a1).size + 1 ≤ 9223372036854775807) = true := decide_eq_true c37
                  try have c37b2 : (9223372036854775807 < ((((⟨#[46, 32, 32, 92, 34]⟩ : ByteArray) ++ a1) ++ (⟨#[10, 92, 34]⟩ : ByteArray)) ++ a1).size + 1) = False := eq_false (Nat.not_lt.2 c37)
                  (try (have c37n := c37; simp only [ByteArray.size_append'] at c37n; have c37b3 := eq_false (Nat.not_lt.2 c37n); have c37b4 := eq_true c37n; clear c37n))
                  (try (have c37k := c37; simp only [ByteArray.size_append', show (⟨#[10, 92, 34]⟩ : ByteArray).size = 3 from rfl, show (⟨#[46, 32, 32, 92, 34]⟩ : ByteArray).size = 5 from rfl] at c37k; have c37b7 := eq_false (Nat.not_lt.2 c37k); have c37b8 := eq_true c37k; clear c37k))
                  replace H := Option.bind_eq_some_iff.mp H
                  obtain ⟨⟨t168, t169⟩, A380, H⟩ := H
                  replace H : (if (t168.length : Int) = 0 then (flonglaw05_LinesNotes.j3 k3 a0 t156 t162 ((t169.length : Int) != 0)) else (flonglaw05_LinesNotes.j3 k3 a0 t156 t162 true)) = some r := H
                  have A38 := Aside0.mk A380
                  clear A380
                  have HC39 := Aside0.mk H
                  clear H
                  go_upto_region 16 with (first | ((with_reducible refine gate_callee (f := 17) rfl ?_); refine goesL_ (some 59) rfl rfl Tryd.func17 (by kernel_rfl) rfl #[.string (a0 ++ (⟨#[10]⟩ : ByteArray))] rfl aP ?_; (with_reducible refine (lines_Read.calls k3 (a0 ++ (⟨#[10]⟩ : ByteArray)) t156 t157 _ A29.out).mono ?_); rintro e w40 ⟨v158, v160, rfl, ho0, ho1, hb⟩; refine ⟨_, rfl, ?_⟩; have HO159 := Aside0.mk (Kd.S_lower ho0 (below_size bA)); have HO161 := Aside0.mk (Kd.R_lower ho1 (below_size bA)); replace HB := Aside0.mk (below_step bA hb); (try clear hb); (try clear hb2); (try clear hk); (try clear hi); (try clear ho0); (try clear ho1)) | ((with_reducible refine gate_callee (f := 17) rfl ?_); refine goesL_ (some 68) rfl rfl Tryd.func17 (by kernel_rfl) rfl #[.string (((a0 ++ (⟨#[92, 34]⟩ : ByteArray)) ++ a1) ++ (⟨#[10]⟩ : ByteArray))] rfl aP ?_; (with_reducible refine (lines_Read.calls k3 (((a0 ++ (⟨#[92, 34]⟩ : ByteArray)) ++ a1) ++ (⟨#[10]⟩ : ByteArray)) t162 t163 _ A33.out).mono ?_); rintro e w41 ⟨v164, v166, rfl, ho0, ho1, hb⟩; refine ⟨_, rfl, ?_⟩; have n0_ := Aside0.mk (Kd.S_elder' (kS HO159) (Kd.S_base ho0) hb); have n1_ := Aside0.mk (Kd.R_elder' (kR HO161) (Kd.R_base ho1) hb); have n2_ := Aside0.mk (Kd.S_lower (Kd.S_new' ho0 (Kd.S_lt (kS HO159))) (below_size bA)); have n3_ := Aside0.mk (Kd.R_lower (Kd.R_new' ho1 (Kd.R_lt (kR HO161))) (below_size bA)); have n4_ := Aside0.mk (below_step bA hb); clear HO159; clear HO161; clear HB; have HO159 := n0_; have HO161 := n1_; have HO165 := n2_; have HO167 := n3_; have HB := n4_; clear n0_ n1_ n2_ n3_ n4_; (try clear hb); (try clear hb2); (try clear hk); (try clear hi); (try clear ho0); (try clear ho1)) | ((with_reducible refine gate_callee (f := 17) rfl ?_); refine goesL_ (some 78) rfl rfl Tryd.func17 (by kernel_rfl) rfl #[.string (((((⟨#[46, 32, 32, 92, 34]⟩ : ByteArray) ++ a1) ++ (⟨#[10, 92, 34]⟩ : ByteArray)) ++ a1) ++ (⟨#[10]⟩ : ByteArray))] rfl aP ?_; (with_reducible refine (lines_Read.calls k3 (((((⟨#[46, 32, 32, 92, 34]⟩ : ByteArray) ++ a1) ++ (⟨#[10, 92, 34]⟩ : ByteArray)) ++ a1) ++ (⟨#[10]⟩ : ByteArray)) t168 t169 _ A38.out).mono ?_); rintro e w42 ⟨v170, v172, rfl, ho0, ho1, hb⟩; refine ⟨_, rfl, ?_⟩; have n0_ := Aside0.mk (Kd.S_elder' (kS HO159) (Kd.S_base ho0) hb); have n1_ := Aside0.mk (Kd.R_elder' (kR HO161) (Kd.R_base ho1) hb); have n2_ := Aside0.mk (Kd.S_elder' (kS HO165) (Kd.S_base ho0) hb); have n3_ := Aside0.mk (Kd.R_elder' (kR HO167) (Kd.R_base ho1) hb); have n4_ := Aside0.mk (Kd.S_lower (Kd.S_new' (Kd.S_new' ho0 (Kd.S_lt (kS HO159))) (Kd.S_lt (kS HO165))) (below_size bA)); have n5_ := Aside0.mk (Kd.R_lower (Kd.R_new' (Kd.R_new' ho1 (Kd.R_lt (kR HO161))) (Kd.R_lt (kR HO167))) (below_size bA)); have n6_ := Aside0.mk (below_step bA hb); clear HO159; clear HO161; clear HO165; clear HO167; clear HB; have HO159 := n0_; have HO161 := n1_; have HO165 := n2_; have HO167 := n3_; have HO171 := n4_; have HO173 := n5_; have HB := n6_; clear n0_ n1_ n2_ n3_ n4_ n5_ n6_; (try clear hb); (try clear hb2); (try clear hk); (try clear hi); (try clear ho0); (try clear ho1)))
                  (try simp only [Act.put, List.setIfInBounds_toArray, List.set_cons_zero, List.set_cons_succ])
                  go_cut [88] (fun v88 wc => ∃ (kq : Nat) (x88_38 : Bool), v88 = .bool x88_38 ∧ Aside0 (flonglaw05_LinesNotes.j3 kq a0 t156 t162 x88_38 = some r) ∧ Aside0 (kq ≤ k3) ∧ Aside0 (Kd.S k35 35 wc w.heap.size (fun k_ => some k_ ≠ (v164 : Value).ownBlock) v158 t156) ∧ Aside0 (Kd.S k35 35 wc w.heap.size (fun k_ => some k_ ≠ (v158 : Value).ownBlock) v164 t162) ∧ Aside0 (Below w.heap.size w wc))
                  case first =>
                   have H := HC39.out
                   clear HC39
                   by_cases c43 : (t168.length : Int) = 0
                   ·rw [if_pos c43] at H
                    have c43b0 : ((t168.length : Int) == 0) = true := beq_iff_eq.mpr c43
                    have c43b1 : ((t168.length : Int) != 0) = false := bne_eq_false_iff_eq.mpr c43
                    clear c43
                    (first | rw [c43b0] | (simp only [i64_w, i32_w]; rw [c43b0]) | skip)
                    have H' := Aside0.mk H
                    clear H
                    obtain ⟨Ao44, co44, eo44⟩ := Kd.S_slice HO171.out
                    subst eo44
                    obtain ⟨Ao45, co45, eo45⟩ := Kd.R_slice HO173.out
                    subst eo45
                    go_wp2
                    go_meet
                    case rel => exact ⟨_, (((t169.length : Int) != 0)), sA, H', ⟨by have := HJ2.out; have := HK2.out; have := HK3.out; first | omega | exact Nat.le_refl _⟩, ⟨by (with_reducible repeat (first | apply Kd.S_alloc | apply Kd.S_drewN | apply Kd.S_drew)); exact Kd.S_mono HO159.out (fun _ hk => hk.1.2)⟩, ⟨by (with_reducible repeat (first | apply Kd.S_alloc | apply Kd.S_drewN | apply Kd.S_drew)); exact Kd.S_mono HO165.out (fun _ hk => hk.1.2)⟩, ⟨bA⟩⟩
                   ·rw [if_neg c43] at H
                    have c43b0 : ((t168.length : Int) == 0) = false := beq_eq_false_iff_ne.mpr c43
                    have c43b1 : ((t168.length : Int) != 0) = true := bne_iff_ne.mpr c43
                    have c43b2 : ¬ (t168 = []) := fun h_ => c43 (by rw [h_]; rfl)
                    (first | rw [c43b0] | (simp only [i64_w, i32_w]; rw [c43b0]) | skip)
                    have H' := Aside0.mk H
                    clear H
                    obtain ⟨Ao46, co46, eo46⟩ := Kd.S_slice HO171.out
                    subst eo46
                    go_wp2
                    go_meet
                    case rel => exact ⟨_, (true), sA, H', ⟨by have := HJ2.out; have := HK2.out; have := HK3.out; first | omega | exact Nat.le_refl _⟩, ⟨by (with_reducible repeat (first | apply Kd.S_alloc | apply Kd.S_drewN | apply Kd.S_drew)); exact Kd.S_mono HO159.out (fun _ hk => hk.1.2)⟩, ⟨by (with_reducible repeat (first | apply Kd.S_alloc | apply Kd.S_drewN | apply Kd.S_drew)); exact Kd.S_mono HO165.out (fun _ hk => hk.1.2)⟩, ⟨bA⟩⟩
                  case rest =>
                   clear HC39
                   try clear c1
                   try clear p1
                   try clear q1
                   try clear hx1
                   try clear c2
                   try clear p2
                   try clear q2
                   try clear hx2
                   try clear c3
                   try clear c4
                   try clear c4b0
                   try clear c4b1
                   try clear c5
                   try clear p6
                   try clear c7
                   try clear c8
                   try clear c8b0
                   try clear c9
                   try clear c9b0
                   try clear p10
                   try clear q10
                   try clear hx10
                   try clear c11
                   try clear c11b0
                   try clear c11b1
                   try clear p14
                   try clear q14
                   try clear hx14
                   try clear c15
                   try clear c15b0
                   try clear c15b1
                   try clear c17
                   try clear p18
                   try clear q18
                   try clear hx18
                   try clear c19
                   try clear c19b0
                   try clear c19b1
                   try clear c22
                   try clear c22b0
                   try clear c23
                   try clear c23b0
                   try clear p24
                   try clear q24
                   try clear hx24
                   try clear c25
                   try clear c25b0
                   try clear c25b1
                   try clear c28
                   try clear c28b0
                   try clear c28b1
                   try clear c28b2
                   try clear c30
                   try clear c30b0
                   try clear c30b1
                   try clear c30b2
                   try clear c31
                   try clear c31b0
                   try clear c31b1
                   try clear c31b2
                   try clear c32
                   try clear c32b0
                   try clear c32b1
                   try clear c32b2
                   try clear c34
                   try clear c34b0
                   try clear c34b1
                   try clear c34b2
                   try clear c35
                   try clear c35b0
                   try clear c35b1
                   try clear c35b2
                   try clear c36
                   try clear c36b0
                   try clear c36b1
                   try clear c36b2
                   try clear c37
                   try clear c37b0
                   try clear c37b1
                   try clear c37b2
                   try clear c43
                   try clear c43b0
                   try clear c43b1
                   try clear c43b2
                   try clear p1
                   try clear p10
                   try clear p14
                   try clear p18
                   try clear p2
                   try clear p24
                   try clear p6
                   try clear q1
                   try clear q10
                   try clear q14
                   try clear q18
                   try clear q24
                   obtain ⟨kq, x88_38, rfl, HA, HJ38, HO_7, HO_9, HB⟩ := hcut
                   cases kq with
                   | zero => exact absurd HA.out (by simp [flonglaw05_LinesNotes.j3])
                   | succ kj38 =>
                    have H := HA.out
                    clear HA
                    simp only [flonglaw05_LinesNotes.j3] at H
                    by_cases c47 : x88_38 = true
                    ·subst c47
                     have H1 : (some false) = some r := by rw [if_pos rfl] at H; exact H
                     clear H
                     have H := H1
                     clear H1
                     obtain rfl := Option.some.inj H
                     go_wp2
                     go_ret
                     exact ⟨eW, bA⟩
                    ·replace c47 := Bool.eq_false_iff.mpr c47
                     subst c47
                     have H1 : (if a0.toList = ([] : List UInt8) then (if (t162.length : Int) = 0 then ((flonglaw05_known.f kj38).bind fun t174 => (some t174)) else (some false)) else ((flongref05_Same.f kj38 t156 t162).bind fun t175 => (if t175 = true then ((flonglaw05_known.f kj38).bind fun t176 => (some t176)) else (some false)))) = some r := by rw [if_neg (show ¬ (false = true) by decide)] at H; exact H
                     clear H
                     have H := H1
                     clear H1
                     by_cases c48 : a0.toList = ([] : List UInt8)
                     ·rw [if_pos c48] at H
                      have c48b0 : (a0.toList == ([] : List UInt8)) = true := beq_iff_eq.mpr c48
                      have c48b1 : (a0.toList != ([] : List UInt8)) = false := bne_eq_false_iff_eq.mpr c48
                      clear c48
                      by_cases c49 : (t162.length : Int) = 0
                      ·rw [if_pos c49] at H
                       have c49b0 : ((t162.length : Int) == 0) = true := beq_iff_eq.mpr c49
                       have c49b1 : ((t162.length : Int) != 0) = false := bne_eq_false_iff_eq.mpr c49
                       clear c49
                       replace H := Option.bind_eq_some_iff.mp H
                       obtain ⟨t174, A500, H⟩ := H
                       replace H : (some t174) = some r := H
                       have A50 := Aside0.mk A500
                       clear A500
                       obtain rfl := Option.some.inj H
                       obtain ⟨Ao51, co51, eo51⟩ := Kd.S_slice HO_9.out
                       subst eo51
                       go_wp2_with (first | (go_at_call 11; (with_reducible refine (flonglaw05_known.calls kj38  t174 _ ?side1 A50.out).mono ?_); (case side1 => exact GOK.of_below (GOK.sub HG.out rfl) bA); rintro e w52 ⟨rfl, hb⟩; replace HO_7 := Aside0.mk (Kd.S_below (kS HO_7) hb); replace HO_9 := Aside0.mk (Kd.S_below (kS HO_9) hb); replace HB := Aside0.mk (below_step bA hb); (try clear hb); (try clear hb2); (try clear hk); (try clear hi)))
                       go_ret
                       exact ⟨eW, bA⟩
                      ·rw [if_neg c49] at H
                       have c49b0 : ((t162.length : Int) == 0) = false := beq_eq_false_iff_ne.mpr c49
                       have c49b1 : ((t162.length : Int) != 0) = true := bne_iff_ne.mpr c49
                       have c49b2 : ¬ (t162 = []) := fun h_ => c49 (by rw [h_]; rfl)
                       obtain rfl := Option.some.inj H
                       obtain ⟨Ao53, co53, eo53⟩ := Kd.S_slice HO_9.out
                       subst eo53
                       go_wp2
                       go_ret
                       exact ⟨eW, bA⟩
                     ·rw [if_neg c48] at H
                      have c48b0 : (a0.toList == ([] : List UInt8)) = false := beq_eq_false_iff_ne.mpr c48
                      have c48b1 : (a0.toList != ([] : List UInt8)) = true := bne_iff_ne.mpr c48
                      replace H := Option.bind_eq_some_iff.mp H
                      obtain ⟨t175, A540, H⟩ := H
                      replace H : (if t175 = true then ((flonglaw05_known.f kj38).bind fun t176 => (some t176)) else (some false)) = some r := H
                      have A54 := Aside0.mk A540
                      clear A540
                      by_cases c55 : t175 = true
                      ·subst c55
                       have H1 : ((flonglaw05_known.f kj38).bind fun t176 => (some t176)) = some r := by rw [if_pos rfl] at H; exact H
                       clear H
                       have H := H1
                       clear H1
                       replace H := Option.bind_eq_some_iff.mp H
                       obtain ⟨t176, A560, H⟩ := H
                       replace H : (some t176) = some r := H
                       have A56 := Aside0.mk A560
                       clear A560
                       obtain rfl := Option.some.inj H
                       obtain ⟨Ao57, co57, eo57⟩ := Kd.S_slice HO_7.out
                       subst eo57
                       obtain ⟨Ao58, co58, eo58⟩ := Kd.S_slice HO_9.out
                       subst eo58
                       go_wp2_with (first | (go_at_call 18; (with_reducible refine (flongref05_Same.calls kj38 _ _ t156 _ _ t162 true _ ?side1 ?side2 ?side3 ?side4 A54.out).mono ?_); (case side1 => repeat (first | exact (Kd.S_reads' HO_7.out).2.2 | (with_reducible refine Kd.C_alloc ?_ _) | (with_reducible refine Kd.C_drewN ?_ _) | (with_reducible refine Kd.C_drew ?_))); (case side2 => exact (Kd.S_reads' HO_7.out).2.1); (case side3 => repeat (first | exact (Kd.S_reads' HO_9.out).2.2 | (with_reducible refine Kd.C_alloc ?_ _) | (with_reducible refine Kd.C_drewN ?_ _) | (with_reducible refine Kd.C_drew ?_))); (case side4 => exact (Kd.S_reads' HO_9.out).2.1); rintro e w59 ⟨rfl, hb⟩; replace HO_7 := Aside0.mk (Kd.S_below (kS HO_7) hb); replace HO_9 := Aside0.mk (Kd.S_below (kS HO_9) hb); replace HB := Aside0.mk (below_step bA hb); (try clear hb); (try clear hb2); (try clear hk); (try clear hi)) | (go_at_call 11; (with_reducible refine (flonglaw05_known.calls kj38  t176 _ ?side1 A56.out).mono ?_); (case side1 => exact GOK.of_below (GOK.sub HG.out rfl) bA); rintro e w60 ⟨rfl, hb⟩; replace HO_7 := Aside0.mk (Kd.S_below (kS HO_7) hb); replace HO_9 := Aside0.mk (Kd.S_below (kS HO_9) hb); replace HB := Aside0.mk (below_step bA hb); (try clear hb); (try clear hb2); (try clear hk); (try clear hi)))
                       go_ret
                       exact ⟨eW, bA⟩
                      ·replace c55 := Bool.eq_false_iff.mpr c55
                       subst c55
                       have H1 : (some false) = some r := by rw [if_neg (show ¬ (false = true) by decide)] at H; exact H
                       clear H
                       have H := H1
                       clear H1
                       obtain rfl := Option.some.inj H
                       obtain ⟨Ao61, co61, eo61⟩ := Kd.S_slice HO_7.out
                       subst eo61
                       obtain ⟨Ao62, co62, eo62⟩ := Kd.S_slice HO_9.out
                       subst eo62
                       go_wp2_with (first | (go_at_call 18; (with_reducible refine (flongref05_Same.calls kj38 _ _ t156 _ _ t162 false _ ?side1 ?side2 ?side3 ?side4 A54.out).mono ?_); (case side1 => repeat (first | exact (Kd.S_reads' HO_7.out).2.2 | (with_reducible refine Kd.C_alloc ?_ _) | (with_reducible refine Kd.C_drewN ?_ _) | (with_reducible refine Kd.C_drew ?_))); (case side2 => exact (Kd.S_reads' HO_7.out).2.1); (case side3 => repeat (first | exact (Kd.S_reads' HO_9.out).2.2 | (with_reducible refine Kd.C_alloc ?_ _) | (with_reducible refine Kd.C_drewN ?_ _) | (with_reducible refine Kd.C_drew ?_))); (case side4 => exact (Kd.S_reads' HO_9.out).2.1); rintro e w63 ⟨rfl, hb⟩; replace HO_7 := Aside0.mk (Kd.S_below (kS HO_7) hb); replace HO_9 := Aside0.mk (Kd.S_below (kS HO_9) hb); replace HB := Aside0.mk (below_step bA hb); (try clear hb); (try clear hb2); (try clear hk); (try clear hi)))
                       go_ret
                       exact ⟨eW, bA⟩
                 ·rw [if_neg c37] at H
                  exact absurd H (by simp)
                ·rw [if_neg c36] at H
                 exact absurd H (by simp)
               ·rw [if_neg c35] at H
                exact absurd H (by simp)
              ·rw [if_neg c34] at H
               exact absurd H (by simp)
             ·rw [if_neg c32] at H
              exact absurd H (by simp)
            ·rw [if_neg c31] at H
             exact absurd H (by simp)
           ·rw [if_neg c30] at H
            exact absurd H (by simp)
          ·rw [if_neg c28] at H
           exact absurd H (by simp)

end Go.Proofs.YtmfkokjbjmahkaaDoor.X
