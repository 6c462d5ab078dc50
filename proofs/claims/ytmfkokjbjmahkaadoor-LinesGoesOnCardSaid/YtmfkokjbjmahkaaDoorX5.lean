-- Written by this session's xprint.py (a variant of the kit's printer). Not trusted: Lean checks it.
import Derived.Test.YtmfkokjbjmahkaaDoorX0
import Derived.Test.YtmfkokjbjmahkaaDoorSlim
import Derived.Test.YtmfkokjbjmahkaaDoorX3
import Derived.Test.YtmfkokjbjmahkaaDoorX4
import Derived.Test.YtmfkokjbjmahkaaDoorHandA
import Derived.Test.YtmfkokjbjmahkaaDoorHandE
namespace Go.Proofs.YtmfkokjbjmahkaaDoor.X
open Go.Proofs.YtmfkokjbjmahkaaDoor.Hand
open Go.RowKit Go.Proofs.YtmfkokjbjmahkaaDoorW.PrintWords Go.Proofs.YtmfkokjbjmahkaaDoorW.PrintLast Go.Proofs.YtmfkokjbjmahkaaDoorW.PrintMore
attribute [local go_sem] max2_int min2_int max_two min_two max_three min_three max_four min_four   -- for this text's walks alone
set_option linter.unusedVariables false
set_option maxHeartbeats 8000000
set_option maxRecDepth 100000
set_option linter.unusedSimpArgs false

/-! ### flonglaw05_LinesGoesOn: function 6 -/
mutual
def flonglaw05_LinesGoesOn.j0 : Nat → ByteArray → ByteArray → Bool → Option (Bool)
 | 0, _, _, _ => none
 | k + 1, x0, x1, x18 => if x18 = true then ((flonglaw05_known.f k).bind fun t151 => (some t151)) else (if x0.size + x1.size ≤ 9223372036854775807 then (flonglaw05_LinesGoesOn.l0 k x0 x1 (x0 ++ x1) 0) else (none))
def flonglaw05_LinesGoesOn.l0 : Nat → ByteArray → ByteArray → ByteArray → Int → Option (Bool)
 | 0, _, _, _, _ => none
 | k + 1, x0, x1, x5, x6 => if x6 < (x5.size : Int) then (if 0 ≤ x6 then (if (bt x5 x6) = 92 then ((flonglaw05_known.f k).bind fun t152 => (some t152)) else (if (bt x5 x6) = 10 then ((flonglaw05_known.f k).bind fun t153 => (some t153)) else (if (bt x5 x6) = 13 then ((flonglaw05_known.f k).bind fun t154 => (some t154)) else (flonglaw05_LinesGoesOn.l0 k x0 x1 x5 (wrap64 (x6 + 1)))))) else (none)) else (if x5.size + 1 ≤ 9223372036854775807 then ((lines_Read.f k (x5 ++ (⟨#[10]⟩ : ByteArray))).bind fun bt155 => (if x0.size + 2 ≤ 9223372036854775807 then (if (x0 ++ (⟨#[92, 10]⟩ : ByteArray)).size + x1.size ≤ 9223372036854775807 then (if ((x0 ++ (⟨#[92, 10]⟩ : ByteArray)) ++ x1).size + 1 ≤ 9223372036854775807 then ((lines_Read.f k (((x0 ++ (⟨#[92, 10]⟩ : ByteArray)) ++ x1) ++ (⟨#[10]⟩ : ByteArray))).bind fun bt161 => ((flongref05_Same.f k bt155.1 bt161.1).bind fun t167 => (if t167 = true then (if (bt155.2.length : Int) = (bt161.2.length : Int) then ((flonglaw05_known.f k).bind fun t168 => (some t168)) else (some false)) else (some false)))) else (none)) else (none)) else (none))) else (none))
end
def flonglaw05_LinesGoesOn.f (k : Nat) (a0 : ByteArray) (a1 : ByteArray) : Option (Bool) := if (a0.size : Int) > 300 then (flonglaw05_LinesGoesOn.j0 k a0 a1 true) else (flonglaw05_LinesGoesOn.j0 k a0 a1 (decide ((a1.size : Int) > 300)))
theorem flonglaw05_LinesGoesOn.mono_l : ∀ k, (∀ y0 y1 y2, LeO (flonglaw05_LinesGoesOn.j0 k y0 y1 y2) (flonglaw05_LinesGoesOn.j0 (k + 1) y0 y1 y2)) ∧ (∀ y0 y1 y2 y3, LeO (flonglaw05_LinesGoesOn.l0 k y0 y1 y2 y3) (flonglaw05_LinesGoesOn.l0 (k + 1) y0 y1 y2 y3))
 | 0 => ⟨fun _ _ _ r h => by simp [flonglaw05_LinesGoesOn.j0] at h, fun _ _ _ _ r h => by simp [flonglaw05_LinesGoesOn.l0] at h⟩
 | k + 1 => by
  obtain ⟨ih0, ih1⟩ := flonglaw05_LinesGoesOn.mono_l k
  refine ⟨?_, ?_⟩
  ·intro y0 y1 y2
   unfold flonglaw05_LinesGoesOn.j0
   repeat' first
   | (with_reducible exact ih0 _ _ _)
   | (with_reducible exact ih1 _ _ _ _)
   | (with_reducible exact flonglaw05_known.mono _)
   | (with_reducible exact flongref05_Same.mono _ _ _)
   | (with_reducible exact lines_Read.mono _ _)
   | (with_reducible exact LeO.refl _)
   | (with_reducible exact LeO.none _)
   | (with_reducible refine LeO.ite ?_ ?_)
   | (with_reducible refine LeO.bind ?_ (fun _ => ?_))
  ·intro y0 y1 y2 y3
   unfold flonglaw05_LinesGoesOn.l0
   repeat' first
   | (with_reducible exact ih0 _ _ _)
   | (with_reducible exact ih1 _ _ _ _)
   | (with_reducible exact flonglaw05_known.mono _)
   | (with_reducible exact flongref05_Same.mono _ _ _)
   | (with_reducible exact lines_Read.mono _ _)
   | (with_reducible exact LeO.refl _)
   | (with_reducible exact LeO.none _)
   | (with_reducible refine LeO.ite ?_ ?_)
   | (with_reducible refine LeO.bind ?_ (fun _ => ?_))
theorem flonglaw05_LinesGoesOn.mono : ∀ a0 a1 k, LeO (flonglaw05_LinesGoesOn.f k a0 a1) (flonglaw05_LinesGoesOn.f (k + 1) a0 a1) := by
 intro a0 a1 k
 obtain ⟨ih0, ih1⟩ := flonglaw05_LinesGoesOn.mono_l k
 unfold flonglaw05_LinesGoesOn.f
 repeat' first
   | (with_reducible exact ih0 _ _ _)
   | (with_reducible exact ih1 _ _ _ _)
   | (with_reducible exact flonglaw05_known.mono _)
   | (with_reducible exact flongref05_Same.mono _ _ _)
   | (with_reducible exact lines_Read.mono _ _)
   | (with_reducible exact LeO.refl _)
   | (with_reducible exact LeO.none _)
   | (with_reducible refine LeO.ite ?_ ?_)
   | (with_reducible refine LeO.bind ?_ (fun _ => ?_))
theorem flonglaw05_LinesGoesOn.calls (k : Nat) (a0 : ByteArray) (a1 : ByteArray) (r : Bool) (w : World) (hG : GOK [0] w) (h : flonglaw05_LinesGoesOn.f k a0 a1 = some r) :
  Calls Tryd.prog 6 #[.string a0, .string a1] w fun e w' => e = .returned (.bool r) ∧ Below w.heap.size w w' := by
 have HG := Aside0.mk hG
 clear hG
 have HB := Aside0.mk (Below.refl w.heap.size w)
 have H : (if (a0.size : Int) > 300 then (flonglaw05_LinesGoesOn.j0 k a0 a1 true) else (flonglaw05_LinesGoesOn.j0 k a0 a1 (decide ((a1.size : Int) > 300)))) = some r := h
 clear h
 have HC3 := Aside0.mk H
 clear H
 go_enter Tryd.func6, Tryd.ntmps6
 go_upto_region 1 with (fail)
 go_cut [18] (fun v18 wc => ∃ (kq : Nat) (x18_2 : Bool), v18 = .bool x18_2 ∧ Aside0 (flonglaw05_LinesGoesOn.j0 kq a0 a1 x18_2 = some r) ∧ Aside0 (kq ≤ k) ∧ Aside0 (Below w.heap.size w wc))
 case first =>
  have H := HC3.out
  clear HC3
  by_cases c4 : (a0.size : Int) > 300
  ·rw [if_pos c4] at H
   have c4b0 : decide (300 < (a0.size : Int)) = true := decide_eq_true c4
   have c4b1 : decide (300 < a0.size) = true := decide_eq_true (by omega)
   clear c4
   (first | rw [c4b0] | (simp only [i64_w, i32_w]; rw [c4b0]) | skip)
   have H' := Aside0.mk H
   clear H
   go_wp2
   go_meet
   case rel => exact ⟨_, (true), sA, H', ⟨by first | omega | exact Nat.le_refl _⟩, ⟨bA⟩⟩
  ·rw [if_neg c4] at H
   have c4b0 : decide (300 < (a0.size : Int)) = false := decide_eq_false c4
   have c4b1 : decide (300 < a0.size) = false := decide_eq_false (by omega)
   clear c4
   (first | rw [c4b0] | (simp only [i64_w, i32_w]; rw [c4b0]) | skip)
   have H' := Aside0.mk H
   clear H
   go_wp2
   go_meet
   case rel => exact ⟨_, (decide ((a1.size : Int) > 300)), sA, H', ⟨by first | omega | exact Nat.le_refl _⟩, ⟨bA⟩⟩
 case rest =>
  clear HC3
  try clear p2
  try clear c4
  try clear c4b0
  try clear c4b1
  obtain ⟨kq, x18_2, rfl, HA, HJ2, HB⟩ := hcut
  cases kq with
  | zero => exact absurd HA.out (by simp [flonglaw05_LinesGoesOn.j0])
  | succ kj2 =>
   have H := HA.out
   clear HA
   simp only [flonglaw05_LinesGoesOn.j0] at H
   by_cases c5 : x18_2 = true
   ·subst c5
    have H1 : ((flonglaw05_known.f kj2).bind fun t151 => (some t151)) = some r := by rw [if_pos rfl] at H; exact H
    clear H
    have H := H1
    clear H1
    replace H := Option.bind_eq_some_iff.mp H
    obtain ⟨t151, A60, H⟩ := H
    replace H : (some t151) = some r := H
    have A6 := Aside0.mk A60
    clear A60
    obtain rfl := Option.some.inj H
    go_wp2_with (first | ((with_reducible refine gate_callee (f := 11) rfl ?_); refine goesL_ (some 19) rfl rfl Tryd.func11 (by kernel_rfl) rfl #[] rfl aP ?_; (with_reducible refine (flonglaw05_known.calls kj2  t151 _ ?side1 A6.out).mono ?_); (case side1 => exact GOK.of_below (GOK.sub HG.out rfl) bA); rintro e w7 ⟨rfl, hb⟩; refine ⟨_, rfl, ?_⟩; replace HB := Aside0.mk (below_step bA hb); (try clear hb); (try clear hb2); (try clear hk); (try clear hi)))
    go_ret
    exact ⟨eW, bA⟩
   ·replace c5 := Bool.eq_false_iff.mpr c5
    subst c5
    have H1 : (if a0.size + a1.size ≤ 9223372036854775807 then (flonglaw05_LinesGoesOn.l0 kj2 a0 a1 (a0 ++ a1) 0) else (none)) = some r := by rw [if_neg (show ¬ (false = true) by decide)] at H; exact H
    clear H
    have H := H1
    clear H1
    by_cases c8 : a0.size + a1.size ≤ 9223372036854775807
    ·rw [if_pos c8] at H
     have c8b0 := eq_true c8
     have c8b1 : decide (a0.size + a1.size ≤ 9223372036854775807) = true := decide_eq_true c8
     try have c8b2 : (9223372036854775807 < a0.size + a1.size) = False := eq_false (Nat.not_lt.2 c8)
     have H' := Aside0.mk H
     clear H
     go_wp2
     go_loopg [6] kj2 (fun kq v6 w' => ∃ (x6_2 : Int), v6 = .int .i64 x6_2 ∧ Aside0 (flonglaw05_LinesGoesOn.l0 kq a0 a1 (a0 ++ a1) x6_2 = some r) ∧ Aside0 (kq ≤ kj2) ∧ Aside0 (Below w.heap.size w w'))
     case atStart => exact ⟨(0), sA, H', ⟨Nat.le_refl _⟩, ⟨bA⟩⟩
     case round =>
      clear H'
      try clear c1
      try clear p2
      try clear c4
      try clear c4b0
      try clear c4b1
      try clear c5
      try clear c6
      try clear c8
      try clear c8b0
      try clear c8b1
      try clear c8b2
      try clear p2
      obtain ⟨x6_2, rfl, HA, HK2, HB⟩ := hrel
      cases gk with
      | zero => exact absurd HA.out (by simp [flonglaw05_LinesGoesOn.l0])
      | succ k2 =>
       have H := HA.out
       clear HA
       simp only [flonglaw05_LinesGoesOn.l0] at H
       by_cases c9 : x6_2 < ((a0 ++ a1).size : Int)
       ·rw [if_pos c9] at H
        have c9b0 : decide (x6_2 < ((a0 ++ a1).size : Int)) = true := decide_eq_true c9
        (try (have c9b0z := c9b0; simp only [ByteArray.size_append', Int.natCast_add] at c9b0z))
        clear c9
        by_cases c10 : 0 ≤ x6_2
        ·rw [if_pos c10] at H
         have c10b0 : decide (0 ≤ x6_2) = true := decide_eq_true c10
         clear c10
         by_cases c12 : (bt (a0 ++ a1) x6_2) = 92
         ·rw [if_pos c12] at H
          have c12b0 : ((bt (a0 ++ a1) x6_2) == 92) = true := beq_iff_eq.mpr c12
          have c12b1 : ((bt (a0 ++ a1) x6_2) != 92) = false := bne_eq_false_iff_eq.mpr c12
          clear c12
          replace H := Option.bind_eq_some_iff.mp H
          obtain ⟨t152, A130, H⟩ := H
          replace H : (some t152) = some r := H
          have A13 := Aside0.mk A130
          clear A130
          obtain rfl := Option.some.inj H
          have p11 : 0 ≤ (x6_2 : Int) := of_decide_eq_true asA
          have q11 : x6_2 < ((a0 ++ a1).size : Int) := of_decide_eq_true asA
          (try (have q11z := q11; simp only [ByteArray.size_append', Int.natCast_add] at q11z; replace q11z := eq_true q11z))
          have hx11 := bt_at (a0 ++ a1) x6_2
          (try (have hx11z := hx11; simp only [ByteArray.size_append', Int.natCast_add] at hx11z))
          replace p11 := eq_true p11
          replace q11 := eq_true q11
          go_wp2_with (first | ((with_reducible refine gate_callee (f := 11) rfl ?_); refine goesL_ (some 45) rfl rfl Tryd.func11 (by kernel_rfl) rfl #[] rfl aP ?_; (with_reducible refine (flonglaw05_known.calls k2  t152 _ ?side1 A13.out).mono ?_); (case side1 => exact GOK.of_below (GOK.sub HG.out rfl) bA); rintro e w14 ⟨rfl, hb⟩; refine ⟨_, rfl, ?_⟩; replace HB := Aside0.mk (below_step bA hb); (try clear hb); (try clear hb2); (try clear hk); (try clear hi)))
          go_ret
          exact ⟨eW, bA⟩
         ·rw [if_neg c12] at H
          have c12b0 : ((bt (a0 ++ a1) x6_2) == 92) = false := beq_eq_false_iff_ne.mpr c12
          have c12b1 : ((bt (a0 ++ a1) x6_2) != 92) = true := bne_iff_ne.mpr c12
          by_cases c16 : (bt (a0 ++ a1) x6_2) = 10
          ·rw [if_pos c16] at H
           have c16b0 : ((bt (a0 ++ a1) x6_2) == 10) = true := beq_iff_eq.mpr c16
           have c16b1 : ((bt (a0 ++ a1) x6_2) != 10) = false := bne_eq_false_iff_eq.mpr c16
           clear c16
           replace H := Option.bind_eq_some_iff.mp H
           obtain ⟨t153, A170, H⟩ := H
           replace H : (some t153) = some r := H
           have A17 := Aside0.mk A170
           clear A170
           obtain rfl := Option.some.inj H
           have p11 : 0 ≤ (x6_2 : Int) := of_decide_eq_true asA
           have q11 : x6_2 < ((a0 ++ a1).size : Int) := of_decide_eq_true asA
           (try (have q11z := q11; simp only [ByteArray.size_append', Int.natCast_add] at q11z; replace q11z := eq_true q11z))
           have hx11 := bt_at (a0 ++ a1) x6_2
           (try (have hx11z := hx11; simp only [ByteArray.size_append', Int.natCast_add] at hx11z))
           replace p11 := eq_true p11
           replace q11 := eq_true q11
           have p15 : 0 ≤ (x6_2 : Int) := of_decide_eq_true asA
           have q15 : x6_2 < ((a0 ++ a1).size : Int) := of_decide_eq_true asA
           (try (have q15z := q15; simp only [ByteArray.size_append', Int.natCast_add] at q15z; replace q15z := eq_true q15z))
           have hx15 := bt_at (a0 ++ a1) x6_2
           (try (have hx15z := hx15; simp only [ByteArray.size_append', Int.natCast_add] at hx15z))
           replace p15 := eq_true p15
           replace q15 := eq_true q15
           go_wp2_with (first | ((with_reducible refine gate_callee (f := 11) rfl ?_); refine goesL_ (some 45) rfl rfl Tryd.func11 (by kernel_rfl) rfl #[] rfl aP ?_; (with_reducible refine (flonglaw05_known.calls k2  t153 _ ?side1 A17.out).mono ?_); (case side1 => exact GOK.of_below (GOK.sub HG.out rfl) bA); rintro e w18 ⟨rfl, hb⟩; refine ⟨_, rfl, ?_⟩; replace HB := Aside0.mk (below_step bA hb); (try clear hb); (try clear hb2); (try clear hk); (try clear hi)))
           go_ret
           exact ⟨eW, bA⟩
          ·rw [if_neg c16] at H
           have c16b0 : ((bt (a0 ++ a1) x6_2) == 10) = false := beq_eq_false_iff_ne.mpr c16
           have c16b1 : ((bt (a0 ++ a1) x6_2) != 10) = true := bne_iff_ne.mpr c16
           by_cases c20 : (bt (a0 ++ a1) x6_2) = 13
           ·rw [if_pos c20] at H
            have c20b0 : ((bt (a0 ++ a1) x6_2) == 13) = true := beq_iff_eq.mpr c20
            have c20b1 : ((bt (a0 ++ a1) x6_2) != 13) = false := bne_eq_false_iff_eq.mpr c20
            clear c20
            replace H := Option.bind_eq_some_iff.mp H
            obtain ⟨t154, A210, H⟩ := H
            replace H : (some t154) = some r := H
            have A21 := Aside0.mk A210
            clear A210
            obtain rfl := Option.some.inj H
            have p11 : 0 ≤ (x6_2 : Int) := of_decide_eq_true asA
            have q11 : x6_2 < ((a0 ++ a1).size : Int) := of_decide_eq_true asA
            (try (have q11z := q11; simp only [ByteArray.size_append', Int.natCast_add] at q11z; replace q11z := eq_true q11z))
            have hx11 := bt_at (a0 ++ a1) x6_2
            (try (have hx11z := hx11; simp only [ByteArray.size_append', Int.natCast_add] at hx11z))
            replace p11 := eq_true p11
            replace q11 := eq_true q11
            have p15 : 0 ≤ (x6_2 : Int) := of_decide_eq_true asA
            have q15 : x6_2 < ((a0 ++ a1).size : Int) := of_decide_eq_true asA
            (try (have q15z := q15; simp only [ByteArray.size_append', Int.natCast_add] at q15z; replace q15z := eq_true q15z))
            have hx15 := bt_at (a0 ++ a1) x6_2
            (try (have hx15z := hx15; simp only [ByteArray.size_append', Int.natCast_add] at hx15z))
            replace p15 := eq_true p15
            replace q15 := eq_true q15
            have p19 : 0 ≤ (x6_2 : Int) := of_decide_eq_true asA
            have q19 : x6_2 < ((a0 ++ a1).size : Int) := of_decide_eq_true asA
            (try (have q19z := q19; simp only [ByteArray.size_append', Int.natCast_add] at q19z; replace q19z := eq_true q19z))
            have hx19 := bt_at (a0 ++ a1) x6_2
            (try (have hx19z := hx19; simp only [ByteArray.size_append', Int.natCast_add] at hx19z))
            replace p19 := eq_true p19
            replace q19 := eq_true q19
            go_wp2_with (first | ((with_reducible refine gate_callee (f := 11) rfl ?_); refine goesL_ (some 45) rfl rfl Tryd.func11 (by kernel_rfl) rfl #[] rfl aP ?_; (with_reducible refine (flonglaw05_known.calls k2  t154 _ ?side1 A21.out).mono ?_); (case side1 => exact GOK.of_below (GOK.sub HG.out rfl) bA); rintro e w22 ⟨rfl, hb⟩; refine ⟨_, rfl, ?_⟩; replace HB := Aside0.mk (below_step bA hb); (try clear hb); (try clear hb2); (try clear hk); (try clear hi)))
            go_ret
            exact ⟨eW, bA⟩
           ·rw [if_neg c20] at H
            have c20b0 : ((bt (a0 ++ a1) x6_2) == 13) = false := beq_eq_false_iff_ne.mpr c20
            have c20b1 : ((bt (a0 ++ a1) x6_2) != 13) = true := bne_iff_ne.mpr c20
            have H' := Aside0.mk H
            clear H
            have p11 : 0 ≤ (x6_2 : Int) := of_decide_eq_true asA
            have q11 : x6_2 < ((a0 ++ a1).size : Int) := of_decide_eq_true asA
            (try (have q11z := q11; simp only [ByteArray.size_append', Int.natCast_add] at q11z; replace q11z := eq_true q11z))
            have hx11 := bt_at (a0 ++ a1) x6_2
            (try (have hx11z := hx11; simp only [ByteArray.size_append', Int.natCast_add] at hx11z))
            replace p11 := eq_true p11
            replace q11 := eq_true q11
            have p15 : 0 ≤ (x6_2 : Int) := of_decide_eq_true asA
            have q15 : x6_2 < ((a0 ++ a1).size : Int) := of_decide_eq_true asA
            (try (have q15z := q15; simp only [ByteArray.size_append', Int.natCast_add] at q15z; replace q15z := eq_true q15z))
            have hx15 := bt_at (a0 ++ a1) x6_2
            (try (have hx15z := hx15; simp only [ByteArray.size_append', Int.natCast_add] at hx15z))
            replace p15 := eq_true p15
            replace q15 := eq_true q15
            have p19 : 0 ≤ (x6_2 : Int) := of_decide_eq_true asA
            have q19 : x6_2 < ((a0 ++ a1).size : Int) := of_decide_eq_true asA
            (try (have q19z := q19; simp only [ByteArray.size_append', Int.natCast_add] at q19z; replace q19z := eq_true q19z))
            have hx19 := bt_at (a0 ++ a1) x6_2
            (try (have hx19z := hx19; simp only [ByteArray.size_append', Int.natCast_add] at hx19z))
            replace p19 := eq_true p19
            replace q19 := eq_true q19
            go_wp2
            go_roundg k2
            case measure => have := HJ2.out; have := HK2.out; omega
            case rel => exact ⟨(wrap64 (x6_2 + 1)), sA, H', ⟨by have := HJ2.out; have := HK2.out; omega⟩, ⟨bA⟩⟩
        ·rw [if_neg c10] at H
         exact absurd H (by simp)
       ·rw [if_neg c9] at H
        have c9b0 : decide (x6_2 < ((a0 ++ a1).size : Int)) = false := decide_eq_false c9
        (try (have c9b0z := c9b0; simp only [ByteArray.size_append', Int.natCast_add] at c9b0z))
        clear c9
        by_cases c23 : (a0 ++ a1).size + 1 ≤ 9223372036854775807
        ·rw [if_pos c23] at H
         have c23b0 := eq_true c23
         have c23b1 : decide ((a0 ++ a1).size + 1 ≤ 9223372036854775807) = true := decide_eq_true c23
         try have c23b2 : (9223372036854775807 < (a0 ++ a1).size + 1) = False := eq_false (Nat.not_lt.2 c23)
         (try (have c23n := c23; simp only [ByteArray.size_append'] at c23n; have c23b3 := eq_false (Nat.not_lt.2 c23n); have c23b4 := eq_true c23n; clear c23n))
         replace H := Option.bind_eq_some_iff.mp H
         obtain ⟨⟨t155, t156⟩, A240, H⟩ := H
         replace H : (if a0.size + 2 ≤ 9223372036854775807 then (if (a0 ++ (⟨#[92, 10]⟩ : ByteArray)).size + a1.size ≤ 9223372036854775807 then (if ((a0 ++ (⟨#[92, 10]⟩ : ByteArray)) ++ a1).size + 1 ≤ 9223372036854775807 then ((lines_Read.f k2 (((a0 ++ (⟨#[92, 10]⟩ : ByteArray)) ++ a1) ++ (⟨#[10]⟩ : ByteArray))).bind fun bt161 => ((flongref05_Same.f k2 t155 bt161.1).bind fun t167 => (if t167 = true then (if (t156.length : Int) = (bt161.2.length : Int) then ((flonglaw05_known.f k2).bind fun t168 => (some t168)) else (some false)) else (some false)))) else (none)) else (none)) else (none)) = some r := H
         have A24 := Aside0.mk A240
         clear A240
         by_cases c25 : a0.size + 2 ≤ 9223372036854775807
         ·rw [if_pos c25] at H
          have c25b0 := eq_true c25
          have c25b1 : decide (a0.size + 2 ≤ 9223372036854775807) = true := decide_eq_true c25
          try have c25b2 : (9223372036854775807 < a0.size + 2) = False := eq_false (Nat.not_lt.2 c25)
          by_cases c26 : (a0 ++ (⟨#[92, 10]⟩ : ByteArray)).size + a1.size ≤ 9223372036854775807
          ·rw [if_pos c26] at H
           have c26b0 := eq_true c26
           have c26b1 : decide ((a0 ++ (⟨#[92, 10]⟩ : ByteArray)).size + a1.size ≤ 9223372036854775807) = true := decide_eq_true c26
           try have c26b2 : (9223372036854775807 < (a0 ++ (⟨#[92, 10]⟩ : ByteArray)).size + a1.size) = False := eq_false (Nat.not_lt.2 c26)
           (try (have c26n := c26; simp only [ByteArray.size_append'] at c26n; have c26b3 := eq_false (Nat.not_lt.2 c26n); have c26b4 := eq_true c26n; clear c26n))
           (try (have c26k := c26; simp only [ByteArray.size_append', show (⟨#[92, 10]⟩ : ByteArray).size = 2 from rfl] at c26k; have c26b7 := eq_false (Nat.not_lt.2 c26k); have c26b8 := eq_true c26k; clear c26k))
           by_cases c27 : ((a0 ++ (⟨#[92, 10]⟩ : ByteArray)) ++ a1).size + 1 ≤ 9223372036854775807
           ·rw [if_pos c27] at H
            have c27b0 := eq_true c27
            have c27b1 : decide (((a0 ++ (⟨#[92, 10]⟩ : ByteArray)) ++ a1).size + 1 ≤ 9223372036854775807) = true := decide_eq_true c27
            try have c27b2 : (9223372036854775807 < ((a0 ++ (⟨#[92, 10]⟩ : ByteArray)) ++ a1).size + 1) = False := eq_false (Nat.not_lt.2 c27)
            (try (have c27n := c27; simp only [ByteArray.size_append'] at c27n; have c27b3 := eq_false (Nat.not_lt.2 c27n); have c27b4 := eq_true c27n; clear c27n))
            (try (have c27k := c27; simp only [ByteArray.size_append', show (⟨#[92, 10]⟩ : ByteArray).size = 2 from rfl] at c27k; have c27b7 := eq_false (Nat.not_lt.2 c27k); have c27b8 := eq_true c27k; clear c27k))
            replace H := Option.bind_eq_some_iff.mp H
            obtain ⟨⟨t161, t162⟩, A280, H⟩ := H
            replace H : ((flongref05_Same.f k2 t155 t161).bind fun t167 => (if t167 = true then (if (t156.length : Int) = (t162.length : Int) then ((flonglaw05_known.f k2).bind fun t168 => (some t168)) else (some false)) else (some false))) = some r := H
            have A28 := Aside0.mk A280
            clear A280
            replace H := Option.bind_eq_some_iff.mp H
            obtain ⟨t167, A290, H⟩ := H
            replace H : (if t167 = true then (if (t156.length : Int) = (t162.length : Int) then ((flonglaw05_known.f k2).bind fun t168 => (some t168)) else (some false)) else (some false)) = some r := H
            have A29 := Aside0.mk A290
            clear A290
            by_cases c30 : t167 = true
            ·subst c30
             have H1 : (if (t156.length : Int) = (t162.length : Int) then ((flonglaw05_known.f k2).bind fun t168 => (some t168)) else (some false)) = some r := by rw [if_pos rfl] at H; exact H
             clear H
             have H := H1
             clear H1
             by_cases c31 : (t156.length : Int) = (t162.length : Int)
             ·rw [if_pos c31] at H
              have c31b0 : ((t156.length : Int) == (t162.length : Int)) = true := beq_iff_eq.mpr c31
              have c31b1 : ((t156.length : Int) != (t162.length : Int)) = false := bne_eq_false_iff_eq.mpr c31
              have c31b2 : (t156.length == t162.length) = true := by first | simpa using c31 | (simp at c31 ⊢; omega)
              clear c31
              replace H := Option.bind_eq_some_iff.mp H
              obtain ⟨t168, A320, H⟩ := H
              replace H : (some t168) = some r := H
              have A32 := Aside0.mk A320
              clear A320
              obtain rfl := Option.some.inj H
              go_wp2_with (first | ((with_reducible refine gate_callee (f := 17) rfl ?_); refine goesL_ (some 49) rfl rfl Tryd.func17 (by kernel_rfl) rfl #[.string ((a0 ++ a1) ++ (⟨#[10]⟩ : ByteArray))] rfl aP ?_; (with_reducible refine (lines_Read.calls k2 ((a0 ++ a1) ++ (⟨#[10]⟩ : ByteArray)) t155 t156 _ A24.out).mono ?_); rintro e w33 ⟨v157, v159, rfl, ho0, ho1, hb⟩; refine ⟨_, rfl, ?_⟩; have HO158 := Aside0.mk (Kd.S_lower ho0 (below_size bA)); have HO160 := Aside0.mk (Kd.R_lower ho1 (below_size bA)); replace HB := Aside0.mk (below_step bA hb); (try clear hb); (try clear hb2); (try clear hk); (try clear hi); (try clear ho0); (try clear ho1)) | ((with_reducible refine gate_callee (f := 17) rfl ?_); refine goesL_ (some 58) rfl rfl Tryd.func17 (by kernel_rfl) rfl #[.string (((a0 ++ (⟨#[92, 10]⟩ : ByteArray)) ++ a1) ++ (⟨#[10]⟩ : ByteArray))] rfl aP ?_; (with_reducible refine (lines_Read.calls k2 (((a0 ++ (⟨#[92, 10]⟩ : ByteArray)) ++ a1) ++ (⟨#[10]⟩ : ByteArray)) t161 t162 _ A28.out).mono ?_); rintro e w34 ⟨v163, v165, rfl, ho0, ho1, hb⟩; refine ⟨_, rfl, ?_⟩; have n0_ := Aside0.mk (Kd.S_elder' (kS HO158) (Kd.S_base ho0) hb); have n1_ := Aside0.mk (Kd.R_elder' (kR HO160) (Kd.R_base ho1) hb); have n2_ := Aside0.mk (Kd.S_lower (Kd.S_new' ho0 (Kd.S_lt (kS HO158))) (below_size bA)); have n3_ := Aside0.mk (Kd.R_lower (Kd.R_new' ho1 (Kd.R_lt (kR HO160))) (below_size bA)); have n4_ := Aside0.mk (below_step bA hb); clear HO158; clear HO160; clear HB; have HO158 := n0_; have HO160 := n1_; have HO164 := n2_; have HO166 := n3_; have HB := n4_; clear n0_ n1_ n2_ n3_ n4_; (try clear hb); (try clear hb2); (try clear hk); (try clear hi); (try clear ho0); (try clear ho1); obtain ⟨Ao35, co35, eo35⟩ := Kd.S_slice HO158.out; subst eo35; obtain ⟨Ao36, co36, eo36⟩ := Kd.S_slice HO164.out; subst eo36) | ((with_reducible refine gate_callee (f := 18) rfl ?_); refine goesL_ (some 63) rfl rfl Tryd.func18 (by kernel_rfl) rfl #[.slice Ao35 t155.length co35, .slice Ao36 t161.length co36] rfl aP ?_; (with_reducible refine (flongref05_Same.calls k2 _ _ t155 _ _ t161 true _ ?side1 ?side2 ?side3 ?side4 A29.out).mono ?_); (case side1 => repeat (first | exact (Kd.S_reads' HO158.out).2.2 | (with_reducible refine Kd.C_alloc ?_ _) | (with_reducible refine Kd.C_drewN ?_ _) | (with_reducible refine Kd.C_drew ?_))); (case side2 => exact (Kd.S_reads' HO158.out).2.1); (case side3 => repeat (first | exact (Kd.S_reads' HO164.out).2.2 | (with_reducible refine Kd.C_alloc ?_ _) | (with_reducible refine Kd.C_drewN ?_ _) | (with_reducible refine Kd.C_drew ?_))); (case side4 => exact (Kd.S_reads' HO164.out).2.1); rintro e w37 ⟨rfl, hb⟩; refine ⟨_, rfl, ?_⟩; replace HO158 := Aside0.mk (Kd.S_below (kS HO158) hb); replace HO160 := Aside0.mk (Kd.R_below (kR HO160) hb); replace HO164 := Aside0.mk (Kd.S_below (kS HO164) hb); replace HO166 := Aside0.mk (Kd.R_below (kR HO166) hb); replace HB := Aside0.mk (below_step bA hb); (try clear hb); (try clear hb2); (try clear hk); (try clear hi); obtain ⟨Ao38, co38, eo38⟩ := Kd.R_slice HO160.out; subst eo38; obtain ⟨Ao39, co39, eo39⟩ := Kd.R_slice HO166.out; subst eo39) | (go_at_call 11; (with_reducible refine (flonglaw05_known.calls k2  t168 _ ?side1 A32.out).mono ?_); (case side1 => exact GOK.of_below (GOK.sub HG.out rfl) bA); rintro e w40 ⟨rfl, hb⟩; replace HO158 := Aside0.mk (Kd.S_below (kS HO158) hb); replace HO160 := Aside0.mk (Kd.R_below (kR HO160) hb); replace HO164 := Aside0.mk (Kd.S_below (kS HO164) hb); replace HO166 := Aside0.mk (Kd.R_below (kR HO166) hb); replace HB := Aside0.mk (below_step bA hb); (try clear hb); (try clear hb2); (try clear hk); (try clear hi)))
              go_ret
              exact ⟨eW, bA⟩
             ·rw [if_neg c31] at H
              have c31b0 : ((t156.length : Int) == (t162.length : Int)) = false := beq_eq_false_iff_ne.mpr c31
              have c31b1 : ((t156.length : Int) != (t162.length : Int)) = true := bne_iff_ne.mpr c31
              have c31b2 : (t156.length == t162.length) = false := by first | simpa using c31 | (simp at c31 ⊢; omega)
              obtain rfl := Option.some.inj H
              go_wp2_with (first | ((with_reducible refine gate_callee (f := 17) rfl ?_); refine goesL_ (some 49) rfl rfl Tryd.func17 (by kernel_rfl) rfl #[.string ((a0 ++ a1) ++ (⟨#[10]⟩ : ByteArray))] rfl aP ?_; (with_reducible refine (lines_Read.calls k2 ((a0 ++ a1) ++ (⟨#[10]⟩ : ByteArray)) t155 t156 _ A24.out).mono ?_); rintro e w41 ⟨v157, v159, rfl, ho0, ho1, hb⟩; refine ⟨_, rfl, ?_⟩; have HO158 := Aside0.mk (Kd.S_lower ho0 (below_size bA)); have HO160 := Aside0.mk (Kd.R_lower ho1 (below_size bA)); replace HB := Aside0.mk (below_step bA hb); (try clear hb); (try clear hb2); (try clear hk); (try clear hi); (try clear ho0); (try clear ho1)) | ((with_reducible refine gate_callee (f := 17) rfl ?_); refine goesL_ (some 58) rfl rfl Tryd.func17 (by kernel_rfl) rfl #[.string (((a0 ++ (⟨#[92, 10]⟩ : ByteArray)) ++ a1) ++ (⟨#[10]⟩ : ByteArray))] rfl aP ?_; (with_reducible refine (lines_Read.calls k2 (((a0 ++ (⟨#[92, 10]⟩ : ByteArray)) ++ a1) ++ (⟨#[10]⟩ : ByteArray)) t161 t162 _ A28.out).mono ?_); rintro e w42 ⟨v163, v165, rfl, ho0, ho1, hb⟩; refine ⟨_, rfl, ?_⟩; have n0_ := Aside0.mk (Kd.S_elder' (kS HO158) (Kd.S_base ho0) hb); have n1_ := Aside0.mk (Kd.R_elder' (kR HO160) (Kd.R_base ho1) hb); have n2_ := Aside0.mk (Kd.S_lower (Kd.S_new' ho0 (Kd.S_lt (kS HO158))) (below_size bA)); have n3_ := Aside0.mk (Kd.R_lower (Kd.R_new' ho1 (Kd.R_lt (kR HO160))) (below_size bA)); have n4_ := Aside0.mk (below_step bA hb); clear HO158; clear HO160; clear HB; have HO158 := n0_; have HO160 := n1_; have HO164 := n2_; have HO166 := n3_; have HB := n4_; clear n0_ n1_ n2_ n3_ n4_; (try clear hb); (try clear hb2); (try clear hk); (try clear hi); (try clear ho0); (try clear ho1); obtain ⟨Ao43, co43, eo43⟩ := Kd.S_slice HO158.out; subst eo43; obtain ⟨Ao44, co44, eo44⟩ := Kd.S_slice HO164.out; subst eo44) | ((with_reducible refine gate_callee (f := 18) rfl ?_); refine goesL_ (some 63) rfl rfl Tryd.func18 (by kernel_rfl) rfl #[.slice Ao43 t155.length co43, .slice Ao44 t161.length co44] rfl aP ?_; (with_reducible refine (flongref05_Same.calls k2 _ _ t155 _ _ t161 true _ ?side1 ?side2 ?side3 ?side4 A29.out).mono ?_); (case side1 => repeat (first | exact (Kd.S_reads' HO158.out).2.2 | (with_reducible refine Kd.C_alloc ?_ _) | (with_reducible refine Kd.C_drewN ?_ _) | (with_reducible refine Kd.C_drew ?_))); (case side2 => exact (Kd.S_reads' HO158.out).2.1); (case side3 => repeat (first | exact (Kd.S_reads' HO164.out).2.2 | (with_reducible refine Kd.C_alloc ?_ _) | (with_reducible refine Kd.C_drewN ?_ _) | (with_reducible refine Kd.C_drew ?_))); (case side4 => exact (Kd.S_reads' HO164.out).2.1); rintro e w45 ⟨rfl, hb⟩; refine ⟨_, rfl, ?_⟩; replace HO158 := Aside0.mk (Kd.S_below (kS HO158) hb); replace HO160 := Aside0.mk (Kd.R_below (kR HO160) hb); replace HO164 := Aside0.mk (Kd.S_below (kS HO164) hb); replace HO166 := Aside0.mk (Kd.R_below (kR HO166) hb); replace HB := Aside0.mk (below_step bA hb); (try clear hb); (try clear hb2); (try clear hk); (try clear hi); obtain ⟨Ao46, co46, eo46⟩ := Kd.R_slice HO160.out; subst eo46; obtain ⟨Ao47, co47, eo47⟩ := Kd.R_slice HO166.out; subst eo47))
              go_ret
              exact ⟨eW, bA⟩
            ·replace c30 := Bool.eq_false_iff.mpr c30
             subst c30
             have H1 : (some false) = some r := by rw [if_neg (show ¬ (false = true) by decide)] at H; exact H
             clear H
             have H := H1
             clear H1
             obtain rfl := Option.some.inj H
             go_wp2_with (first | ((with_reducible refine gate_callee (f := 17) rfl ?_); refine goesL_ (some 49) rfl rfl Tryd.func17 (by kernel_rfl) rfl #[.string ((a0 ++ a1) ++ (⟨#[10]⟩ : ByteArray))] rfl aP ?_; (with_reducible refine (lines_Read.calls k2 ((a0 ++ a1) ++ (⟨#[10]⟩ : ByteArray)) t155 t156 _ A24.out).mono ?_); rintro e w48 ⟨v157, v159, rfl, ho0, ho1, hb⟩; refine ⟨_, rfl, ?_⟩; have HO158 := Aside0.mk (Kd.S_lower ho0 (below_size bA)); have HO160 := Aside0.mk (Kd.R_lower ho1 (below_size bA)); replace HB := Aside0.mk (below_step bA hb); (try clear hb); (try clear hb2); (try clear hk); (try clear hi); (try clear ho0); (try clear ho1)) | ((with_reducible refine gate_callee (f := 17) rfl ?_); refine goesL_ (some 58) rfl rfl Tryd.func17 (by kernel_rfl) rfl #[.string (((a0 ++ (⟨#[92, 10]⟩ : ByteArray)) ++ a1) ++ (⟨#[10]⟩ : ByteArray))] rfl aP ?_; (with_reducible refine (lines_Read.calls k2 (((a0 ++ (⟨#[92, 10]⟩ : ByteArray)) ++ a1) ++ (⟨#[10]⟩ : ByteArray)) t161 t162 _ A28.out).mono ?_); rintro e w49 ⟨v163, v165, rfl, ho0, ho1, hb⟩; refine ⟨_, rfl, ?_⟩; have n0_ := Aside0.mk (Kd.S_elder' (kS HO158) (Kd.S_base ho0) hb); have n1_ := Aside0.mk (Kd.R_elder' (kR HO160) (Kd.R_base ho1) hb); have n2_ := Aside0.mk (Kd.S_lower (Kd.S_new' ho0 (Kd.S_lt (kS HO158))) (below_size bA)); have n3_ := Aside0.mk (Kd.R_lower (Kd.R_new' ho1 (Kd.R_lt (kR HO160))) (below_size bA)); have n4_ := Aside0.mk (below_step bA hb); clear HO158; clear HO160; clear HB; have HO158 := n0_; have HO160 := n1_; have HO164 := n2_; have HO166 := n3_; have HB := n4_; clear n0_ n1_ n2_ n3_ n4_; (try clear hb); (try clear hb2); (try clear hk); (try clear hi); (try clear ho0); (try clear ho1); obtain ⟨Ao50, co50, eo50⟩ := Kd.S_slice HO158.out; subst eo50; obtain ⟨Ao51, co51, eo51⟩ := Kd.S_slice HO164.out; subst eo51) | ((with_reducible refine gate_callee (f := 18) rfl ?_); refine goesL_ (some 63) rfl rfl Tryd.func18 (by kernel_rfl) rfl #[.slice Ao50 t155.length co50, .slice Ao51 t161.length co51] rfl aP ?_; (with_reducible refine (flongref05_Same.calls k2 _ _ t155 _ _ t161 false _ ?side1 ?side2 ?side3 ?side4 A29.out).mono ?_); (case side1 => repeat (first | exact (Kd.S_reads' HO158.out).2.2 | (with_reducible refine Kd.C_alloc ?_ _) | (with_reducible refine Kd.C_drewN ?_ _) | (with_reducible refine Kd.C_drew ?_))); (case side2 => exact (Kd.S_reads' HO158.out).2.1); (case side3 => repeat (first | exact (Kd.S_reads' HO164.out).2.2 | (with_reducible refine Kd.C_alloc ?_ _) | (with_reducible refine Kd.C_drewN ?_ _) | (with_reducible refine Kd.C_drew ?_))); (case side4 => exact (Kd.S_reads' HO164.out).2.1); rintro e w52 ⟨rfl, hb⟩; refine ⟨_, rfl, ?_⟩; replace HO158 := Aside0.mk (Kd.S_below (kS HO158) hb); replace HO160 := Aside0.mk (Kd.R_below (kR HO160) hb); replace HO164 := Aside0.mk (Kd.S_below (kS HO164) hb); replace HO166 := Aside0.mk (Kd.R_below (kR HO166) hb); replace HB := Aside0.mk (below_step bA hb); (try clear hb); (try clear hb2); (try clear hk); (try clear hi)))
             go_ret
             exact ⟨eW, bA⟩
           ·rw [if_neg c27] at H
            exact absurd H (by simp)
          ·rw [if_neg c26] at H
           exact absurd H (by simp)
         ·rw [if_neg c25] at H
          exact absurd H (by simp)
        ·rw [if_neg c23] at H
         exact absurd H (by simp)
    ·rw [if_neg c8] at H
     exact absurd H (by simp)

end Go.Proofs.YtmfkokjbjmahkaaDoor.X
