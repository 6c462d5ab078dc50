-- Written by this session's xprint.py (a variant of the kit's printer). Not trusted: Lean checks it.
import Derived.Test.YtmeinakeiefcdaaDoorX0
import Derived.Test.YtmeinakeiefcdaaDoorSlim
import Derived.Test.YtmeinakeiefcdaaDoorX1
import Derived.Test.YtmeinakeiefcdaaDoorHandA
import Derived.Test.YtmeinakeiefcdaaDoorHandO
namespace Go.Proofs.YtmeinakeiefcdaaDoor.X
open Go.Proofs.YtmeinakeiefcdaaDoor.Hand
open Go.RowKit Go.Proofs.YtmeinakeiefcdaaDoorW.PrintWords Go.Proofs.YtmeinakeiefcdaaDoorW.PrintLast Go.Proofs.YtmeinakeiefcdaaDoorW.PrintMore
attribute [local go_sem] max2_int min2_int max_two min_two max_three min_three max_four min_four   -- for this text's walks alone
set_option linter.unusedVariables false
set_option maxHeartbeats 8000000
set_option maxRecDepth 100000
set_option linter.unusedSimpArgs false

/-! ### flonglaw18_known: function 9 -/
def flonglaw18_known.f (k : Nat)  : Option (Bool) := (over_One.f k 97 1).bind fun t146 => (if (strOfNums t146).toList = ([97, 8, 97] : List UInt8) then ((over_One.f k 97 2).bind fun t149 => (some ((strOfNums t149).toList == ([95, 8, 97] : List UInt8)))) else (some false))
theorem flonglaw18_known.mono : ∀ k, LeO (flonglaw18_known.f k ) (flonglaw18_known.f (k + 1) ) := by
 intro  k
 unfold flonglaw18_known.f
 repeat' first
   | (with_reducible exact over_One.mono _ _ _)
   | (with_reducible exact LeO.refl _)
   | (with_reducible exact LeO.none _)
   | (with_reducible refine LeO.ite ?_ ?_)
   | (with_reducible refine LeO.bind ?_ (fun _ => ?_))
theorem flonglaw18_known.calls (k : Nat)  (r : Bool) (w : World) (hG : GOK [0] w) (h : flonglaw18_known.f k  = some r) :
  Calls Tryd.prog 9 #[] w fun e w' => e = .returned (.bool r) ∧ Below w.heap.size w w' := by
 have hu35 := Tryd.underlying35
 have HG := Aside0.mk hG
 clear hG
 have HB := Aside0.mk (Below.refl w.heap.size w)
 have H : ((over_One.f k 97 1).bind fun t146 => (if (strOfNums t146).toList = ([97, 8, 97] : List UInt8) then ((over_One.f k 97 2).bind fun t149 => (some ((strOfNums t149).toList == ([95, 8, 97] : List UInt8)))) else (some false))) = some r := h
 clear h
 replace H := Option.bind_eq_some_iff.mp H
 obtain ⟨t146, A10, H⟩ := H
 replace H : (if (strOfNums t146).toList = ([97, 8, 97] : List UInt8) then ((over_One.f k 97 2).bind fun t149 => (some ((strOfNums t149).toList == ([95, 8, 97] : List UInt8)))) else (some false)) = some r := H
 have A1 := Aside0.mk A10
 clear A10
 by_cases c2 : (strOfNums t146).toList = ([97, 8, 97] : List UInt8)
 ·rw [if_pos c2] at H
  have c2b0 : ((strOfNums t146).toList == ([97, 8, 97] : List UInt8)) = true := beq_iff_eq.mpr c2
  have c2b1 : ((strOfNums t146).toList != ([97, 8, 97] : List UInt8)) = false := bne_eq_false_iff_eq.mpr c2
  clear c2
  replace H := Option.bind_eq_some_iff.mp H
  obtain ⟨t149, A30, H⟩ := H
  replace H : (some ((strOfNums t149).toList == ([95, 8, 97] : List UInt8))) = some r := H
  have A3 := Aside0.mk A30
  clear A30
  obtain rfl := Option.some.inj H
  go_enter Tryd.func9, Tryd.ntmps9
  go_wp2_with (first | ((with_reducible refine gate_callee (f := 15) rfl ?_); refine goesL_ (some 2) rfl rfl Tryd.func15 (by kernel_rfl) rfl #[.agg #[.int .i32 97, .int .u8 1]] rfl aP ?_; (with_reducible refine (over_One.calls k 97 1 t146 _ ?side1 A1.out).mono ?_); (case side1 => exact GOK.of_below (GOK.sub HG.out rfl) bA); rintro e w4 ⟨v147, rfl, ho0, hb⟩; refine ⟨_, rfl, ?_⟩; have HO148 := Aside0.mk (Kd.V_lower (Kd.V_mono (ok' := fun k_ => True) ho0 (fun k_ hk_ => trivial)) (below_size bA)); replace HB := Aside0.mk (below_step bA hb); (try clear hb); (try clear hb2); (try clear hk); (try clear hi); (try clear ho0); have hcv5 := V_string (P := Tryd.prog) Tryd.underlying25 Tryd.underlying5 Tryd.underlying9 HO148.out) | (go_at_call 15; (with_reducible refine (over_One.calls k 97 2 t149 _ ?side1 A3.out).mono ?_); (case side1 => exact GOK.of_below (GOK.sub HG.out rfl) bA); rintro e w6 ⟨v150, rfl, ho0, hb⟩; replace HO148 := Aside0.mk (Kd.V_below (kV HO148) hb); have HO151 := Aside0.mk (Kd.V_lower (Kd.V_mono (ok' := fun k_ => True) ho0 (fun k_ hk_ => trivial)) (below_size bA)); replace HB := Aside0.mk (below_step bA hb); (try clear hb); (try clear hb2); (try clear hk); (try clear hi); (try clear ho0); have hcv7 := V_string (P := Tryd.prog) Tryd.underlying25 Tryd.underlying5 Tryd.underlying9 HO151.out))
  go_ret
  exact ⟨eW, bA⟩
 ·rw [if_neg c2] at H
  have c2b0 : ((strOfNums t146).toList == ([97, 8, 97] : List UInt8)) = false := beq_eq_false_iff_ne.mpr c2
  have c2b1 : ((strOfNums t146).toList != ([97, 8, 97] : List UInt8)) = true := bne_iff_ne.mpr c2
  obtain rfl := Option.some.inj H
  go_enter Tryd.func9, Tryd.ntmps9
  go_wp2_with (first | ((with_reducible refine gate_callee (f := 15) rfl ?_); refine goesL_ (some 2) rfl rfl Tryd.func15 (by kernel_rfl) rfl #[.agg #[.int .i32 97, .int .u8 1]] rfl aP ?_; (with_reducible refine (over_One.calls k 97 1 t146 _ ?side1 A1.out).mono ?_); (case side1 => exact GOK.of_below (GOK.sub HG.out rfl) bA); rintro e w8 ⟨v147, rfl, ho0, hb⟩; refine ⟨_, rfl, ?_⟩; have HO148 := Aside0.mk (Kd.V_lower (Kd.V_mono (ok' := fun k_ => True) ho0 (fun k_ hk_ => trivial)) (below_size bA)); replace HB := Aside0.mk (below_step bA hb); (try clear hb); (try clear hb2); (try clear hk); (try clear hi); (try clear ho0); have hcv9 := V_string (P := Tryd.prog) Tryd.underlying25 Tryd.underlying5 Tryd.underlying9 HO148.out))
  go_ret
  exact ⟨eW, bA⟩

/-! ### cells_Trim: function 54 -/
def cells_Trim.l0 : Nat → List (S35) → Int → Option ((List (S35)))
 | 0, _, _ => none
 | k + 1, x0, x3 => if x3 > 0 then (if 0 ≤ (wrap64 (x3 - 1)) then (if (wrap64 (x3 - 1)) < (x0.length : Int) then (if ((rd_T35 x0 (wrap64 (x3 - 1))).f0) = 32 then (cells_Trim.l0 k x0 (wrap64 (x3 - 1))) else (if 0 ≤ x3 then (if x3 ≤ (x0.length : Int) then ((clone_G.f (x0.take (x3 : Int).toNat)).bind fun t157 => (some t157)) else (none)) else (none))) else (none)) else (none)) else (if 0 ≤ x3 then (if x3 ≤ (x0.length : Int) then ((clone_G.f (x0.take (x3 : Int).toNat)).bind fun t164 => (some t164)) else (none)) else (none))
def cells_Trim.f (k : Nat) (l0 : List (S35)) : Option ((List (S35))) := cells_Trim.l0 k l0 (l0.length : Int)
theorem cells_Trim.mono_l : ∀ k, (∀ y0 y1, LeO (cells_Trim.l0 k y0 y1) (cells_Trim.l0 (k + 1) y0 y1))
 | 0 => fun _ _ r h => by simp [cells_Trim.l0] at h
 | k + 1 => by
  have ih0 := cells_Trim.mono_l k
  ·intro y0 y1
   unfold cells_Trim.l0
   repeat' first
   | (with_reducible exact ih0 _ _)
   | (with_reducible exact LeO.refl _)
   | (with_reducible exact LeO.none _)
   | (with_reducible refine LeO.ite ?_ ?_)
   | (with_reducible refine LeO.bind ?_ (fun _ => ?_))
theorem cells_Trim.mono : ∀ a0 k, LeO (cells_Trim.f k a0) (cells_Trim.f (k + 1) a0) := by
 intro a0 k
 have ih0 := cells_Trim.mono_l k
 unfold cells_Trim.f
 repeat' first
   | (with_reducible exact ih0 _ _)
   | (with_reducible exact LeO.refl _)
   | (with_reducible exact LeO.none _)
   | (with_reducible refine LeO.ite ?_ ?_)
   | (with_reducible refine LeO.bind ?_ (fun _ => ?_))
theorem cells_Trim.calls (k : Nat) (A0 : Option Addr) (c0 : Nat) (l0 : List (S35)) (r : List (S35)) (w : World) (hr0 : Kd.C k35 w A0 l0.length l0) (hc0 : l0.length ≤ c0) (hG : GOK [1] w) (h : cells_Trim.f k l0 = some r) :
  Calls Tryd.prog 54 #[.slice A0 l0.length c0] w fun e w' => ∃ v0_ : Value, e = .returned (v0_) ∧ Kd.R k35 35 w' w.heap.size (fun _ => True) v0_ r ∧ Below w.heap.size w w' := by
 have HG := Aside0.mk hG
 clear hG
 have HR0 := Aside0.mk hr0
 have HC0 := Aside0.mk hc0
 clear hr0 hc0
 have HB := Aside0.mk (Below.refl w.heap.size w)
 have H : (cells_Trim.l0 k l0 (l0.length : Int)) = some r := h
 clear h
 have H' := Aside0.mk H
 clear H
 go_enter Tryd.func54, Tryd.ntmps54
 go_wp2
 repeat (go_quiet (fail); try go_wp2)
 go_loopg [3] k (fun kq v3 w' => ∃ (x3_1 : Int), v3 = .int .i64 x3_1 ∧ Aside0 (cells_Trim.l0 kq l0 x3_1 = some r) ∧ Aside0 (kq ≤ k) ∧ Aside0 (Below w.heap.size w w'))
 case atStart => exact ⟨((l0.length : Int)), sA, H', ⟨Nat.le_refl _⟩, ⟨bA⟩⟩
 case round =>
  clear H'
  obtain ⟨x3_1, rfl, HA, HK1, HB⟩ := hrel
  cases gk with
  | zero => exact absurd HA.out (by simp [cells_Trim.l0])
  | succ k1 =>
   have H := HA.out
   clear HA
   simp only [cells_Trim.l0] at H
   by_cases c2 : x3_1 > 0
   ·rw [if_pos c2] at H
    have c2b0 : decide (0 < x3_1) = true := decide_eq_true c2
    clear c2
    obtain ⟨ji3, hji3⟩ : ∃ j_ : Int, (wrap64 (x3_1 - 1)) = j_ := ⟨_, rfl⟩
    replace H : (if 0 ≤ (ji3) then (if (ji3) < (l0.length : Int) then (if ((rd_T35 l0 (ji3)).f0) = 32 then (cells_Trim.l0 k1 l0 ji3) else (if 0 ≤ x3_1 then (if x3_1 ≤ (l0.length : Int) then ((clone_G.f (l0.take (x3_1 : Int).toNat)).bind fun t157 => (some t157)) else (none)) else (none))) else (none)) else (none)) = some r := by first | (rw [hji3] at H; exact H) | (simp only [hji3] at H ⊢; exact H)
    have hji3w : (IntKind.i64.wrap (x3_1 - 1)) = ji3 := (i64_w _).trans hji3
    by_cases c4 : 0 ≤ (ji3)
    ·rw [if_pos c4] at H
     have c4b0 : decide (0 ≤ (ji3)) = true := decide_eq_true c4
     clear c4
     by_cases c5 : (ji3) < (l0.length : Int)
     ·rw [if_pos c5] at H
      have c5b0 : decide ((ji3) < (l0.length : Int)) = true := decide_eq_true c5
      clear c5
      by_cases c6 : ((rd_T35 l0 (ji3)).f0) = 32
      ·rw [if_pos c6] at H
       have c6b0 : (((rd_T35 l0 (ji3)).f0) == 32) = true := beq_iff_eq.mpr c6
       have c6b1 : (((rd_T35 l0 (ji3)).f0) != 32) = false := bne_eq_false_iff_eq.mpr c6
       clear c6
       have H' := Aside0.mk H
       clear H
       have p152 : 0 ≤ ((ji3) : Int) := of_decide_eq_true asA
       have q152 : (ji3) < (l0.length : Int) := of_decide_eq_true asA
       obtain ⟨ad152, e152, hx152_0, hx152_1⟩ := at_T35 HR0.out (ji3) p152 q152
       cases e152
       replace hx152_0 := (HB.out.cell (World.block_lt_of_cell? w _ hx152_0)).trans hx152_0
       replace hx152_1 := (HB.out.cell (World.block_lt_of_cell? w _ hx152_1)).trans hx152_1
       replace p152 := eq_true p152
       replace q152 := eq_true q152
       have hgl7 := blank_0 (GOK.of_below HG.out HB.out) (by decide)
       go_wp2
       repeat (go_quiet (fail); try go_wp2)
       go_roundg k1
       case measure => have := HK1.out; omega
       case rel => exact ⟨(ji3), (by first | rfl | (simp; done) | (simp only [← hji3] <;> (first | rfl | simp)) | (simp [*]; done)), H', ⟨by have := HK1.out; omega⟩, ⟨bA⟩⟩
      ·rw [if_neg c6] at H
       have c6b0 : (((rd_T35 l0 (ji3)).f0) == 32) = false := beq_eq_false_iff_ne.mpr c6
       have c6b1 : (((rd_T35 l0 (ji3)).f0) != 32) = true := bne_iff_ne.mpr c6
       by_cases c8 : 0 ≤ x3_1
       ·rw [if_pos c8] at H
        have c8b0 := eq_true c8
        have c8b1 : decide (0 ≤ x3_1) = true := decide_eq_true c8
        clear c8
        by_cases c9 : x3_1 ≤ (l0.length : Int)
        ·rw [if_pos c9] at H
         have c9b0 := eq_true c9
         have c9b1 : decide (x3_1 ≤ (l0.length : Int)) = true := decide_eq_true c9
         clear c9
         obtain ⟨y153, hy153⟩ : ∃ y_ : List (S35), y_ = (l0.take (x3_1 : Int).toNat) := ⟨_, rfl⟩
         replace H : ((clone_G.f y153).bind fun t157 => (some t157)) = some r := hyA hy153 H
         have Ny153 := Aside0.mk hy153
         clear hy153
         replace H := Option.bind_eq_some_iff.mp H
         obtain ⟨t157, A100, H⟩ := H
         replace H : (some t157) = some r := H
         have A10 := Aside0.mk A100
         clear A100
         obtain rfl := Option.some.inj H
         have p152 : 0 ≤ ((ji3) : Int) := of_decide_eq_true asA
         have q152 : (ji3) < (l0.length : Int) := of_decide_eq_true asA
         obtain ⟨ad152, e152, hx152_0, hx152_1⟩ := at_T35 HR0.out (ji3) p152 q152
         cases e152
         replace hx152_0 := (HB.out.cell (World.block_lt_of_cell? w _ hx152_0)).trans hx152_0
         replace hx152_1 := (HB.out.cell (World.block_lt_of_cell? w _ hx152_1)).trans hx152_1
         replace p152 := eq_true p152
         replace q152 := eq_true q152
         have hgl11 := blank_0 (GOK.of_below HG.out HB.out) (by decide)
         have q12 : (x3_1 : Int) ≤ ((l0.length : Int) : Int) := of_decide_eq_true asA
         obtain ⟨i012, hi012, _, hsz12, _⟩ := info_parts info35
         have hroom12 : l0.length ≤ c0 := HC0.out
         have hC12 : Kd.C k35 _ (some ad152) l0.length l0 := HR0.out
         have hcut12 := cut_to (P := Tryd.prog) 27 35 .i64 Tryd.underlying27 hi012 (some ad152) l0.length c0 x3_1 (of_decide_eq_true asA) q12 hroom12
         have hr12 := Kd.C_take (m := (x3_1 : Int).toNat) hC12 (by omega)
         have hy12 : y153.length = (x3_1 : Int).toNat := (by rw [Ny153.out, List.length_take]; omega)
         rw [← Ny153.out] at hr12
         rw [← hy12] at hcut12
         have HR156 := Aside0.mk hr12
         have HC156 := Aside0.mk (show y153.length ≤ c0 from by omega)
         clear hr12 hC12 hroom12 hi012 hsz12
         have KY12 := Aside0.mk hy12
         clear hy12
         replace q12 := eq_true q12
         go_wp2_with (first | (go_at_call 43; (with_reducible refine (clone_G.calls _ _ y153 t157 _ ?side1 ?side2 A10.out).mono ?_); (case side1 => repeat (first | exact (Kd.C_below HR156.out HB.out) | (with_reducible refine Kd.C_alloc ?_ _) | (with_reducible refine Kd.C_drewN ?_ _) | (with_reducible refine Kd.C_drew ?_))); (case side2 => exact HC156.out); rintro e w13 ⟨v158, rfl, ho0, hb⟩; have HO159 := Aside0.mk (Kd.R_lower ho0 (below_size bA)); replace HB := Aside0.mk (below_step bA hb); (try clear hb); (try clear hb2); (try clear hk); (try clear hi); (try clear ho0)))
         repeat (go_quiet (first | (go_at_call 43; (with_reducible refine (clone_G.calls _ _ y153 t157 _ ?side1 ?side2 A10.out).mono ?_); (case side1 => repeat (first | exact (Kd.C_below HR156.out HB.out) | (with_reducible refine Kd.C_alloc ?_ _) | (with_reducible refine Kd.C_drewN ?_ _) | (with_reducible refine Kd.C_drew ?_))); (case side2 => exact HC156.out); rintro e w13 ⟨v158, rfl, ho0, hb⟩; have HO159 := Aside0.mk (Kd.R_lower ho0 (below_size bA)); replace HB := Aside0.mk (below_step bA hb); (try clear hb); (try clear hb2); (try clear hk); (try clear hi); (try clear ho0))); try go_wp2_with (first | (go_at_call 43; (with_reducible refine (clone_G.calls _ _ y153 t157 _ ?side1 ?side2 A10.out).mono ?_); (case side1 => repeat (first | exact (Kd.C_below HR156.out HB.out) | (with_reducible refine Kd.C_alloc ?_ _) | (with_reducible refine Kd.C_drewN ?_ _) | (with_reducible refine Kd.C_drew ?_))); (case side2 => exact HC156.out); rintro e w13 ⟨v158, rfl, ho0, hb⟩; have HO159 := Aside0.mk (Kd.R_lower ho0 (below_size bA)); replace HB := Aside0.mk (below_step bA hb); (try clear hb); (try clear hb2); (try clear hk); (try clear hi); (try clear ho0))))
         go_ret
         exact ⟨_, by first | rfl | (simp [errW_none, errW_some] <;> rfl) | (simp only [← hji3]; first | rfl | (simp [errW_none, errW_some] <;> rfl)) | (simp [*, errW_none, errW_some] <;> rfl), kR HO159, bA⟩
        ·rw [if_neg c9] at H
         exact absurd H (by simp)
       ·rw [if_neg c8] at H
        exact absurd H (by simp)
     ·rw [if_neg c5] at H
      exact absurd H (by simp)
    ·rw [if_neg c4] at H
     exact absurd H (by simp)
   ·rw [if_neg c2] at H
    have c2b0 : decide (0 < x3_1) = false := decide_eq_false c2
    clear c2
    by_cases c14 : 0 ≤ x3_1
    ·rw [if_pos c14] at H
     have c14b0 := eq_true c14
     have c14b1 : decide (0 ≤ x3_1) = true := decide_eq_true c14
     clear c14
     by_cases c15 : x3_1 ≤ (l0.length : Int)
     ·rw [if_pos c15] at H
      have c15b0 := eq_true c15
      have c15b1 : decide (x3_1 ≤ (l0.length : Int)) = true := decide_eq_true c15
      clear c15
      obtain ⟨y160, hy160⟩ : ∃ y_ : List (S35), y_ = (l0.take (x3_1 : Int).toNat) := ⟨_, rfl⟩
      replace H : ((clone_G.f y160).bind fun t164 => (some t164)) = some r := hyA hy160 H
      have Ny160 := Aside0.mk hy160
      clear hy160
      replace H := Option.bind_eq_some_iff.mp H
      obtain ⟨t164, A160, H⟩ := H
      replace H : (some t164) = some r := H
      have A16 := Aside0.mk A160
      clear A160
      obtain rfl := Option.some.inj H
      have q17 : (x3_1 : Int) ≤ ((l0.length : Int) : Int) := of_decide_eq_true asA
      obtain ⟨i017, hi017, _, hsz17, _⟩ := info_parts info35
      have hroom17 : l0.length ≤ c0 := HC0.out
      have hC17 : Kd.C k35 _ A0 l0.length l0 := HR0.out
      have hcut17 := cut_to (P := Tryd.prog) 27 35 .i64 Tryd.underlying27 hi017 A0 l0.length c0 x3_1 (of_decide_eq_true asA) q17 hroom17
      have hr17 := Kd.C_take (m := (x3_1 : Int).toNat) hC17 (by omega)
      have hy17 : y160.length = (x3_1 : Int).toNat := (by rw [Ny160.out, List.length_take]; omega)
      rw [← Ny160.out] at hr17
      rw [← hy17] at hcut17
      have HR163 := Aside0.mk hr17
      have HC163 := Aside0.mk (show y160.length ≤ c0 from by omega)
      clear hr17 hC17 hroom17 hi017 hsz17
      have KY17 := Aside0.mk hy17
      clear hy17
      replace q17 := eq_true q17
      go_wp2_with (first | (go_at_call 43; (with_reducible refine (clone_G.calls _ _ y160 t164 _ ?side1 ?side2 A16.out).mono ?_); (case side1 => repeat (first | exact (Kd.C_below HR163.out HB.out) | (with_reducible refine Kd.C_alloc ?_ _) | (with_reducible refine Kd.C_drewN ?_ _) | (with_reducible refine Kd.C_drew ?_))); (case side2 => exact HC163.out); rintro e w18 ⟨v165, rfl, ho0, hb⟩; have HO166 := Aside0.mk (Kd.R_lower ho0 (below_size bA)); replace HB := Aside0.mk (below_step bA hb); (try clear hb); (try clear hb2); (try clear hk); (try clear hi); (try clear ho0)))
      repeat (go_quiet (first | (go_at_call 43; (with_reducible refine (clone_G.calls _ _ y160 t164 _ ?side1 ?side2 A16.out).mono ?_); (case side1 => repeat (first | exact (Kd.C_below HR163.out HB.out) | (with_reducible refine Kd.C_alloc ?_ _) | (with_reducible refine Kd.C_drewN ?_ _) | (with_reducible refine Kd.C_drew ?_))); (case side2 => exact HC163.out); rintro e w18 ⟨v165, rfl, ho0, hb⟩; have HO166 := Aside0.mk (Kd.R_lower ho0 (below_size bA)); replace HB := Aside0.mk (below_step bA hb); (try clear hb); (try clear hb2); (try clear hk); (try clear hi); (try clear ho0))); try go_wp2_with (first | (go_at_call 43; (with_reducible refine (clone_G.calls _ _ y160 t164 _ ?side1 ?side2 A16.out).mono ?_); (case side1 => repeat (first | exact (Kd.C_below HR163.out HB.out) | (with_reducible refine Kd.C_alloc ?_ _) | (with_reducible refine Kd.C_drewN ?_ _) | (with_reducible refine Kd.C_drew ?_))); (case side2 => exact HC163.out); rintro e w18 ⟨v165, rfl, ho0, hb⟩; have HO166 := Aside0.mk (Kd.R_lower ho0 (below_size bA)); replace HB := Aside0.mk (below_step bA hb); (try clear hb); (try clear hb2); (try clear hk); (try clear hi); (try clear ho0))))
      go_ret
      exact ⟨_, eW, kR HO166, bA⟩
     ·rw [if_neg c15] at H
      exact absurd H (by simp)
    ·rw [if_neg c14] at H
     exact absurd H (by simp)

/-! ### plain_Normal: function 27 -/
def plain_Normal.l0 : Nat → List (S35) → Int → Int → Option ((List (S35)))
 | 0, _, _, _ => none
 | k + 1, x3, x10, x11 => if x11 < x10 then (if 0 ≤ x11 then (if x11 < (x3.length : Int) then (if ((rd_T35 x3 x11).f0) = 32 then (plain_Normal.l0 k (x3.set (x11 : Int).toNat (⟨(rd_T35 x3 x11).f0, 0⟩ : S35)) x10 (wrap64 (x11 + 1))) else (if x11 > 0 then ((runes_Width.f ((rd_T35 x3 x11).f0)).bind fun t176 => (if t176 = 0 then (if 0 ≤ (wrap64 (x11 - 1)) then (if (wrap64 (x11 - 1)) < (x3.length : Int) then (plain_Normal.l0 k (x3.set (x11 : Int).toNat (⟨(rd_T35 x3 x11).f0, (rd_T35 x3 (wrap64 (x11 - 1))).f1⟩ : S35)) x10 (wrap64 (x11 + 1))) else (none)) else (none)) else (plain_Normal.l0 k x3 x10 (wrap64 (x11 + 1))))) else (plain_Normal.l0 k x3 x10 (wrap64 (x11 + 1))))) else (none)) else (none)) else (some x3)
def plain_Normal.f (k : Nat) (l0 : List (S35)) : Option ((List (S35))) := (cells_Clean.f k l0).bind fun t167 => ((cells_Trim.f k t167).bind fun t170 => (plain_Normal.l0 k t170 (t170.length : Int) 0))
theorem plain_Normal.mono_l : ∀ k, (∀ y0 y1 y2, LeO (plain_Normal.l0 k y0 y1 y2) (plain_Normal.l0 (k + 1) y0 y1 y2))
 | 0 => fun _ _ _ r h => by simp [plain_Normal.l0] at h
 | k + 1 => by
  have ih0 := plain_Normal.mono_l k
  ·intro y0 y1 y2
   unfold plain_Normal.l0
   repeat' first
   | (with_reducible exact ih0 _ _ _)
   | (with_reducible exact cells_Clean.mono _ _)
   | (with_reducible exact cells_Trim.mono _ _)
   | (with_reducible exact LeO.refl _)
   | (with_reducible exact LeO.none _)
   | (with_reducible refine LeO.ite ?_ ?_)
   | (with_reducible refine LeO.bind ?_ (fun _ => ?_))
theorem plain_Normal.mono : ∀ a0 k, LeO (plain_Normal.f k a0) (plain_Normal.f (k + 1) a0) := by
 intro a0 k
 have ih0 := plain_Normal.mono_l k
 unfold plain_Normal.f
 repeat' first
   | (with_reducible exact ih0 _ _ _)
   | (with_reducible exact cells_Clean.mono _ _)
   | (with_reducible exact cells_Trim.mono _ _)
   | (with_reducible exact LeO.refl _)
   | (with_reducible exact LeO.none _)
   | (with_reducible refine LeO.ite ?_ ?_)
   | (with_reducible refine LeO.bind ?_ (fun _ => ?_))
theorem plain_Normal.calls (k : Nat) (A0 : Option Addr) (c0 : Nat) (l0 : List (S35)) (r : List (S35)) (w : World) (hr0 : Kd.C k35 w A0 l0.length l0) (hc0 : l0.length ≤ c0) (hG : GOK [0,1] w) (h : plain_Normal.f k l0 = some r) :
  Calls Tryd.prog 27 #[.slice A0 l0.length c0] w fun e w' => ∃ v0_ : Value, e = .returned (v0_) ∧ Kd.R k35 35 w' w.heap.size (fun _ => True) v0_ r ∧ Below w.heap.size w w' := by
 have hu35 := Tryd.underlying35
 have HG := Aside0.mk hG
 clear hG
 have HR0 := Aside0.mk hr0
 have HC0 := Aside0.mk hc0
 clear hr0 hc0
 have HB := Aside0.mk (Below.refl w.heap.size w)
 have H : ((cells_Clean.f k l0).bind fun t167 => ((cells_Trim.f k t167).bind fun t170 => (plain_Normal.l0 k t170 (t170.length : Int) 0))) = some r := h
 clear h
 replace H := Option.bind_eq_some_iff.mp H
 obtain ⟨t167, A20, H⟩ := H
 replace H : ((cells_Trim.f k t167).bind fun t170 => (plain_Normal.l0 k t170 (t170.length : Int) 0)) = some r := H
 have A2 := Aside0.mk A20
 clear A20
 replace H := Option.bind_eq_some_iff.mp H
 obtain ⟨t170, A30, H⟩ := H
 replace H : (plain_Normal.l0 k t170 (t170.length : Int) 0) = some r := H
 have A3 := Aside0.mk A30
 clear A30
 have H' := Aside0.mk H
 clear H
 go_enter Tryd.func27, Tryd.ntmps27
 go_wp2_with (first | ((with_reducible refine gate_callee (f := 32) rfl ?_); refine goesL_ (some 7) rfl rfl Tryd.func32 (by kernel_rfl) rfl #[.slice A0 l0.length c0] rfl aP ?_; (with_reducible refine (cells_Clean.calls k _ _ l0 t167 _ ?side1 ?side2 ?side3 A2.out).mono ?_); (case side1 => repeat (first | exact HR0.out | (with_reducible refine Kd.C_alloc ?_ _) | (with_reducible refine Kd.C_drewN ?_ _) | (with_reducible refine Kd.C_drew ?_))); (case side2 => exact HC0.out); (case side3 => exact GOK.of_below (GOK.sub HG.out rfl) bA); rintro e w4 ⟨v168, rfl, ho0, hb⟩; refine ⟨_, rfl, ?_⟩; have HO169 := Aside0.mk (Kd.R_lower ho0 (below_size bA)); replace HB := Aside0.mk (below_step bA hb); (try clear hb); (try clear hb2); (try clear hk); (try clear hi); (try clear ho0); obtain ⟨Ao5, co5, eo5⟩ := Kd.R_slice HO169.out; subst eo5) | ((with_reducible refine gate_callee (f := 54) rfl ?_); refine goesL_ (some 8) rfl rfl Tryd.func54 (by kernel_rfl) rfl #[.slice Ao5 t167.length co5] rfl aP ?_; (with_reducible refine (cells_Trim.calls k _ _ t167 t170 _ ?side1 ?side2 ?side3 A3.out).mono ?_); (case side1 => repeat (first | exact (Kd.R_reads' HO169.out).2.2 | (with_reducible refine Kd.C_alloc ?_ _) | (with_reducible refine Kd.C_drewN ?_ _) | (with_reducible refine Kd.C_drew ?_))); (case side2 => exact (Kd.R_reads' HO169.out).2.1); (case side3 => exact GOK.of_below (GOK.sub HG.out rfl) bA); rintro e w6 ⟨v171, rfl, ho0, hb⟩; refine ⟨_, rfl, ?_⟩; have n0_ := Aside0.mk (Kd.R_elder' (kR HO169) (Kd.R_base ho0) hb); have n1_ := Aside0.mk (Kd.R_lower (Kd.R_new' ho0 (Kd.R_lt (kR HO169))) (below_size bA)); have n2_ := Aside0.mk (below_step bA hb); clear HO169; clear HB; have HO169 := n0_; have HO172 := n1_; have HB := n2_; clear n0_ n1_ n2_; (try clear hb); (try clear hb2); (try clear hk); (try clear hi); (try clear ho0); obtain ⟨Ao7, co7, eo7⟩ := Kd.R_slice HO172.out; subst eo7))
 go_loopg [11] k (fun kq v11 w' => ∃ (x3_1 : List (S35)) (x11_1 : Int), v11 = .int .i64 x11_1 ∧ Aside0 (plain_Normal.l0 kq x3_1 (t170.length : Int) x11_1 = some r) ∧ Aside0 (kq ≤ k) ∧ Aside0 (Kd.R k35 35 w' w.heap.size (fun _ => True) (.slice Ao7 t170.length co7) x3_1) ∧ Aside0 (Below w.heap.size w w'))
 case atStart => exact ⟨(t170), (0), sA, H', ⟨Nat.le_refl _⟩, ⟨by (with_reducible repeat (first | apply Kd.R_alloc | apply Kd.R_drewN | apply Kd.R_drew)); exact Kd.R_mono HO172.out (fun _ hk => trivial)⟩, ⟨bA⟩⟩
 case round =>
  clear H'
  try clear c2
  try clear p2
  try clear c3
  try clear c5
  obtain ⟨x3_1, x11_1, rfl, HA, HK1, HO_3, HB⟩ := hrel
  have hl3_1 := (Kd.R_reads' HO_3.out).1
  rw [hl3_1] at HO_3
  (try simp only [hl3_1])
  cases gk with
  | zero => exact absurd HA.out (by simp [plain_Normal.l0])
  | succ k1 =>
   have H := HA.out
   clear HA
   simp only [plain_Normal.l0] at H
   by_cases c8 : x11_1 < (t170.length : Int)
   ·rw [if_pos c8] at H
    have c8b0 : decide (x11_1 < (t170.length : Int)) = true := decide_eq_true c8
    (try (have c8b0h := c8b0; simp only [hl3_1] at c8b0h))
    clear c8
    by_cases c9 : 0 ≤ x11_1
    ·rw [if_pos c9] at H
     have c9b0 : decide (0 ≤ x11_1) = true := decide_eq_true c9
     (try (have c9b0h := c9b0; simp only [hl3_1] at c9b0h))
     clear c9
     by_cases c10 : x11_1 < (x3_1.length : Int)
     ·rw [if_pos c10] at H
      have c10b0 : decide (x11_1 < (x3_1.length : Int)) = true := decide_eq_true c10
      (try (have c10b0h := c10b0; simp only [hl3_1] at c10b0h))
      clear c10
      by_cases c11 : ((rd_T35 x3_1 x11_1).f0) = 32
      ·rw [if_pos c11] at H
       have c11b0 : (((rd_T35 x3_1 x11_1).f0) == 32) = true := beq_iff_eq.mpr c11
       have c11b1 : (((rd_T35 x3_1 x11_1).f0) != 32) = false := bne_eq_false_iff_eq.mpr c11
       clear c11
       obtain ⟨y175, hy175⟩ : ∃ y_ : List (S35), y_ = (x3_1.set (x11_1 : Int).toNat (⟨(rd_T35 x3_1 x11_1).f0, 0⟩ : S35)) := ⟨_, rfl⟩
       replace H : (plain_Normal.l0 k1 y175 (t170.length : Int) (wrap64 (x11_1 + 1))) = some r := hyA hy175 H
       have Ny175 := Aside0.mk hy175
       clear hy175
       have H' := Aside0.mk H
       clear H
       have p173 : 0 ≤ (x11_1 : Int) := of_decide_eq_true asA
       have q173 : x11_1 < (x3_1.length : Int) := of_decide_eq_true asA
       obtain ⟨ad173, e173, hx173_0, hx173_1⟩ := at_T35 (Kd.R_reads' HO_3.out).2.2 x11_1 p173 q173
       cases e173
       replace p173 := eq_true p173
       replace q173 := eq_true q173
       go_wp2_with (first | ((with_reducible refine gate_dst (N := 5) rfl ?_); refine box_event ?hg (N := 5) ?hd (cs := #[.int .i32 0, .int .u8 0]) (t := 35) ?hr ?_; (case hd => rfl); (case hg => rfl); (case hr => first | (go_simp; done) | (go_simp; rfl)); intro gb174 hg w13 hbox hb; replace HO_3 := Aside0.mk (Kd.R_below (Kd.R_elderB (kR HO_3) gb174 (Nat.le_of_eq hg.symm)) hb); have BK174 := Aside0.mk (hbox); have GW174 := Aside0.mk ((geA hg : w.heap.size ≤ gb174)); have GE174 := Aside0.mk ((geA hg : w.heap.size ≤ gb174)); replace HB := Aside0.mk (below_step bA hb); clear hb hbox hg; have hcz14_0 : w13.cell? ⟨gb174, 0, none⟩ = some (.int .i32 0) := (blk_cell BK174.out 0).trans rfl; have hcz14_1 : w13.cell? ⟨gb174, 1, none⟩ = some (.int .u8 0) := (blk_cell BK174.out 1).trans rfl; have hfz14_0 := blk_frozen BK174.out 0; have hfz14_1 := blk_frozen BK174.out 1) | ((with_reducible refine gate_store (t := 35) (p := 5) rfl ?_); refine store_event (t := 35) (p := 5) (v := ?vo_w15) (w1 := ((w13.setCell ⟨gb174, 0, none⟩ (.int .i32 ((rd_T35 x3_1 x11_1).f0))).setCell ⟨gb174, 1, none⟩ (.int .u8 ((rd_T35 x3_1 x11_1).f1)))) ?hg ?ho ?hn ?hr ?_; (case ho => rfl); (case hg => rfl); (case hn => rfl); (case hr => first | (go_simp; done) | (go_simp; rfl)); intro w15 hw; have n0_ : Aside0 (Kd.R k35 35 w15 w.heap.size (fun k_ => k_ ≠ gb174) (.slice (some ad173) x3_1.length co7) x3_1) := ⟨(by rw [hw]; exact (by (with_reducible repeat (first | apply Kd.R_alloc | apply Kd.R_drewN | apply Kd.R_drew)); exact Kd.R_mono (Kd.R_far (p := ⟨gb174, 1, none⟩) (Kd.R_far (p := ⟨gb174, 0, none⟩) (Kd.R_mono HO_3.out (fun k_ hk => (⟨hk, hk.2⟩ : _ ∧ k_ ≠ gb174))) (fun _ hk => hk.2) (.int .i32 ((rd_T35 x3_1 x11_1).f0))) (fun _ hk => hk.2) (.int .u8 ((rd_T35 x3_1 x11_1).f1))) (fun _ hk => hk.1.2)))⟩; have n1_ : Aside0 (w15.heap[gb174]? = some (.cells #[.int .i32 ((rd_T35 x3_1 x11_1).f0), .int .u8 ((rd_T35 x3_1 x11_1).f1)] 35 (0, 0))) := ⟨(by rw [hw]; exact (by (with_reducible repeat (first | refine blk_drewN ?_ _ | refine blk_drew ?_ | refine blk_alloc ?_ _)); refine blk_put (cs := #[.int .i32 ((rd_T35 x3_1 x11_1).f0), .int .u8 0]) ?_ 1 _ rfl; (with_reducible repeat (first | refine blk_drewN ?_ _ | refine blk_drew ?_ | refine blk_alloc ?_ _)); refine blk_put (cs := #[.int .i32 0, .int .u8 0]) ?_ 0 _ rfl; (with_reducible repeat (first | refine blk_drewN ?_ _ | refine blk_drew ?_ | refine blk_alloc ?_ _)); exact BK174.out))⟩; have n2_ : Aside0 (Below w.heap.size w w15) := ⟨(by rw [hw]; exact bG)⟩; clear hw; clear HO_3; clear BK174; clear HB; have HO_3 := n0_; have BK174 := n1_; have HB := n2_; clear n0_ n1_ n2_; have hcz16_0 : w15.cell? ⟨gb174, 0, none⟩ = some (.int .i32 ((rd_T35 x3_1 x11_1).f0)) := (blk_cell BK174.out 0).trans rfl; have hcz16_1 : w15.cell? ⟨gb174, 1, none⟩ = some (.int .u8 ((rd_T35 x3_1 x11_1).f1)) := (blk_cell BK174.out 1).trans rfl; have hfz16_0 := blk_frozen BK174.out 0; have hfz16_1 := blk_frozen BK174.out 1; have p12 : 0 ≤ (x11_1 : Int) := of_decide_eq_true asA; have q12 : (x11_1 : Int) < ((x3_1.length : Int) : Int) := of_decide_eq_true asA; obtain ⟨go12, co12, eo12, gb12, gl12, cl12, HG12⟩ := Kd.R_form HO_3.out (by omega); (first | cases eo12 | (injection eo12 with ea_ en_ ec_; (first | subst ea_ | (injection ea_ with ea_; subst ea_)); subst ec_; clear en_)); have GB12 := Aside0.mk gb12; have GG12 := Aside0.mk HG12; clear gb12 gl12 HG12; (first | simp only [add_plain] at hx173_0 | skip); (first | simp only [add_plain] at hx173_1 | skip); obtain ⟨ce12, hcl12, hM12, hcc12, hfr12⟩ := Kd.R_elem HO_3.out z35 (x11_1 : Int) p12 q12; obtain rfl := k35_openM hM12; have hx12_0 : w15.cell? ⟨go12, (x11_1 : Int).toNat * 2, none⟩ = some (.int .i32 ((rd_T35 x3_1 x11_1).f0)) := hcc12 0 _ rfl; have hx12_1 : w15.cell? ⟨go12, (x11_1 : Int).toNat * 2 + 1, none⟩ = some (.int .u8 ((rd_T35 x3_1 x11_1).f1)) := hcc12 1 _ rfl; have hf12_0 : w15.frozen? ⟨go12, (x11_1 : Int).toNat * 2, none⟩ = false := hfr12 0; have hf12_1 : w15.frozen? ⟨go12, (x11_1 : Int).toNat * 2 + 1, none⟩ = false := hfr12 1; clear hcl12 hcc12 hfr12 hM12; replace p12 := eq_true p12; replace q12 := eq_true q12; have HX17 := Aside0.mk (show Kd.R k35 35 w15 w.heap.size (fun k_ => k_ ≠ gb174) (.slice (some ⟨go12, 0, none⟩) x3_1.length co7) x3_1 from (kR HO_3)); obtain ⟨ce17, hcl17, hM17, hcc17, hfr17⟩ := Kd.R_elem HX17.out z35 (x11_1 : Int) (of_decide_eq_true asA) (by have h_ : (x11_1 : Int) < ((x3_1.length : Int) : Int) := of_decide_eq_true asA; first | exact h_ | (have e_ := (Kd.R_reads' HO_3.out).1; omega) | simpa using h_); obtain rfl := k35_openM hM17; have HP17 := Kd.R_seg HX17.out (x11_1 : Int) (of_decide_eq_true asA) (by have h_ : (x11_1 : Int) < ((x3_1.length : Int) : Int) := of_decide_eq_true asA; first | exact h_ | (have e_ := (Kd.R_reads' HO_3.out).1; omega) | simpa using h_) (seg := [.int .u8 0]) (j := 1) hcl17 hcc17 (show 2 ≤ 2 from by decide) (x' := (⟨(rd_T35 x3_1 x11_1).f0, 0⟩ : S35)) (k35_mkM _ _ _ (⟨(rd_T35 x3_1 x11_1).f0, 0⟩ : S35) ) (fun _ hk => hk); have hx17_1 := hcc17 1 _ rfl; (try simp only [show (k35).sz = 2 from rfl, Nat.mul_one, Nat.add_zero] at hx17_1); have hf17_1 := hfr17 1; (try simp only [show (k35).sz = 2 from rfl, Nat.mul_one, Nat.add_zero] at hf17_1); clear hcl17 hcc17 hfr17 hM17) | ((with_reducible refine gate_store (t := 5) (p := 32) rfl ?_); refine store_event (t := 5) (p := 32) (v := ?vo_w18) (w1 := (w15.setCell ⟨go12, (x11_1 : Int).toNat * 2 + 1, none⟩ (.int .u8 0))) ?hg ?ho ?hn ?hr ?_; (case ho => rfl); (case hg => rfl); (case hn => rfl); (case hr => first | (go_simp; done) | (go_simp; rfl)); intro w18 hw; have hg : w15.grownBy w18 (some go12) := (by rw [hw]; exact HP17.2); have hp_ : Kd.R k35 35 w18 w.heap.size (fun k_ => k_ ≠ gb174) (.slice (some ⟨go12, 0, none⟩) x3_1.length co7) y175 := (by rw [hw, Ny175.out]; exact HP17.1); clear HP17; have n0_ := Aside0.mk (hp_); have n1_ := Aside0.mk (blk_grown (g := gb174) (o := .cells #[.int .i32 ((rd_T35 x3_1 x11_1).f0), .int .u8 ((rd_T35 x3_1 x11_1).f1)] 35 (0, 0)) (kB BK174) hg (Kd.R_away HO_3.out (fun _ hk => hk))); have n2_ := Aside0.mk ((by rw [hw]; exact below_set (HB.out) GB12.out : Below w.heap.size w w18)); clear HO_3; clear BK174; clear HB; have HO_3 := n0_; have BK174 := n1_; have HB := n2_; clear n0_ n1_ n2_; clear hg hw hp_))
       (try simp only [← hl3_1])
       go_roundg k1
       case measure => have := HK1.out; omega
       case rel => exact ⟨(y175), (wrap64 (x11_1 + 1)), sA, H', ⟨by have := HK1.out; omega⟩, ⟨by (try simp only [hl3_1]); (with_reducible repeat (first | apply Kd.R_alloc | apply Kd.R_drewN | apply Kd.R_drew)); exact Kd.R_mono HO_3.out (fun _ hk => trivial)⟩, ⟨bG⟩⟩
      ·rw [if_neg c11] at H
       have c11b0 : (((rd_T35 x3_1 x11_1).f0) == 32) = false := beq_eq_false_iff_ne.mpr c11
       have c11b1 : (((rd_T35 x3_1 x11_1).f0) != 32) = true := bne_iff_ne.mpr c11
       by_cases c19 : x11_1 > 0
       ·rw [if_pos c19] at H
        have c19b0 : decide (0 < x11_1) = true := decide_eq_true c19
        (try (have c19b0h := c19b0; simp only [hl3_1] at c19b0h))
        clear c19
        replace H := Option.bind_eq_some_iff.mp H
        obtain ⟨t176, A200, H⟩ := H
        replace H : (if t176 = 0 then (if 0 ≤ (wrap64 (x11_1 - 1)) then (if (wrap64 (x11_1 - 1)) < (x3_1.length : Int) then (plain_Normal.l0 k1 (x3_1.set (x11_1 : Int).toNat (⟨(rd_T35 x3_1 x11_1).f0, (rd_T35 x3_1 (wrap64 (x11_1 - 1))).f1⟩ : S35)) (t170.length : Int) (wrap64 (x11_1 + 1))) else (none)) else (none)) else (plain_Normal.l0 k1 x3_1 (t170.length : Int) (wrap64 (x11_1 + 1)))) = some r := H
        have A20 := Aside0.mk A200
        clear A200
        by_cases c21 : t176 = 0
        ·rw [if_pos c21] at H
         have c21b0 : (t176 == 0) = true := beq_iff_eq.mpr c21
         have c21b1 : (t176 != 0) = false := bne_eq_false_iff_eq.mpr c21
         clear c21
         obtain ⟨ji22, hji22⟩ : ∃ j_ : Int, (wrap64 (x11_1 - 1)) = j_ := ⟨_, rfl⟩
         replace H : (if 0 ≤ (ji22) then (if (ji22) < (x3_1.length : Int) then (plain_Normal.l0 k1 (x3_1.set (x11_1 : Int).toNat (⟨(rd_T35 x3_1 x11_1).f0, (rd_T35 x3_1 (ji22)).f1⟩ : S35)) (t170.length : Int) (wrap64 (x11_1 + 1))) else (none)) else (none)) = some r := by first | (rw [hji22] at H; exact H) | (simp only [hji22] at H ⊢; exact H)
         (try rw [hji22] at A20)
         have hji22w : (IntKind.i64.wrap (x11_1 - 1)) = ji22 := (i64_w _).trans hji22
         by_cases c23 : 0 ≤ (ji22)
         ·rw [if_pos c23] at H
          have c23b0 : decide (0 ≤ (ji22)) = true := decide_eq_true c23
          (try (have c23b0h := c23b0; simp only [hl3_1] at c23b0h))
          clear c23
          by_cases c24 : (ji22) < (x3_1.length : Int)
          ·rw [if_pos c24] at H
           have c24b0 : decide ((ji22) < (x3_1.length : Int)) = true := decide_eq_true c24
           (try (have c24b0h := c24b0; simp only [hl3_1] at c24b0h))
           clear c24
           obtain ⟨y178, hy178⟩ : ∃ y_ : List (S35), y_ = (x3_1.set (x11_1 : Int).toNat (⟨(rd_T35 x3_1 x11_1).f0, (rd_T35 x3_1 (ji22)).f1⟩ : S35)) := ⟨_, rfl⟩
           replace H : (plain_Normal.l0 k1 y178 (t170.length : Int) (wrap64 (x11_1 + 1))) = some r := hyA hy178 H
           have Ny178 := Aside0.mk hy178
           clear hy178
           have H' := Aside0.mk H
           clear H
           have p173 : 0 ≤ (x11_1 : Int) := of_decide_eq_true asA
           have q173 : x11_1 < (x3_1.length : Int) := of_decide_eq_true asA
           obtain ⟨ad173, e173, hx173_0, hx173_1⟩ := at_T35 (Kd.R_reads' HO_3.out).2.2 x11_1 p173 q173
           cases e173
           replace p173 := eq_true p173
           replace q173 := eq_true q173
           go_wp2_with (first | ((with_reducible refine gate_dst (N := 5) rfl ?_); refine box_event ?hg (N := 5) ?hd (cs := #[.int .i32 0, .int .u8 0]) (t := 35) ?hr ?_; (case hd => rfl); (case hg => rfl); (case hr => first | (go_simp; done) | (go_simp; rfl)); intro gb174 hg w26 hbox hb; replace HO_3 := Aside0.mk (Kd.R_below (Kd.R_elderB (kR HO_3) gb174 (Nat.le_of_eq hg.symm)) hb); have BK174 := Aside0.mk (hbox); have GW174 := Aside0.mk ((geA hg : w.heap.size ≤ gb174)); have GE174 := Aside0.mk ((geA hg : w.heap.size ≤ gb174)); replace HB := Aside0.mk (below_step bA hb); clear hb hbox hg; have hcz27_0 : w26.cell? ⟨gb174, 0, none⟩ = some (.int .i32 0) := (blk_cell BK174.out 0).trans rfl; have hcz27_1 : w26.cell? ⟨gb174, 1, none⟩ = some (.int .u8 0) := (blk_cell BK174.out 1).trans rfl; have hfz27_0 := blk_frozen BK174.out 0; have hfz27_1 := blk_frozen BK174.out 1) | ((with_reducible refine gate_store (t := 35) (p := 5) rfl ?_); refine store_event (t := 35) (p := 5) (v := ?vo_w28) (w1 := ((w26.setCell ⟨gb174, 0, none⟩ (.int .i32 ((rd_T35 x3_1 x11_1).f0))).setCell ⟨gb174, 1, none⟩ (.int .u8 ((rd_T35 x3_1 x11_1).f1)))) ?hg ?ho ?hn ?hr ?_; (case ho => rfl); (case hg => rfl); (case hn => rfl); (case hr => first | (go_simp; done) | (go_simp; rfl)); intro w28 hw; have n0_ : Aside0 (Kd.R k35 35 w28 w.heap.size (fun k_ => k_ ≠ gb174) (.slice (some ad173) x3_1.length co7) x3_1) := ⟨(by rw [hw]; exact (by (with_reducible repeat (first | apply Kd.R_alloc | apply Kd.R_drewN | apply Kd.R_drew)); exact Kd.R_mono (Kd.R_far (p := ⟨gb174, 1, none⟩) (Kd.R_far (p := ⟨gb174, 0, none⟩) (Kd.R_mono HO_3.out (fun k_ hk => (⟨hk, hk.2⟩ : _ ∧ k_ ≠ gb174))) (fun _ hk => hk.2) (.int .i32 ((rd_T35 x3_1 x11_1).f0))) (fun _ hk => hk.2) (.int .u8 ((rd_T35 x3_1 x11_1).f1))) (fun _ hk => hk.1.2)))⟩; have n1_ : Aside0 (w28.heap[gb174]? = some (.cells #[.int .i32 ((rd_T35 x3_1 x11_1).f0), .int .u8 ((rd_T35 x3_1 x11_1).f1)] 35 (0, 0))) := ⟨(by rw [hw]; exact (by (with_reducible repeat (first | refine blk_drewN ?_ _ | refine blk_drew ?_ | refine blk_alloc ?_ _)); refine blk_put (cs := #[.int .i32 ((rd_T35 x3_1 x11_1).f0), .int .u8 0]) ?_ 1 _ rfl; (with_reducible repeat (first | refine blk_drewN ?_ _ | refine blk_drew ?_ | refine blk_alloc ?_ _)); refine blk_put (cs := #[.int .i32 0, .int .u8 0]) ?_ 0 _ rfl; (with_reducible repeat (first | refine blk_drewN ?_ _ | refine blk_drew ?_ | refine blk_alloc ?_ _)); exact BK174.out))⟩; have n2_ : Aside0 (Below w.heap.size w w28) := ⟨(by rw [hw]; exact bG)⟩; clear hw; clear HO_3; clear BK174; clear HB; have HO_3 := n0_; have BK174 := n1_; have HB := n2_; clear n0_ n1_ n2_; have hcz29_0 : w28.cell? ⟨gb174, 0, none⟩ = some (.int .i32 ((rd_T35 x3_1 x11_1).f0)) := (blk_cell BK174.out 0).trans rfl; have hcz29_1 : w28.cell? ⟨gb174, 1, none⟩ = some (.int .u8 ((rd_T35 x3_1 x11_1).f1)) := (blk_cell BK174.out 1).trans rfl; have hfz29_0 := blk_frozen BK174.out 0; have hfz29_1 := blk_frozen BK174.out 1) | (go_at_call 47; (with_reducible refine (runes_Width.calls ((rd_T35 x3_1 x11_1).f0) t176 _ ?side1 A20.out).mono ?_); (case side1 => exact GOK.of_below (GOK.sub HG.out rfl) bG); rintro e w' ⟨rfl, ⟨nd, rfl⟩⟩; (try (rw [drewN_self w28]; generalize hq_ : World.drewN w28 _ = w28; have n0_ : Aside0 (Kd.R k35 35 w28 w.heap.size (fun k_ => k_ ≠ gb174) (.slice (some ad173) x3_1.length co7) x3_1) := ⟨by rw [← hq_]; exact (kR HO_3)⟩; have n1_ : Aside0 (w28.heap[gb174]? = some (.cells #[.int .i32 ((rd_T35 x3_1 x11_1).f0), .int .u8 ((rd_T35 x3_1 x11_1).f1)] 35 (0, 0))) := ⟨by rw [← hq_]; exact (kB BK174)⟩; have n2_ : Aside0 (Below w.heap.size w w28) := ⟨by rw [← hq_]; exact bG⟩; clear HO_3 BK174 HB hq_; have HO_3 := n0_; have BK174 := n1_; have HB := n2_; clear n0_ n1_ n2_)); (try (have hcz30_0 : w28.cell? ⟨gb174, 0, none⟩ = some (.int .i32 ((rd_T35 x3_1 x11_1).f0)) := (blk_cell BK174.out 0).trans rfl; have hcz30_1 : w28.cell? ⟨gb174, 1, none⟩ = some (.int .u8 ((rd_T35 x3_1 x11_1).f1)) := (blk_cell BK174.out 1).trans rfl; have hfz30_0 := blk_frozen BK174.out 0; have hfz30_1 := blk_frozen BK174.out 1)); have p177 : 0 ≤ ((ji22) : Int) := of_decide_eq_true asA; have q177 : (ji22) < (x3_1.length : Int) := of_decide_eq_true asA; obtain ⟨ad177, e177, hx177_0, hx177_1⟩ := at_T35 (Kd.R_reads' HO_3.out).2.2 (ji22) p177 q177; obtain rfl : ad173 = ad177 := (by injection e177); replace p177 := eq_true p177; replace q177 := eq_true q177; have p25 : 0 ≤ (x11_1 : Int) := of_decide_eq_true asA; have q25 : (x11_1 : Int) < ((x3_1.length : Int) : Int) := of_decide_eq_true asA; obtain ⟨go25, co25, eo25, gb25, gl25, cl25, HG25⟩ := Kd.R_form HO_3.out (by omega); (first | cases eo25 | (injection eo25 with ea_ en_ ec_; (first | subst ea_ | (injection ea_ with ea_; subst ea_)); subst ec_; clear en_)); have GB25 := Aside0.mk gb25; have GG25 := Aside0.mk HG25; clear gb25 gl25 HG25; (first | simp only [add_plain] at hx173_0 | skip); (first | simp only [add_plain] at hx173_1 | skip); (first | simp only [add_plain] at hx177_0 | skip); (first | simp only [add_plain] at hx177_1 | skip); obtain ⟨ce25, hcl25, hM25, hcc25, hfr25⟩ := Kd.R_elem HO_3.out z35 (x11_1 : Int) p25 q25; obtain rfl := k35_openM hM25; have hx25_0 : w28.cell? ⟨go25, (x11_1 : Int).toNat * 2, none⟩ = some (.int .i32 ((rd_T35 x3_1 x11_1).f0)) := hcc25 0 _ rfl; have hx25_1 : w28.cell? ⟨go25, (x11_1 : Int).toNat * 2 + 1, none⟩ = some (.int .u8 ((rd_T35 x3_1 x11_1).f1)) := hcc25 1 _ rfl; have hf25_0 : w28.frozen? ⟨go25, (x11_1 : Int).toNat * 2, none⟩ = false := hfr25 0; have hf25_1 : w28.frozen? ⟨go25, (x11_1 : Int).toNat * 2 + 1, none⟩ = false := hfr25 1; clear hcl25 hcc25 hfr25 hM25; replace p25 := eq_true p25; replace q25 := eq_true q25; have HX31 := Aside0.mk (show Kd.R k35 35 w28 w.heap.size (fun k_ => k_ ≠ gb174) (.slice (some ⟨go25, 0, none⟩) x3_1.length co7) x3_1 from (kR HO_3)); obtain ⟨ce31, hcl31, hM31, hcc31, hfr31⟩ := Kd.R_elem HX31.out z35 (x11_1 : Int) (of_decide_eq_true asA) (by have h_ : (x11_1 : Int) < ((x3_1.length : Int) : Int) := of_decide_eq_true asA; first | exact h_ | (have e_ := (Kd.R_reads' HO_3.out).1; omega) | simpa using h_); obtain rfl := k35_openM hM31; have HP31 := Kd.R_seg HX31.out (x11_1 : Int) (of_decide_eq_true asA) (by have h_ : (x11_1 : Int) < ((x3_1.length : Int) : Int) := of_decide_eq_true asA; first | exact h_ | (have e_ := (Kd.R_reads' HO_3.out).1; omega) | simpa using h_) (seg := [.int .u8 ((rd_T35 x3_1 (ji22)).f1)]) (j := 1) hcl31 hcc31 (show 2 ≤ 2 from by decide) (x' := (⟨(rd_T35 x3_1 x11_1).f0, (rd_T35 x3_1 (ji22)).f1⟩ : S35)) (k35_mkM _ _ _ (⟨(rd_T35 x3_1 x11_1).f0, (rd_T35 x3_1 (ji22)).f1⟩ : S35) ) (fun _ hk => hk); have hx31_1 := hcc31 1 _ rfl; (try simp only [show (k35).sz = 2 from rfl, Nat.mul_one, Nat.add_zero] at hx31_1); have hf31_1 := hfr31 1; (try simp only [show (k35).sz = 2 from rfl, Nat.mul_one, Nat.add_zero] at hf31_1); clear hcl31 hcc31 hfr31 hM31) | ((with_reducible refine gate_store (t := 5) (p := 42) rfl ?_); refine store_event (t := 5) (p := 42) (v := ?vo_w32) (w1 := (w28.setCell ⟨go25, (x11_1 : Int).toNat * 2 + 1, none⟩ (.int .u8 ((rd_T35 x3_1 (ji22)).f1)))) ?hg ?ho ?hn ?hr ?_; (case ho => rfl); (case hg => rfl); (case hn => rfl); (case hr => first | (go_simp; done) | (go_simp; rfl)); intro w32 hw; have hg : w28.grownBy w32 (some go25) := (by rw [hw]; exact HP31.2); have hp_ : Kd.R k35 35 w32 w.heap.size (fun k_ => k_ ≠ gb174) (.slice (some ⟨go25, 0, none⟩) x3_1.length co7) y178 := (by rw [hw, Ny178.out]; exact HP31.1); clear HP31; have n0_ := Aside0.mk (hp_); have n1_ := Aside0.mk (blk_grown (g := gb174) (o := .cells #[.int .i32 ((rd_T35 x3_1 x11_1).f0), .int .u8 ((rd_T35 x3_1 x11_1).f1)] 35 (0, 0)) (kB BK174) hg (Kd.R_away HO_3.out (fun _ hk => hk))); have n2_ := Aside0.mk ((by rw [hw]; exact below_set (HB.out) GB25.out : Below w.heap.size w w32)); clear HO_3; clear BK174; clear HB; have HO_3 := n0_; have BK174 := n1_; have HB := n2_; clear n0_ n1_ n2_; clear hg hw hp_))
           (try simp only [← hl3_1])
           go_roundg k1
           case measure => have := HK1.out; omega
           case rel => exact ⟨(y178), (wrap64 (x11_1 + 1)), sA, H', ⟨by have := HK1.out; omega⟩, ⟨by (try simp only [hl3_1]); (with_reducible repeat (first | apply Kd.R_alloc | apply Kd.R_drewN | apply Kd.R_drew)); exact Kd.R_mono HO_3.out (fun _ hk => trivial)⟩, ⟨bG⟩⟩
          ·rw [if_neg c24] at H
           exact absurd H (by simp)
         ·rw [if_neg c23] at H
          exact absurd H (by simp)
        ·rw [if_neg c21] at H
         have c21b0 : (t176 == 0) = false := beq_eq_false_iff_ne.mpr c21
         have c21b1 : (t176 != 0) = true := bne_iff_ne.mpr c21
         have H' := Aside0.mk H
         clear H
         have p173 : 0 ≤ (x11_1 : Int) := of_decide_eq_true asA
         have q173 : x11_1 < (x3_1.length : Int) := of_decide_eq_true asA
         obtain ⟨ad173, e173, hx173_0, hx173_1⟩ := at_T35 (Kd.R_reads' HO_3.out).2.2 x11_1 p173 q173
         cases e173
         replace p173 := eq_true p173
         replace q173 := eq_true q173
         go_wp2_with (first | ((with_reducible refine gate_dst (N := 5) rfl ?_); refine box_event ?hg (N := 5) ?hd (cs := #[.int .i32 0, .int .u8 0]) (t := 35) ?hr ?_; (case hd => rfl); (case hg => rfl); (case hr => first | (go_simp; done) | (go_simp; rfl)); intro gb174 hg w33 hbox hb; replace HO_3 := Aside0.mk (Kd.R_below (Kd.R_elderB (kR HO_3) gb174 (Nat.le_of_eq hg.symm)) hb); have BK174 := Aside0.mk (hbox); have GW174 := Aside0.mk ((geA hg : w.heap.size ≤ gb174)); have GE174 := Aside0.mk ((geA hg : w.heap.size ≤ gb174)); replace HB := Aside0.mk (below_step bA hb); clear hb hbox hg; have hcz34_0 : w33.cell? ⟨gb174, 0, none⟩ = some (.int .i32 0) := (blk_cell BK174.out 0).trans rfl; have hcz34_1 : w33.cell? ⟨gb174, 1, none⟩ = some (.int .u8 0) := (blk_cell BK174.out 1).trans rfl; have hfz34_0 := blk_frozen BK174.out 0; have hfz34_1 := blk_frozen BK174.out 1) | (go_at_call 47; (with_reducible refine (runes_Width.calls ((rd_T35 x3_1 x11_1).f0) t176 _ ?side1 A20.out).mono ?_); (case side1 => exact GOK.of_below (GOK.sub HG.out rfl) bG); rintro e w' ⟨rfl, ⟨nd, rfl⟩⟩))
         (try simp only [← hl3_1])
         go_roundg k1
         case measure => have := HK1.out; omega
         case rel => exact ⟨(x3_1), (wrap64 (x11_1 + 1)), sA, H', ⟨by have := HK1.out; omega⟩, ⟨by (try simp only [hl3_1]); (with_reducible repeat (first | apply Kd.R_alloc | apply Kd.R_drewN | apply Kd.R_drew)); exact Kd.R_mono (Kd.R_far (p := ⟨gb174, 1, none⟩) (Kd.R_far (p := ⟨gb174, 0, none⟩) (Kd.R_mono HO_3.out (fun k_ hk => (⟨hk, hk.2⟩ : _ ∧ k_ ≠ gb174))) (fun _ hk => hk.2) (.int .i32 ((rd_T35 x3_1 x11_1).f0))) (fun _ hk => hk.2) (.int .u8 ((rd_T35 x3_1 x11_1).f1))) (fun _ hk => trivial)⟩, ⟨bG⟩⟩
       ·rw [if_neg c19] at H
        have c19b0 : decide (0 < x11_1) = false := decide_eq_false c19
        (try (have c19b0h := c19b0; simp only [hl3_1] at c19b0h))
        clear c19
        have H' := Aside0.mk H
        clear H
        have p173 : 0 ≤ (x11_1 : Int) := of_decide_eq_true asA
        have q173 : x11_1 < (x3_1.length : Int) := of_decide_eq_true asA
        obtain ⟨ad173, e173, hx173_0, hx173_1⟩ := at_T35 (Kd.R_reads' HO_3.out).2.2 x11_1 p173 q173
        cases e173
        replace p173 := eq_true p173
        replace q173 := eq_true q173
        go_wp2_with (first | ((with_reducible refine gate_dst (N := 5) rfl ?_); refine box_event ?hg (N := 5) ?hd (cs := #[.int .i32 0, .int .u8 0]) (t := 35) ?hr ?_; (case hd => rfl); (case hg => rfl); (case hr => first | (go_simp; done) | (go_simp; rfl)); intro gb174 hg w35 hbox hb; replace HO_3 := Aside0.mk (Kd.R_below (Kd.R_elderB (kR HO_3) gb174 (Nat.le_of_eq hg.symm)) hb); have BK174 := Aside0.mk (hbox); have GW174 := Aside0.mk ((geA hg : w.heap.size ≤ gb174)); have GE174 := Aside0.mk ((geA hg : w.heap.size ≤ gb174)); replace HB := Aside0.mk (below_step bA hb); clear hb hbox hg; have hcz36_0 : w35.cell? ⟨gb174, 0, none⟩ = some (.int .i32 0) := (blk_cell BK174.out 0).trans rfl; have hcz36_1 : w35.cell? ⟨gb174, 1, none⟩ = some (.int .u8 0) := (blk_cell BK174.out 1).trans rfl; have hfz36_0 := blk_frozen BK174.out 0; have hfz36_1 := blk_frozen BK174.out 1))
        (try simp only [← hl3_1])
        go_roundg k1
        case measure => have := HK1.out; omega
        case rel => exact ⟨(x3_1), (wrap64 (x11_1 + 1)), sA, H', ⟨by have := HK1.out; omega⟩, ⟨by (try simp only [hl3_1]); (with_reducible repeat (first | apply Kd.R_alloc | apply Kd.R_drewN | apply Kd.R_drew)); exact Kd.R_mono (Kd.R_far (p := ⟨gb174, 1, none⟩) (Kd.R_far (p := ⟨gb174, 0, none⟩) (Kd.R_mono HO_3.out (fun k_ hk => (⟨hk, hk.2⟩ : _ ∧ k_ ≠ gb174))) (fun _ hk => hk.2) (.int .i32 ((rd_T35 x3_1 x11_1).f0))) (fun _ hk => hk.2) (.int .u8 ((rd_T35 x3_1 x11_1).f1))) (fun _ hk => trivial)⟩, ⟨bG⟩⟩
     ·rw [if_neg c10] at H
      exact absurd H (by simp)
    ·rw [if_neg c9] at H
     exact absurd H (by simp)
   ·rw [if_neg c8] at H
    have c8b0 : decide (x11_1 < (t170.length : Int)) = false := decide_eq_false c8
    (try (have c8b0h := c8b0; simp only [hl3_1] at c8b0h))
    clear c8
    obtain rfl := Option.some.inj H
    go_wp2
    go_ret
    exact ⟨_, eW, kR HO_3, bA⟩

/-! ### over_Row: function 12 -/
def over_Row.l0 : Nat → List Int → List (S35) → Int → Int → Option (List Int)
 | 0, _, _, _, _ => none
 | k + 1, x3, x7, x8, x9 => if x9 < x8 then (if 0 ≤ x9 then (if x9 < (x7.length : Int) then ((over_One.f k ((rd_T35 x7 x9).f0) ((rd_T35 x7 x9).f1)).bind fun t184 => (if x3.length + t184.length < 140737488355328 then (over_Row.l0 k (x3 ++ t184) x7 x8 (wrap64 (x9 + 1))) else (none))) else (none)) else (none)) else (some x3)
def over_Row.f (k : Nat) (l0 : List (S35)) : Option (List Int) := (plain_Normal.f k l0).bind fun t179 => (over_Row.l0 k ([] : List Int) t179 (t179.length : Int) 0)
theorem over_Row.mono_l : ∀ k, (∀ y0 y1 y2 y3, LeO (over_Row.l0 k y0 y1 y2 y3) (over_Row.l0 (k + 1) y0 y1 y2 y3))
 | 0 => fun _ _ _ _ r h => by simp [over_Row.l0] at h
 | k + 1 => by
  have ih0 := over_Row.mono_l k
  ·intro y0 y1 y2 y3
   unfold over_Row.l0
   repeat' first
   | (with_reducible exact ih0 _ _ _ _)
   | (with_reducible exact over_One.mono _ _ _)
   | (with_reducible exact plain_Normal.mono _ _)
   | (with_reducible exact LeO.refl _)
   | (with_reducible exact LeO.none _)
   | (with_reducible refine LeO.ite ?_ ?_)
   | (with_reducible refine LeO.bind ?_ (fun _ => ?_))
theorem over_Row.mono : ∀ a0 k, LeO (over_Row.f k a0) (over_Row.f (k + 1) a0) := by
 intro a0 k
 have ih0 := over_Row.mono_l k
 unfold over_Row.f
 repeat' first
   | (with_reducible exact ih0 _ _ _ _)
   | (with_reducible exact over_One.mono _ _ _)
   | (with_reducible exact plain_Normal.mono _ _)
   | (with_reducible exact LeO.refl _)
   | (with_reducible exact LeO.none _)
   | (with_reducible refine LeO.ite ?_ ?_)
   | (with_reducible refine LeO.bind ?_ (fun _ => ?_))
theorem over_Row.calls (k : Nat) (A0 : Option Addr) (c0 : Nat) (l0 : List (S35)) (r : List Int) (w : World) (hr0 : Kd.C k35 w A0 l0.length l0) (hc0 : l0.length ≤ c0) (hG : GOK [0,1] w) (h : over_Row.f k l0 = some r) :
  Calls Tryd.prog 12 #[.slice A0 l0.length c0] w fun e w' => ∃ v0_ : Value, e = .returned (v0_) ∧ Kd.R (Kd.int .u8) 5 w' w.heap.size (fun _ => True) v0_ r ∧ Below w.heap.size w w' := by
 have hu35 := Tryd.underlying35
 have HG := Aside0.mk hG
 clear hG
 have HR0 := Aside0.mk hr0
 have HC0 := Aside0.mk hc0
 clear hr0 hc0
 have HB := Aside0.mk (Below.refl w.heap.size w)
 have H : ((plain_Normal.f k l0).bind fun t179 => (over_Row.l0 k ([] : List Int) t179 (t179.length : Int) 0)) = some r := h
 clear h
 replace H := Option.bind_eq_some_iff.mp H
 obtain ⟨t179, A20, H⟩ := H
 replace H : (over_Row.l0 k ([] : List Int) t179 (t179.length : Int) 0) = some r := H
 have A2 := Aside0.mk A20
 clear A20
 have H' := Aside0.mk H
 clear H
 go_enter Tryd.func12, Tryd.ntmps12
 go_wp2_with (first | ((with_reducible refine gate_callee (f := 27) rfl ?_); refine goesL_ (some 7) rfl rfl Tryd.func27 (by kernel_rfl) rfl #[.slice A0 l0.length c0] rfl aP ?_; (with_reducible refine (plain_Normal.calls k _ _ l0 t179 _ ?side1 ?side2 ?side3 A2.out).mono ?_); (case side1 => repeat (first | exact HR0.out | (with_reducible refine Kd.C_alloc ?_ _) | (with_reducible refine Kd.C_drewN ?_ _) | (with_reducible refine Kd.C_drew ?_))); (case side2 => exact HC0.out); (case side3 => exact GOK.of_below (GOK.sub HG.out rfl) bA); rintro e w3 ⟨v180, rfl, ho0, hb⟩; refine ⟨_, rfl, ?_⟩; have HO181 := Aside0.mk (Kd.R_lower ho0 (below_size bA)); replace HB := Aside0.mk (below_step bA hb); (try clear hb); (try clear hb2); (try clear hk); (try clear hi); (try clear ho0); obtain ⟨Ao4, co4, eo4⟩ := Kd.R_slice HO181.out; subst eo4))
 go_loopg [3, 9] k (fun kq v3 v9 w' => ∃ (x3_1 : List Int) (x9_1 : Int), v9 = .int .i64 x9_1 ∧ Aside0 (over_Row.l0 kq x3_1 t179 (t179.length : Int) x9_1 = some r) ∧ Aside0 (kq ≤ k) ∧ Aside0 (Kd.R (Kd.int .u8) 5 w' w.heap.size (fun _ => True) v3 x3_1) ∧ Aside0 (Kd.R k35 35 w' w.heap.size (fun _ => True) (.slice Ao4 t179.length co4) t179) ∧ Aside0 (Below w.heap.size w w'))
 case atStart => exact ⟨(([] : List Int)), (0), sA, H', ⟨Nat.le_refl _⟩, ⟨by first | exact Kd.R_nil _ _ _ _ _ | exact Kd.N_nil _ _ _ _ _ | exact Kd.V_nil _ _ _ _ _ | exact Kd.Q_nil _ _ _ _ _ | exact Kd.S_nil _ _ _ _ _⟩, ⟨kR HO181⟩, ⟨bA⟩⟩
 case round =>
  clear H'
  try clear c1
  try clear c2
  try clear p2
  obtain ⟨x3_1, x9_1, rfl, HA, HK1, HO_3, HO_7, HB⟩ := hrel
  cases gk with
  | zero => exact absurd HA.out (by simp [over_Row.l0])
  | succ k1 =>
   have H := HA.out
   clear HA
   simp only [over_Row.l0] at H
   by_cases c5 : x9_1 < (t179.length : Int)
   ·rw [if_pos c5] at H
    have c5b0 : decide (x9_1 < (t179.length : Int)) = true := decide_eq_true c5
    clear c5
    by_cases c6 : 0 ≤ x9_1
    ·rw [if_pos c6] at H
     have c6b0 : decide (0 ≤ x9_1) = true := decide_eq_true c6
     clear c6
     by_cases c7 : x9_1 < (t179.length : Int)
     ·rw [if_pos c7] at H
      have c7b0 : decide (x9_1 < (t179.length : Int)) = true := decide_eq_true c7
      clear c7
      replace H := Option.bind_eq_some_iff.mp H
      obtain ⟨t184, A80, H⟩ := H
      replace H : (if x3_1.length + t184.length < 140737488355328 then (over_Row.l0 k1 (x3_1 ++ t184) t179 (t179.length : Int) (wrap64 (x9_1 + 1))) else (none)) = some r := H
      have A8 := Aside0.mk A80
      clear A80
      by_cases c9 : x3_1.length + t184.length < 140737488355328
      ·rw [if_pos c9] at H
       have LMc9 := Aside0.mk c9
       clear c9
       obtain ⟨y187, hy187⟩ : ∃ y_ : List Int, y_ = (x3_1 ++ t184) := ⟨_, rfl⟩
       replace H : (over_Row.l0 k1 y187 t179 (t179.length : Int) (wrap64 (x9_1 + 1))) = some r := hyA hy187 H
       have Ny187 := Aside0.mk hy187
       clear hy187
       have H' := Aside0.mk H
       clear H
       have p182 : 0 ≤ (x9_1 : Int) := of_decide_eq_true asA
       have q182 : x9_1 < (t179.length : Int) := of_decide_eq_true asA
       obtain ⟨ad182, e182, hx182_0, hx182_1⟩ := at_T35 (Kd.R_reads' HO_7.out).2.2 x9_1 p182 q182
       cases e182
       replace p182 := eq_true p182
       replace q182 := eq_true q182
       go_wp2_with (first | ((with_reducible refine gate_dst (N := 5) rfl ?_); refine box_event ?hg (N := 5) ?hd (cs := #[.int .i32 0, .int .u8 0]) (t := 35) ?hr ?_; (case hd => rfl); (case hg => rfl); (case hr => first | (go_simp; done) | (go_simp; rfl)); intro gb183 hg w10 hbox hb; replace HO_3 := Aside0.mk (Kd.R_below (kR HO_3) hb); replace HO_7 := Aside0.mk (Kd.R_below (Kd.R_elderB (kR HO_7) gb183 (Nat.le_of_eq hg.symm)) hb); have BK183 := Aside0.mk (hbox); have GW183 := Aside0.mk ((geA hg : w.heap.size ≤ gb183)); have GE183 := Aside0.mk ((geA hg : w.heap.size ≤ gb183)); replace HB := Aside0.mk (below_step bA hb); clear hb hbox hg; have hcz11_0 : w10.cell? ⟨gb183, 0, none⟩ = some (.int .i32 0) := (blk_cell BK183.out 0).trans rfl; have hcz11_1 : w10.cell? ⟨gb183, 1, none⟩ = some (.int .u8 0) := (blk_cell BK183.out 1).trans rfl; have hfz11_0 := blk_frozen BK183.out 0; have hfz11_1 := blk_frozen BK183.out 1) | ((with_reducible refine gate_callee (f := 15) rfl ?_); refine goesL_ (some 15) rfl rfl Tryd.func15 (by kernel_rfl) rfl #[.agg #[.int .i32 ((rd_T35 t179 x9_1).f0), .int .u8 ((rd_T35 t179 x9_1).f1)]] rfl aP ?_; (with_reducible refine (over_One.calls k1 ((rd_T35 t179 x9_1).f0) ((rd_T35 t179 x9_1).f1) t184 _ ?side1 A8.out).mono ?_); (case side1 => exact GOK.of_below (GOK.sub HG.out rfl) bG); rintro e w12 ⟨v185, rfl, ho0, hb⟩; refine ⟨_, rfl, ?_⟩; have n0_ := Aside0.mk (Kd.R_below (by (with_reducible repeat (first | apply Kd.R_alloc | apply Kd.R_drewN | apply Kd.R_drew)); exact (Kd.R_mono (Kd.R_far (p := ⟨gb183, 1, none⟩) (Kd.R_far (p := ⟨gb183, 0, none⟩) (Kd.R_types HO_3.out BK183.out (by decide)) (fun _ hk => hk.2) (.int .i32 ((rd_T35 t179 x9_1).f0))) (fun _ hk => hk.2) (.int .u8 ((rd_T35 t179 x9_1).f1))) (fun _ h_ => h_.1))) hb); have n1_ := Aside0.mk (Kd.R_below (by (with_reducible repeat (first | apply Kd.R_alloc | apply Kd.R_drewN | apply Kd.R_drew)); exact (Kd.R_mono (Kd.R_far (p := ⟨gb183, 1, none⟩) (Kd.R_far (p := ⟨gb183, 0, none⟩) (Kd.R_mono HO_7.out (fun k_ hk => (⟨hk, hk.2⟩ : _ ∧ k_ ≠ gb183))) (fun _ hk => hk.2) (.int .i32 ((rd_T35 t179 x9_1).f0))) (fun _ hk => hk.2) (.int .u8 ((rd_T35 t179 x9_1).f1))) (fun _ h_ => h_.1))) hb); have n2_ := Aside0.mk (Kd.V_lower (Kd.V_mono (ok' := fun k_ => some k_ ≠ (u3 : Value).ownBlock ∧ some k_ ≠ (.slice (some ad182) t179.length co4 : Value).ownBlock ∧ k_ ≠ gb183) ho0 (fun k_ hk_ => ⟨(Kd.fresh' (Kd.R_lt (by (with_reducible repeat (first | apply Kd.R_alloc | apply Kd.R_drewN | apply Kd.R_drew)); exact (Kd.R_mono (Kd.R_far (p := ⟨gb183, 1, none⟩) (Kd.R_far (p := ⟨gb183, 0, none⟩) (Kd.R_types HO_3.out BK183.out (by decide)) (fun _ hk => hk.2) (.int .i32 ((rd_T35 t179 x9_1).f0))) (fun _ hk => hk.2) (.int .u8 ((rd_T35 t179 x9_1).f1))) (fun _ h_ => h_.1)))) k_ hk_), (Kd.fresh' (Kd.R_lt (by (with_reducible repeat (first | apply Kd.R_alloc | apply Kd.R_drewN | apply Kd.R_drew)); exact (Kd.R_mono (Kd.R_far (p := ⟨gb183, 1, none⟩) (Kd.R_far (p := ⟨gb183, 0, none⟩) (Kd.R_mono HO_7.out (fun k_ hk => (⟨hk, hk.2⟩ : _ ∧ k_ ≠ gb183))) (fun _ hk => hk.2) (.int .i32 ((rd_T35 t179 x9_1).f0))) (fun _ hk => hk.2) (.int .u8 ((rd_T35 t179 x9_1).f1))) (fun _ h_ => h_.1)))) k_ hk_), (Kd.freshB (g := gb183) (o := .cells #[.int .i32 ((rd_T35 t179 x9_1).f0), .int .u8 ((rd_T35 t179 x9_1).f1)] 35 (0, 0)) (by (with_reducible repeat (first | refine blk_drewN ?_ _ | refine blk_drew ?_ | refine blk_alloc ?_ _)); refine blk_put (cs := #[.int .i32 ((rd_T35 t179 x9_1).f0), .int .u8 0]) ?_ 1 _ rfl; (with_reducible repeat (first | refine blk_drewN ?_ _ | refine blk_drew ?_ | refine blk_alloc ?_ _)); refine blk_put (cs := #[.int .i32 0, .int .u8 0]) ?_ 0 _ rfl; (with_reducible repeat (first | refine blk_drewN ?_ _ | refine blk_drew ?_ | refine blk_alloc ?_ _)); exact BK183.out) k_ hk_)⟩)) (below_size bG)); have n3_ := Aside0.mk (blk_below (g := gb183) (o := .cells #[.int .i32 ((rd_T35 t179 x9_1).f0), .int .u8 ((rd_T35 t179 x9_1).f1)] 35 (0, 0)) (by (with_reducible repeat (first | refine blk_drewN ?_ _ | refine blk_drew ?_ | refine blk_alloc ?_ _)); refine blk_put (cs := #[.int .i32 ((rd_T35 t179 x9_1).f0), .int .u8 0]) ?_ 1 _ rfl; (with_reducible repeat (first | refine blk_drewN ?_ _ | refine blk_drew ?_ | refine blk_alloc ?_ _)); refine blk_put (cs := #[.int .i32 0, .int .u8 0]) ?_ 0 _ rfl; (with_reducible repeat (first | refine blk_drewN ?_ _ | refine blk_drew ?_ | refine blk_alloc ?_ _)); exact BK183.out) hb); have n4_ := Aside0.mk (below_step bG hb); clear HO_3; clear HO_7; clear BK183; clear HB; have HO_3 := n0_; have HO_7 := n1_; have HO186 := n2_; have BK183 := n3_; have HB := n4_; clear n0_ n1_ n2_ n3_ n4_; (try clear hb); (try clear hb2); (try clear hk); (try clear hi); (try clear ho0); obtain ⟨Ao14, co14, eo14⟩ := Kd.V_slice HO186.out; subst eo14) | ((with_reducible refine gate_builtin (b := .append) (xs := #[.tmp 13, .tmp 15]) rfl ?_); at_builtin; refine Kd.R_append_rows (Kd.int .u8) (w0 := w) w.heap.size rfl (.tmp 13) (.tmp 15) 25 5 (.int .u8 0) 1 rfl Tryd.underlying25 info5 rfl (by decide) (by omega) u3 x3_1 t184 _ _ _ (fun _ => True) (fun _ => False) rfl rfl ?aO ?aR (fun _ _ h => h) (fun _ h => h.elim) ?aF ?aB ?aS ?aL ?_; (case aR => repeat (first | exact (Kd.V_reads' HO186.out).2.2 | (with_reducible refine Kd.C_alloc ?_ _) | (with_reducible refine Kd.C_drewN ?_ _) | (with_reducible refine Kd.C_drew ?_))); (case aB => exact bG); (case aF => exact (fun _ _ => trivial)); (case aO => exact (kR HO_3)); (case aS => exact (below_size bG)); (case aL => have := LMc9.out; omega); intro v188 w13 ho hb hg hat; rw [← Ny187.out] at ho; have n0_ := Aside0.mk (Kd.R_over' (kR HO_7) (Kd.R_typed (kR HO_3)) (by decide) hg); have n1_ := Aside0.mk (blk_grown (g := gb183) (o := .cells #[.int .i32 ((rd_T35 t179 x9_1).f0), .int .u8 ((rd_T35 t179 x9_1).f1)] 35 (0, 0)) (kB BK183) hg (by first | exact Kd.R_ne HO_3.out BK183.out (by decide) | (intro e_; have h_ := HO_3.out.1 _ e_.symm; simp at h_))); have n2_ := Aside0.mk (Kd.V_afterv (ok := (fun k_ => some k_ ≠ (.slice (some ad182) t179.length co4 : Value).ownBlock ∧ k_ ≠ gb183)) (by (with_reducible repeat (first | apply Kd.V_alloc | apply Kd.V_drewN | apply Kd.V_drew)); exact Kd.V_mono HO186.out (fun _ hk => ⟨⟨hk.2.1, hk.2.2⟩, hk.1⟩)) hg hat); have n3_ := Aside0.mk (hb); have n4_ := Aside0.mk (ho); clear HO_7; clear BK183; clear HO186; clear HB; clear HO_3; have HO_7 := n0_; have BK183 := n1_; have HO186 := n2_; have HB := n3_; have HO189 := n4_; clear n0_ n1_ n2_ n3_ n4_; clear ho hb hg hat))
       go_roundg k1
       case measure => have := HK1.out; omega
       case rel => exact ⟨(y187), (wrap64 (x9_1 + 1)), sA, H', ⟨by have := HK1.out; omega⟩, ⟨kR HO189⟩, ⟨by (with_reducible repeat (first | apply Kd.R_alloc | apply Kd.R_drewN | apply Kd.R_drew)); exact Kd.R_mono HO_7.out (fun _ hk => trivial)⟩, ⟨bG⟩⟩
      ·rw [if_neg c9] at H
       exact absurd H (by simp)
     ·rw [if_neg c7] at H
      exact absurd H (by simp)
    ·rw [if_neg c6] at H
     exact absurd H (by simp)
   ·rw [if_neg c5] at H
    have c5b0 : decide (x9_1 < (t179.length : Int)) = false := decide_eq_false c5
    clear c5
    obtain rfl := Option.some.inj H
    go_wp2
    go_ret
    exact ⟨_, eW, kR HO_3, bA⟩

end Go.Proofs.YtmeinakeiefcdaaDoor.X
