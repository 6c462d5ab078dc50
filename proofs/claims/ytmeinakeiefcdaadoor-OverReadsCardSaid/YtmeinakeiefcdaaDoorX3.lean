-- Written by this session's xprint.py (a variant of the kit's printer). Not trusted: Lean checks it.
import Derived.Test.YtmeinakeiefcdaaDoorX0
import Derived.Test.YtmeinakeiefcdaaDoorSlim
import Derived.Test.YtmeinakeiefcdaaDoorX2
import Derived.Test.YtmeinakeiefcdaaDoorHandA
import Derived.Test.YtmeinakeiefcdaaDoorHandO
namespace Go.Proofs.YtmeinakeiefcdaaDoor.X
open Go.Proofs.YtmeinakeiefcdaaDoor.Hand
open Go.RowKit Go.Proofs.YtmeinakeiefcdaaDoorW.PrintWords Go.Proofs.YtmeinakeiefcdaaDoorW.PrintLast Go.Proofs.YtmeinakeiefcdaaDoorW.PrintMore
attribute [local go_sem] max2_int min2_int max_two min_two max_three min_three max_four min_four   -- for this text's walks alone
set_option linter.unusedVariables false
set_option maxHeartbeats 8000000
set_option maxRecDepth 100000
set_option linter.unusedSimpArgs false

/-! ### flonglaw18_known: function 9 -/
def flonglaw18_known.f (k : Nat)  : Option (Bool) := (over_One.f k 97 1).bind fun t144 => (if (strOfNums t144).toList = ([97, 8, 97] : List UInt8) then ((over_One.f k 97 2).bind fun t147 => (some ((strOfNums t147).toList == ([95, 8, 97] : List UInt8)))) else (some false))
theorem flonglaw18_known.mono : ∀ k, LeO (flonglaw18_known.f k ) (flonglaw18_known.f (k + 1) ) := by
 intro  k
 unfold flonglaw18_known.f
 repeat' first
   | (with_reducible exact over_One.mono _ _ _)
   | (with_reducible exact LeO.refl _)
   | (with_reducible exact LeO.none _)
   | (with_reducible refine LeO.ite ?_ ?_)
   | (with_reducible refine LeO.bind ?_ (fun _ => ?_))
theorem flonglaw18_known.calls (k : Nat)  (r : Bool) (w : World) (hG : GOK [0] w) (h : flonglaw18_known.f k  = some r) :
  Calls Tryd.prog 9 #[] w fun e w' => e = .returned (.bool r) ∧ Below w.heap.size w w' := by
 have hu35 := Tryd.underlying35
 have HG := Aside0.mk hG
 clear hG
 have HB := Aside0.mk (Below.refl w.heap.size w)
 have H : ((over_One.f k 97 1).bind fun t144 => (if (strOfNums t144).toList = ([97, 8, 97] : List UInt8) then ((over_One.f k 97 2).bind fun t147 => (some ((strOfNums t147).toList == ([95, 8, 97] : List UInt8)))) else (some false))) = some r := h
 clear h
 replace H := Option.bind_eq_some_iff.mp H
 obtain ⟨t144, A10, H⟩ := H
 replace H : (if (strOfNums t144).toList = ([97, 8, 97] : List UInt8) then ((over_One.f k 97 2).bind fun t147 => (some ((strOfNums t147).toList == ([95, 8, 97] : List UInt8)))) else (some false)) = some r := H
 have A1 := Aside0.mk A10
 clear A10
 by_cases c2 : (strOfNums t144).toList = ([97, 8, 97] : List UInt8)
 ·rw [if_pos c2] at H
  have c2b0 : ((strOfNums t144).toList == ([97, 8, 97] : List UInt8)) = true := beq_iff_eq.mpr c2
  have c2b1 : ((strOfNums t144).toList != ([97, 8, 97] : List UInt8)) = false := bne_eq_false_iff_eq.mpr c2
  clear c2
  replace H := Option.bind_eq_some_iff.mp H
  obtain ⟨t147, A30, H⟩ := H
  replace H : (some ((strOfNums t147).toList == ([95, 8, 97] : List UInt8))) = some r := H
  have A3 := Aside0.mk A30
  clear A30
  obtain rfl := Option.some.inj H
  go_enter Tryd.func9, Tryd.ntmps9
  go_wp2_with (first | ((with_reducible refine gate_callee (f := 15) rfl ?_); refine goesL_ (some 2) rfl rfl Tryd.func15 (by kernel_rfl) rfl #[.agg #[.int .i32 97, .int .u8 1]] rfl aP ?_; (with_reducible refine (over_One.calls k 97 1 t144 _ ?side1 A1.out).mono ?_); (case side1 => exact GOK.of_below (GOK.sub HG.out rfl) bA); rintro e w4 ⟨v145, rfl, ho0, hb⟩; refine ⟨_, rfl, ?_⟩; have HO146 := Aside0.mk (Kd.V_lower (Kd.V_mono (ok' := fun k_ => True) ho0 (fun k_ hk_ => trivial)) (below_size bA)); replace HB := Aside0.mk (below_step bA hb); (try clear hb); (try clear hb2); (try clear hk); (try clear hi); (try clear ho0); have hcv5 := V_string (P := Tryd.prog) Tryd.underlying25 Tryd.underlying5 Tryd.underlying9 HO146.out) | (go_at_call 15; (with_reducible refine (over_One.calls k 97 2 t147 _ ?side1 A3.out).mono ?_); (case side1 => exact GOK.of_below (GOK.sub HG.out rfl) bA); rintro e w6 ⟨v148, rfl, ho0, hb⟩; replace HO146 := Aside0.mk (Kd.V_below (kV HO146) hb); have HO149 := Aside0.mk (Kd.V_lower (Kd.V_mono (ok' := fun k_ => True) ho0 (fun k_ hk_ => trivial)) (below_size bA)); replace HB := Aside0.mk (below_step bA hb); (try clear hb); (try clear hb2); (try clear hk); (try clear hi); (try clear ho0); have hcv7 := V_string (P := Tryd.prog) Tryd.underlying25 Tryd.underlying5 Tryd.underlying9 HO149.out))
  go_ret
  exact ⟨eW, bA⟩
 ·rw [if_neg c2] at H
  have c2b0 : ((strOfNums t144).toList == ([97, 8, 97] : List UInt8)) = false := beq_eq_false_iff_ne.mpr c2
  have c2b1 : ((strOfNums t144).toList != ([97, 8, 97] : List UInt8)) = true := bne_iff_ne.mpr c2
  obtain rfl := Option.some.inj H
  go_enter Tryd.func9, Tryd.ntmps9
  go_wp2_with (first | ((with_reducible refine gate_callee (f := 15) rfl ?_); refine goesL_ (some 2) rfl rfl Tryd.func15 (by kernel_rfl) rfl #[.agg #[.int .i32 97, .int .u8 1]] rfl aP ?_; (with_reducible refine (over_One.calls k 97 1 t144 _ ?side1 A1.out).mono ?_); (case side1 => exact GOK.of_below (GOK.sub HG.out rfl) bA); rintro e w8 ⟨v145, rfl, ho0, hb⟩; refine ⟨_, rfl, ?_⟩; have HO146 := Aside0.mk (Kd.V_lower (Kd.V_mono (ok' := fun k_ => True) ho0 (fun k_ hk_ => trivial)) (below_size bA)); replace HB := Aside0.mk (below_step bA hb); (try clear hb); (try clear hb2); (try clear hk); (try clear hi); (try clear ho0); have hcv9 := V_string (P := Tryd.prog) Tryd.underlying25 Tryd.underlying5 Tryd.underlying9 HO146.out))
  go_ret
  exact ⟨eW, bA⟩

-- NOT PRINTED: function 89 (utf8_RuneCountInString)

-- NOT PRINTED: function 93 (utf8_decodeRuneInStringSlow)

-- NOT PRINTED: function 90 (utf8_DecodeRuneInString)

-- NOT PRINTED: function 81 (strings_explode)

-- NOT PRINTED: function 98 (bytealg_IndexByteString)

-- NOT PRINTED: function 94 (stringslite_IndexByte)

-- NOT PRINTED: function 95 (bytealg_IndexString)

-- NOT PRINTED: function 92 (stringslite_Index)

-- NOT PRINTED: function 83 (strings_Index)

-- NOT PRINTED: function 91 (bytealg_CountString)

-- NOT PRINTED: function 82 (strings_Count)

-- NOT PRINTED: function 67 (strings_genSplit)

/-! ### cells_Trim: function 54 -/
def cells_Trim.l0 : Nat → List (S35) → Int → Option ((List (S35)))
 | 0, _, _ => none
 | k + 1, x0, x3 => if x3 > 0 then (if 0 ≤ (wrap64 (x3 - 1)) then (if (wrap64 (x3 - 1)) < (x0.length : Int) then (if ((rd_T35 x0 (wrap64 (x3 - 1))).f0) = 32 then (cells_Trim.l0 k x0 (wrap64 (x3 - 1))) else (if 0 ≤ x3 then (if x3 ≤ (x0.length : Int) then ((clone_G.f (x0.take (x3 : Int).toNat)).bind fun t155 => (some t155)) else (none)) else (none))) else (none)) else (none)) else (if 0 ≤ x3 then (if x3 ≤ (x0.length : Int) then ((clone_G.f (x0.take (x3 : Int).toNat)).bind fun t162 => (some t162)) else (none)) else (none))
def cells_Trim.f (k : Nat) (l0 : List (S35)) : Option ((List (S35))) := cells_Trim.l0 k l0 (l0.length : Int)
theorem cells_Trim.mono_l : ∀ k, (∀ y0 y1, LeO (cells_Trim.l0 k y0 y1) (cells_Trim.l0 (k + 1) y0 y1))
 | 0 => fun _ _ r h => by simp [cells_Trim.l0] at h
 | k + 1 => by
  have ih0 := cells_Trim.mono_l k
  ·intro y0 y1
   unfold cells_Trim.l0
   repeat' first
   | (with_reducible exact ih0 _ _)
   | (with_reducible exact LeO.refl _)
   | (with_reducible exact LeO.none _)
   | (with_reducible refine LeO.ite ?_ ?_)
   | (with_reducible refine LeO.bind ?_ (fun _ => ?_))
theorem cells_Trim.mono : ∀ a0 k, LeO (cells_Trim.f k a0) (cells_Trim.f (k + 1) a0) := by
 intro a0 k
 have ih0 := cells_Trim.mono_l k
 unfold cells_Trim.f
 repeat' first
   | (with_reducible exact ih0 _ _)
   | (with_reducible exact LeO.refl _)
   | (with_reducible exact LeO.none _)
   | (with_reducible refine LeO.ite ?_ ?_)
   | (with_reducible refine LeO.bind ?_ (fun _ => ?_))
theorem cells_Trim.calls (k : Nat) (A0 : Option Addr) (c0 : Nat) (l0 : List (S35)) (r : List (S35)) (w : World) (hr0 : Kd.C k35 w A0 l0.length l0) (hc0 : l0.length ≤ c0) (hG : GOK [1] w) (h : cells_Trim.f k l0 = some r) :
  Calls Tryd.prog 54 #[.slice A0 l0.length c0] w fun e w' => ∃ v0_ : Value, e = .returned (v0_) ∧ Kd.R k35 35 w' w.heap.size (fun _ => True) v0_ r ∧ Below w.heap.size w w' := by
 have HG := Aside0.mk hG
 clear hG
 have HR0 := Aside0.mk hr0
 have HC0 := Aside0.mk hc0
 clear hr0 hc0
 have HB := Aside0.mk (Below.refl w.heap.size w)
 have H : (cells_Trim.l0 k l0 (l0.length : Int)) = some r := h
 clear h
 have H' := Aside0.mk H
 clear H
 go_enter Tryd.func54, Tryd.ntmps54
 go_wp2
 repeat (go_quiet (fail); try go_wp2)
 go_loopg [3] k (fun kq v3 w' => ∃ (x3_1 : Int), v3 = .int .i64 x3_1 ∧ Aside0 (cells_Trim.l0 kq l0 x3_1 = some r) ∧ Aside0 (kq ≤ k) ∧ Aside0 (Below w.heap.size w w'))
 case atStart => exact ⟨((l0.length : Int)), sA, H', ⟨Nat.le_refl _⟩, ⟨bA⟩⟩
 case round =>
  clear H'
  obtain ⟨x3_1, rfl, HA, HK1, HB⟩ := hrel
  cases gk with
  | zero => exact absurd HA.out (by simp [cells_Trim.l0])
  | succ k1 =>
   have H := HA.out
   clear HA
   simp only [cells_Trim.l0] at H
   by_cases c2 : x3_1 > 0
   ·rw [if_pos c2] at H
    have c2b0 : decide (0 < x3_1) = true := decide_eq_true c2
    clear c2
    obtain ⟨ji3, hji3⟩ : ∃ j_ : Int, (wrap64 (x3_1 - 1)) = j_ := ⟨_, rfl⟩
    replace H : (if 0 ≤ (ji3) then (if (ji3) < (l0.length : Int) then (if ((rd_T35 l0 (ji3)).f0) = 32 then (cells_Trim.l0 k1 l0 ji3) else (if 0 ≤ x3_1 then (if x3_1 ≤ (l0.length : Int) then ((clone_G.f (l0.take (x3_1 : Int).toNat)).bind fun t155 => (some t155)) else (none)) else (none))) else (none)) else (none)) = some r := by first | (rw [hji3] at H; exact H) | (simp only [hji3] at H ⊢; exact H)
    have hji3w : (IntKind.i64.wrap (x3_1 - 1)) = ji3 := (i64_w _).trans hji3
    by_cases c4 : 0 ≤ (ji3)
    ·rw [if_pos c4] at H
     have c4b0 : decide (0 ≤ (ji3)) = true := decide_eq_true c4
     clear c4
     by_cases c5 : (ji3) < (l0.length : Int)
     ·rw [if_pos c5] at H
      have c5b0 : decide ((ji3) < (l0.length : Int)) = true := decide_eq_true c5
      clear c5
      by_cases c6 : ((rd_T35 l0 (ji3)).f0) = 32
      ·rw [if_pos c6] at H
       have c6b0 : (((rd_T35 l0 (ji3)).f0) == 32) = true := beq_iff_eq.mpr c6
       have c6b1 : (((rd_T35 l0 (ji3)).f0) != 32) = false := bne_eq_false_iff_eq.mpr c6
       clear c6
       have H' := Aside0.mk H
       clear H
       have p150 : 0 ≤ ((ji3) : Int) := of_decide_eq_true asA
       have q150 : (ji3) < (l0.length : Int) := of_decide_eq_true asA
       obtain ⟨ad150, e150, hx150_0, hx150_1⟩ := at_T35 HR0.out (ji3) p150 q150
       cases e150
       replace hx150_0 := (HB.out.cell (World.block_lt_of_cell? w _ hx150_0)).trans hx150_0
       replace hx150_1 := (HB.out.cell (World.block_lt_of_cell? w _ hx150_1)).trans hx150_1
       replace p150 := eq_true p150
       replace q150 := eq_true q150
       have hgl7 := blank_0 (GOK.of_below HG.out HB.out) (by decide)
       go_wp2
       repeat (go_quiet (fail); try go_wp2)
       go_roundg k1
       case measure => have := HK1.out; omega
       case rel => exact ⟨(ji3), (by first | rfl | (simp; done) | (simp only [← hji3] <;> (first | rfl | simp)) | (simp [*]; done)), H', ⟨by have := HK1.out; omega⟩, ⟨bA⟩⟩
      ·rw [if_neg c6] at H
       have c6b0 : (((rd_T35 l0 (ji3)).f0) == 32) = false := beq_eq_false_iff_ne.mpr c6
       have c6b1 : (((rd_T35 l0 (ji3)).f0) != 32) = true := bne_iff_ne.mpr c6
       by_cases c8 : 0 ≤ x3_1
       ·rw [if_pos c8] at H
        have c8b0 := eq_true c8
        have c8b1 : decide (0 ≤ x3_1) = true := decide_eq_true c8
        clear c8
        by_cases c9 : x3_1 ≤ (l0.length : Int)
        ·rw [if_pos c9] at H
         have c9b0 := eq_true c9
         have c9b1 : decide (x3_1 ≤ (l0.length : Int)) = true := decide_eq_true c9
         clear c9
         obtain ⟨y151, hy151⟩ : ∃ y_ : List (S35), y_ = (l0.take (x3_1 : Int).toNat) := ⟨_, rfl⟩
         replace H : ((clone_G.f y151).bind fun t155 => (some t155)) = some r := hyA hy151 H
         have Ny151 := Aside0.mk hy151
         clear hy151
         replace H := Option.bind_eq_some_iff.mp H
         obtain ⟨t155, A100, H⟩ := H
         replace H : (some t155) = some r := H
         have A10 := Aside0.mk A100
         clear A100
         obtain rfl := Option.some.inj H
         have p150 : 0 ≤ ((ji3) : Int) := of_decide_eq_true asA
         have q150 : (ji3) < (l0.length : Int) := of_decide_eq_true asA
         obtain ⟨ad150, e150, hx150_0, hx150_1⟩ := at_T35 HR0.out (ji3) p150 q150
         cases e150
         replace hx150_0 := (HB.out.cell (World.block_lt_of_cell? w _ hx150_0)).trans hx150_0
         replace hx150_1 := (HB.out.cell (World.block_lt_of_cell? w _ hx150_1)).trans hx150_1
         replace p150 := eq_true p150
         replace q150 := eq_true q150
         have hgl11 := blank_0 (GOK.of_below HG.out HB.out) (by decide)
         have q12 : (x3_1 : Int) ≤ ((l0.length : Int) : Int) := of_decide_eq_true asA
         obtain ⟨i012, hi012, _, hsz12, _⟩ := info_parts info35
         have hroom12 : l0.length ≤ c0 := HC0.out
         have hC12 : Kd.C k35 _ (some ad150) l0.length l0 := HR0.out
         have hcut12 := cut_to (P := Tryd.prog) 27 35 .i64 Tryd.underlying27 hi012 (some ad150) l0.length c0 x3_1 (of_decide_eq_true asA) q12 hroom12
         have hr12 := Kd.C_take (m := (x3_1 : Int).toNat) hC12 (by omega)
         have hy12 : y151.length = (x3_1 : Int).toNat := (by rw [Ny151.out, List.length_take]; omega)
         rw [← Ny151.out] at hr12
         rw [← hy12] at hcut12
         have HR154 := Aside0.mk hr12
         have HC154 := Aside0.mk (show y151.length ≤ c0 from by omega)
         clear hr12 hC12 hroom12 hi012 hsz12
         have KY12 := Aside0.mk hy12
         clear hy12
         replace q12 := eq_true q12
         go_wp2_with (first | (go_at_call 43; (with_reducible refine (clone_G.calls _ _ y151 t155 _ ?side1 ?side2 A10.out).mono ?_); (case side1 => repeat (first | exact (Kd.C_below HR154.out HB.out) | (with_reducible refine Kd.C_alloc ?_ _) | (with_reducible refine Kd.C_drewN ?_ _) | (with_reducible refine Kd.C_drew ?_))); (case side2 => exact HC154.out); rintro e w13 ⟨v156, rfl, ho0, hb⟩; have HO157 := Aside0.mk (Kd.R_lower ho0 (below_size bA)); replace HB := Aside0.mk (below_step bA hb); (try clear hb); (try clear hb2); (try clear hk); (try clear hi); (try clear ho0)))
         repeat (go_quiet (first | (go_at_call 43; (with_reducible refine (clone_G.calls _ _ y151 t155 _ ?side1 ?side2 A10.out).mono ?_); (case side1 => repeat (first | exact (Kd.C_below HR154.out HB.out) | (with_reducible refine Kd.C_alloc ?_ _) | (with_reducible refine Kd.C_drewN ?_ _) | (with_reducible refine Kd.C_drew ?_))); (case side2 => exact HC154.out); rintro e w13 ⟨v156, rfl, ho0, hb⟩; have HO157 := Aside0.mk (Kd.R_lower ho0 (below_size bA)); replace HB := Aside0.mk (below_step bA hb); (try clear hb); (try clear hb2); (try clear hk); (try clear hi); (try clear ho0))); try go_wp2_with (first | (go_at_call 43; (with_reducible refine (clone_G.calls _ _ y151 t155 _ ?side1 ?side2 A10.out).mono ?_); (case side1 => repeat (first | exact (Kd.C_below HR154.out HB.out) | (with_reducible refine Kd.C_alloc ?_ _) | (with_reducible refine Kd.C_drewN ?_ _) | (with_reducible refine Kd.C_drew ?_))); (case side2 => exact HC154.out); rintro e w13 ⟨v156, rfl, ho0, hb⟩; have HO157 := Aside0.mk (Kd.R_lower ho0 (below_size bA)); replace HB := Aside0.mk (below_step bA hb); (try clear hb); (try clear hb2); (try clear hk); (try clear hi); (try clear ho0))))
         go_ret
         exact ⟨_, by first | rfl | (simp [errW_none, errW_some] <;> rfl) | (simp only [← hji3]; first | rfl | (simp [errW_none, errW_some] <;> rfl)) | (simp [*, errW_none, errW_some] <;> rfl), kR HO157, bA⟩
        ·rw [if_neg c9] at H
         exact absurd H (by simp)
       ·rw [if_neg c8] at H
        exact absurd H (by simp)
     ·rw [if_neg c5] at H
      exact absurd H (by simp)
    ·rw [if_neg c4] at H
     exact absurd H (by simp)
   ·rw [if_neg c2] at H
    have c2b0 : decide (0 < x3_1) = false := decide_eq_false c2
    clear c2
    by_cases c14 : 0 ≤ x3_1
    ·rw [if_pos c14] at H
     have c14b0 := eq_true c14
     have c14b1 : decide (0 ≤ x3_1) = true := decide_eq_true c14
     clear c14
     by_cases c15 : x3_1 ≤ (l0.length : Int)
     ·rw [if_pos c15] at H
      have c15b0 := eq_true c15
      have c15b1 : decide (x3_1 ≤ (l0.length : Int)) = true := decide_eq_true c15
      clear c15
      obtain ⟨y158, hy158⟩ : ∃ y_ : List (S35), y_ = (l0.take (x3_1 : Int).toNat) := ⟨_, rfl⟩
      replace H : ((clone_G.f y158).bind fun t162 => (some t162)) = some r := hyA hy158 H
      have Ny158 := Aside0.mk hy158
      clear hy158
      replace H := Option.bind_eq_some_iff.mp H
      obtain ⟨t162, A160, H⟩ := H
      replace H : (some t162) = some r := H
      have A16 := Aside0.mk A160
      clear A160
      obtain rfl := Option.some.inj H
      have q17 : (x3_1 : Int) ≤ ((l0.length : Int) : Int) := of_decide_eq_true asA
      obtain ⟨i017, hi017, _, hsz17, _⟩ := info_parts info35
      have hroom17 : l0.length ≤ c0 := HC0.out
      have hC17 : Kd.C k35 _ A0 l0.length l0 := HR0.out
      have hcut17 := cut_to (P := Tryd.prog) 27 35 .i64 Tryd.underlying27 hi017 A0 l0.length c0 x3_1 (of_decide_eq_true asA) q17 hroom17
      have hr17 := Kd.C_take (m := (x3_1 : Int).toNat) hC17 (by omega)
      have hy17 : y158.length = (x3_1 : Int).toNat := (by rw [Ny158.out, List.length_take]; omega)
      rw [← Ny158.out] at hr17
      rw [← hy17] at hcut17
      have HR161 := Aside0.mk hr17
      have HC161 := Aside0.mk (show y158.length ≤ c0 from by omega)
      clear hr17 hC17 hroom17 hi017 hsz17
      have KY17 := Aside0.mk hy17
      clear hy17
      replace q17 := eq_true q17
      go_wp2_with (first | (go_at_call 43; (with_reducible refine (clone_G.calls _ _ y158 t162 _ ?side1 ?side2 A16.out).mono ?_); (case side1 => repeat (first | exact (Kd.C_below HR161.out HB.out) | (with_reducible refine Kd.C_alloc ?_ _) | (with_reducible refine Kd.C_drewN ?_ _) | (with_reducible refine Kd.C_drew ?_))); (case side2 => exact HC161.out); rintro e w18 ⟨v163, rfl, ho0, hb⟩; have HO164 := Aside0.mk (Kd.R_lower ho0 (below_size bA)); replace HB := Aside0.mk (below_step bA hb); (try clear hb); (try clear hb2); (try clear hk); (try clear hi); (try clear ho0)))
      repeat (go_quiet (first | (go_at_call 43; (with_reducible refine (clone_G.calls _ _ y158 t162 _ ?side1 ?side2 A16.out).mono ?_); (case side1 => repeat (first | exact (Kd.C_below HR161.out HB.out) | (with_reducible refine Kd.C_alloc ?_ _) | (with_reducible refine Kd.C_drewN ?_ _) | (with_reducible refine Kd.C_drew ?_))); (case side2 => exact HC161.out); rintro e w18 ⟨v163, rfl, ho0, hb⟩; have HO164 := Aside0.mk (Kd.R_lower ho0 (below_size bA)); replace HB := Aside0.mk (below_step bA hb); (try clear hb); (try clear hb2); (try clear hk); (try clear hi); (try clear ho0))); try go_wp2_with (first | (go_at_call 43; (with_reducible refine (clone_G.calls _ _ y158 t162 _ ?side1 ?side2 A16.out).mono ?_); (case side1 => repeat (first | exact (Kd.C_below HR161.out HB.out) | (with_reducible refine Kd.C_alloc ?_ _) | (with_reducible refine Kd.C_drewN ?_ _) | (with_reducible refine Kd.C_drew ?_))); (case side2 => exact HC161.out); rintro e w18 ⟨v163, rfl, ho0, hb⟩; have HO164 := Aside0.mk (Kd.R_lower ho0 (below_size bA)); replace HB := Aside0.mk (below_step bA hb); (try clear hb); (try clear hb2); (try clear hk); (try clear hi); (try clear ho0))))
      go_ret
      exact ⟨_, eW, kR HO164, bA⟩
     ·rw [if_neg c15] at H
      exact absurd H (by simp)
    ·rw [if_neg c14] at H
     exact absurd H (by simp)

/-! ### plain_Normal: function 27 -/
def plain_Normal.l0 : Nat → List (S35) → Int → Int → Option ((List (S35)))
 | 0, _, _, _ => none
 | k + 1, x3, x10, x11 => if x11 < x10 then (if 0 ≤ x11 then (if x11 < (x3.length : Int) then (if ((rd_T35 x3 x11).f0) = 32 then (plain_Normal.l0 k (x3.set (x11 : Int).toNat (⟨(rd_T35 x3 x11).f0, 0⟩ : S35)) x10 (wrap64 (x11 + 1))) else (if x11 > 0 then ((runes_Width.f ((rd_T35 x3 x11).f0)).bind fun t174 => (if t174 = 0 then (if 0 ≤ (wrap64 (x11 - 1)) then (if (wrap64 (x11 - 1)) < (x3.length : Int) then (plain_Normal.l0 k (x3.set (x11 : Int).toNat (⟨(rd_T35 x3 x11).f0, (rd_T35 x3 (wrap64 (x11 - 1))).f1⟩ : S35)) x10 (wrap64 (x11 + 1))) else (none)) else (none)) else (plain_Normal.l0 k x3 x10 (wrap64 (x11 + 1))))) else (plain_Normal.l0 k x3 x10 (wrap64 (x11 + 1))))) else (none)) else (none)) else (some x3)
def plain_Normal.f (k : Nat) (l0 : List (S35)) : Option ((List (S35))) := (cells_Clean.f k l0).bind fun t165 => ((cells_Trim.f k t165).bind fun t168 => (plain_Normal.l0 k t168 (t168.length : Int) 0))
theorem plain_Normal.mono_l : ∀ k, (∀ y0 y1 y2, LeO (plain_Normal.l0 k y0 y1 y2) (plain_Normal.l0 (k + 1) y0 y1 y2))
 | 0 => fun _ _ _ r h => by simp [plain_Normal.l0] at h
 | k + 1 => by
  have ih0 := plain_Normal.mono_l k
  ·intro y0 y1 y2
   unfold plain_Normal.l0
   repeat' first
   | (with_reducible exact ih0 _ _ _)
   | (with_reducible exact cells_Clean.mono _ _)
   | (with_reducible exact cells_Trim.mono _ _)
   | (with_reducible exact LeO.refl _)
   | (with_reducible exact LeO.none _)
   | (with_reducible refine LeO.ite ?_ ?_)
   | (with_reducible refine LeO.bind ?_ (fun _ => ?_))
theorem plain_Normal.mono : ∀ a0 k, LeO (plain_Normal.f k a0) (plain_Normal.f (k + 1) a0) := by
 intro a0 k
 have ih0 := plain_Normal.mono_l k
 unfold plain_Normal.f
 repeat' first
   | (with_reducible exact ih0 _ _ _)
   | (with_reducible exact cells_Clean.mono _ _)
   | (with_reducible exact cells_Trim.mono _ _)
   | (with_reducible exact LeO.refl _)
   | (with_reducible exact LeO.none _)
   | (with_reducible refine LeO.ite ?_ ?_)
   | (with_reducible refine LeO.bind ?_ (fun _ => ?_))
theorem plain_Normal.calls (k : Nat) (A0 : Option Addr) (c0 : Nat) (l0 : List (S35)) (r : List (S35)) (w : World) (hr0 : Kd.C k35 w A0 l0.length l0) (hc0 : l0.length ≤ c0) (hG : GOK [0,1] w) (h : plain_Normal.f k l0 = some r) :
  Calls Tryd.prog 27 #[.slice A0 l0.length c0] w fun e w' => ∃ v0_ : Value, e = .returned (v0_) ∧ Kd.R k35 35 w' w.heap.size (fun _ => True) v0_ r ∧ Below w.heap.size w w' := by
 have hu35 := Tryd.underlying35
 have HG := Aside0.mk hG
 clear hG
 have HR0 := Aside0.mk hr0
 have HC0 := Aside0.mk hc0
 clear hr0 hc0
 have HB := Aside0.mk (Below.refl w.heap.size w)
 have H : ((cells_Clean.f k l0).bind fun t165 => ((cells_Trim.f k t165).bind fun t168 => (plain_Normal.l0 k t168 (t168.length : Int) 0))) = some r := h
 clear h
 replace H := Option.bind_eq_some_iff.mp H
 obtain ⟨t165, A20, H⟩ := H
 replace H : ((cells_Trim.f k t165).bind fun t168 => (plain_Normal.l0 k t168 (t168.length : Int) 0)) = some r := H
 have A2 := Aside0.mk A20
 clear A20
 replace H := Option.bind_eq_some_iff.mp H
 obtain ⟨t168, A30, H⟩ := H
 replace H : (plain_Normal.l0 k t168 (t168.length : Int) 0) = some r := H
 have A3 := Aside0.mk A30
 clear A30
 have H' := Aside0.mk H
 clear H
 go_enter Tryd.func27, Tryd.ntmps27
 go_wp2_with (first | ((with_reducible refine gate_callee (f := 32) rfl ?_); refine goesL_ (some 7) rfl rfl Tryd.func32 (by kernel_rfl) rfl #[.slice A0 l0.length c0] rfl aP ?_; (with_reducible refine (cells_Clean.calls k _ _ l0 t165 _ ?side1 ?side2 ?side3 A2.out).mono ?_); (case side1 => repeat (first | exact HR0.out | (with_reducible refine Kd.C_alloc ?_ _) | (with_reducible refine Kd.C_drewN ?_ _) | (with_reducible refine Kd.C_drew ?_))); (case side2 => exact HC0.out); (case side3 => exact GOK.of_below (GOK.sub HG.out rfl) bA); rintro e w4 ⟨v166, rfl, ho0, hb⟩; refine ⟨_, rfl, ?_⟩; have HO167 := Aside0.mk (Kd.R_lower ho0 (below_size bA)); replace HB := Aside0.mk (below_step bA hb); (try clear hb); (try clear hb2); (try clear hk); (try clear hi); (try clear ho0); obtain ⟨Ao5, co5, eo5⟩ := Kd.R_slice HO167.out; subst eo5) | ((with_reducible refine gate_callee (f := 54) rfl ?_); refine goesL_ (some 8) rfl rfl Tryd.func54 (by kernel_rfl) rfl #[.slice Ao5 t165.length co5] rfl aP ?_; (with_reducible refine (cells_Trim.calls k _ _ t165 t168 _ ?side1 ?side2 ?side3 A3.out).mono ?_); (case side1 => repeat (first | exact (Kd.R_reads' HO167.out).2.2 | (with_reducible refine Kd.C_alloc ?_ _) | (with_reducible refine Kd.C_drewN ?_ _) | (with_reducible refine Kd.C_drew ?_))); (case side2 => exact (Kd.R_reads' HO167.out).2.1); (case side3 => exact GOK.of_below (GOK.sub HG.out rfl) bA); rintro e w6 ⟨v169, rfl, ho0, hb⟩; refine ⟨_, rfl, ?_⟩; have n0_ := Aside0.mk (Kd.R_elder' (kR HO167) (Kd.R_base ho0) hb); have n1_ := Aside0.mk (Kd.R_lower (Kd.R_new' ho0 (Kd.R_lt (kR HO167))) (below_size bA)); have n2_ := Aside0.mk (below_step bA hb); clear HO167; clear HB; have HO167 := n0_; have HO170 := n1_; have HB := n2_; clear n0_ n1_ n2_; (try clear hb); (try clear hb2); (try clear hk); (try clear hi); (try clear ho0); obtain ⟨Ao7, co7, eo7⟩ := Kd.R_slice HO170.out; subst eo7))
 go_loopg [11] k (fun kq v11 w' => ∃ (x3_1 : List (S35)) (x11_1 : Int), v11 = .int .i64 x11_1 ∧ Aside0 (plain_Normal.l0 kq x3_1 (t168.length : Int) x11_1 = some r) ∧ Aside0 (kq ≤ k) ∧ Aside0 (Kd.R k35 35 w' w.heap.size (fun _ => True) (.slice Ao7 t168.length co7) x3_1) ∧ Aside0 (Below w.heap.size w w'))
 case atStart => exact ⟨(t168), (0), sA, H', ⟨Nat.le_refl _⟩, ⟨by (with_reducible repeat (first | apply Kd.R_alloc | apply Kd.R_drewN | apply Kd.R_drew)); exact Kd.R_mono HO170.out (fun _ hk => trivial)⟩, ⟨bA⟩⟩
 case round =>
  clear H'
  try clear c2
  try clear p2
  try clear c3
  try clear c5
  obtain ⟨x3_1, x11_1, rfl, HA, HK1, HO_3, HB⟩ := hrel
  have hl3_1 := (Kd.R_reads' HO_3.out).1
  rw [hl3_1] at HO_3
  (try simp only [hl3_1])
  cases gk with
  | zero => exact absurd HA.out (by simp [plain_Normal.l0])
  | succ k1 =>
   have H := HA.out
   clear HA
   simp only [plain_Normal.l0] at H
   by_cases c8 : x11_1 < (t168.length : Int)
   ·rw [if_pos c8] at H
    have c8b0 : decide (x11_1 < (t168.length : Int)) = true := decide_eq_true c8
    (try (have c8b0h := c8b0; simp only [hl3_1] at c8b0h))
    clear c8
    by_cases c9 : 0 ≤ x11_1
    ·rw [if_pos c9] at H
     have c9b0 : decide (0 ≤ x11_1) = true := decide_eq_true c9
     (try (have c9b0h := c9b0; simp only [hl3_1] at c9b0h))
     clear c9
     by_cases c10 : x11_1 < (x3_1.length : Int)
     ·rw [if_pos c10] at H
      have c10b0 : decide (x11_1 < (x3_1.length : Int)) = true := decide_eq_true c10
      (try (have c10b0h := c10b0; simp only [hl3_1] at c10b0h))
      clear c10
      by_cases c11 : ((rd_T35 x3_1 x11_1).f0) = 32
      ·rw [if_pos c11] at H
       have c11b0 : (((rd_T35 x3_1 x11_1).f0) == 32) = true := beq_iff_eq.mpr c11
       have c11b1 : (((rd_T35 x3_1 x11_1).f0) != 32) = false := bne_eq_false_iff_eq.mpr c11
       clear c11
       obtain ⟨y173, hy173⟩ : ∃ y_ : List (S35), y_ = (x3_1.set (x11_1 : Int).toNat (⟨(rd_T35 x3_1 x11_1).f0, 0⟩ : S35)) := ⟨_, rfl⟩
       replace H : (plain_Normal.l0 k1 y173 (t168.length : Int) (wrap64 (x11_1 + 1))) = some r := hyA hy173 H
       have Ny173 := Aside0.mk hy173
       clear hy173
       have H' := Aside0.mk H
       clear H
       have p171 : 0 ≤ (x11_1 : Int) := of_decide_eq_true asA
       have q171 : x11_1 < (x3_1.length : Int) := of_decide_eq_true asA
       obtain ⟨ad171, e171, hx171_0, hx171_1⟩ := at_T35 (Kd.R_reads' HO_3.out).2.2 x11_1 p171 q171
       cases e171
       replace p171 := eq_true p171
       replace q171 := eq_true q171
       go_wp2_with (first | ((with_reducible refine gate_dst (N := 5) rfl ?_); refine box_event ?hg (N := 5) ?hd (cs := #[.int .i32 0, .int .u8 0]) (t := 35) ?hr ?_; (case hd => rfl); (case hg => rfl); (case hr => first | (go_simp; done) | (go_simp; rfl)); intro gb172 hg w13 hbox hb; replace HO_3 := Aside0.mk (Kd.R_below (Kd.R_elderB (kR HO_3) gb172 (Nat.le_of_eq hg.symm)) hb); have BK172 := Aside0.mk (hbox); have GW172 := Aside0.mk ((geA hg : w.heap.size ≤ gb172)); have GE172 := Aside0.mk ((geA hg : w.heap.size ≤ gb172)); replace HB := Aside0.mk (below_step bA hb); clear hb hbox hg; have hcz14_0 : w13.cell? ⟨gb172, 0, none⟩ = some (.int .i32 0) := (blk_cell BK172.out 0).trans rfl; have hcz14_1 : w13.cell? ⟨gb172, 1, none⟩ = some (.int .u8 0) := (blk_cell BK172.out 1).trans rfl; have hfz14_0 := blk_frozen BK172.out 0; have hfz14_1 := blk_frozen BK172.out 1) | ((with_reducible refine gate_store (t := 35) (p := 5) rfl ?_); refine store_event (t := 35) (p := 5) (v := ?vo_w15) (w1 := ((w13.setCell ⟨gb172, 0, none⟩ (.int .i32 ((rd_T35 x3_1 x11_1).f0))).setCell ⟨gb172, 1, none⟩ (.int .u8 ((rd_T35 x3_1 x11_1).f1)))) ?hg ?ho ?hn ?hr ?_; (case ho => rfl); (case hg => rfl); (case hn => rfl); (case hr => first | (go_simp; done) | (go_simp; rfl)); intro w15 hw; have n0_ : Aside0 (Kd.R k35 35 w15 w.heap.size (fun k_ => k_ ≠ gb172) (.slice (some ad171) x3_1.length co7) x3_1) := ⟨(by rw [hw]; exact (by (with_reducible repeat (first | apply Kd.R_alloc | apply Kd.R_drewN | apply Kd.R_drew)); exact Kd.R_mono (Kd.R_far (p := ⟨gb172, 1, none⟩) (Kd.R_far (p := ⟨gb172, 0, none⟩) (Kd.R_mono HO_3.out (fun k_ hk => (⟨hk, hk.2⟩ : _ ∧ k_ ≠ gb172))) (fun _ hk => hk.2) (.int .i32 ((rd_T35 x3_1 x11_1).f0))) (fun _ hk => hk.2) (.int .u8 ((rd_T35 x3_1 x11_1).f1))) (fun _ hk => hk.1.2)))⟩; have n1_ : Aside0 (w15.heap[gb172]? = some (.cells #[.int .i32 ((rd_T35 x3_1 x11_1).f0), .int .u8 ((rd_T35 x3_1 x11_1).f1)] 35 (0, 0))) := ⟨(by rw [hw]; exact (by (with_reducible repeat (first | refine blk_drewN ?_ _ | refine blk_drew ?_ | refine blk_alloc ?_ _)); refine blk_put (cs := #[.int .i32 ((rd_T35 x3_1 x11_1).f0), .int .u8 0]) ?_ 1 _ rfl; (with_reducible repeat (first | refine blk_drewN ?_ _ | refine blk_drew ?_ | refine blk_alloc ?_ _)); refine blk_put (cs := #[.int .i32 0, .int .u8 0]) ?_ 0 _ rfl; (with_reducible repeat (first | refine blk_drewN ?_ _ | refine blk_drew ?_ | refine blk_alloc ?_ _)); exact BK172.out))⟩; have n2_ : Aside0 (Below w.heap.size w w15) := ⟨(by rw [hw]; exact bG)⟩; clear hw; clear HO_3; clear BK172; clear HB; have HO_3 := n0_; have BK172 := n1_; have HB := n2_; clear n0_ n1_ n2_; have hcz16_0 : w15.cell? ⟨gb172, 0, none⟩ = some (.int .i32 ((rd_T35 x3_1 x11_1).f0)) := (blk_cell BK172.out 0).trans rfl; have hcz16_1 : w15.cell? ⟨gb172, 1, none⟩ = some (.int .u8 ((rd_T35 x3_1 x11_1).f1)) := (blk_cell BK172.out 1).trans rfl; have hfz16_0 := blk_frozen BK172.out 0; have hfz16_1 := blk_frozen BK172.out 1; have p12 : 0 ≤ (x11_1 : Int) := of_decide_eq_true asA; have q12 : (x11_1 : Int) < ((x3_1.length : Int) : Int) := of_decide_eq_true asA; obtain ⟨go12, co12, eo12, gb12, gl12, cl12, HG12⟩ := Kd.R_form HO_3.out (by omega); (first | cases eo12 | (injection eo12 with ea_ en_ ec_; (first | subst ea_ | (injection ea_ with ea_; subst ea_)); subst ec_; clear en_)); have GB12 := Aside0.mk gb12; have GG12 := Aside0.mk HG12; clear gb12 gl12 HG12; (first | simp only [add_plain] at hx171_0 | skip); (first | simp only [add_plain] at hx171_1 | skip); obtain ⟨ce12, hcl12, hM12, hcc12, hfr12⟩ := Kd.R_elem HO_3.out z35 (x11_1 : Int) p12 q12; obtain rfl := k35_openM hM12; have hx12_0 : w15.cell? ⟨go12, (x11_1 : Int).toNat * 2, none⟩ = some (.int .i32 ((rd_T35 x3_1 x11_1).f0)) := hcc12 0 _ rfl; have hx12_1 : w15.cell? ⟨go12, (x11_1 : Int).toNat * 2 + 1, none⟩ = some (.int .u8 ((rd_T35 x3_1 x11_1).f1)) := hcc12 1 _ rfl; have hf12_0 : w15.frozen? ⟨go12, (x11_1 : Int).toNat * 2, none⟩ = false := hfr12 0; have hf12_1 : w15.frozen? ⟨go12, (x11_1 : Int).toNat * 2 + 1, none⟩ = false := hfr12 1; clear hcl12 hcc12 hfr12 hM12; replace p12 := eq_true p12; replace q12 := eq_true q12; have HX17 := Aside0.mk (show Kd.R k35 35 w15 w.heap.size (fun k_ => k_ ≠ gb172) (.slice (some ⟨go12, 0, none⟩) x3_1.length co7) x3_1 from (kR HO_3)); obtain ⟨ce17, hcl17, hM17, hcc17, hfr17⟩ := Kd.R_elem HX17.out z35 (x11_1 : Int) (of_decide_eq_true asA) (by have h_ : (x11_1 : Int) < ((x3_1.length : Int) : Int) := of_decide_eq_true asA; first | exact h_ | (have e_ := (Kd.R_reads' HO_3.out).1; omega) | simpa using h_); obtain rfl := k35_openM hM17; have HP17 := Kd.R_seg HX17.out (x11_1 : Int) (of_decide_eq_true asA) (by have h_ : (x11_1 : Int) < ((x3_1.length : Int) : Int) := of_decide_eq_true asA; first | exact h_ | (have e_ := (Kd.R_reads' HO_3.out).1; omega) | simpa using h_) (seg := [.int .u8 0]) (j := 1) hcl17 hcc17 (show 2 ≤ 2 from by decide) (x' := (⟨(rd_T35 x3_1 x11_1).f0, 0⟩ : S35)) (k35_mkM _ _ _ (⟨(rd_T35 x3_1 x11_1).f0, 0⟩ : S35) ) (fun _ hk => hk); have hx17_1 := hcc17 1 _ rfl; (try simp only [show (k35).sz = 2 from rfl, Nat.mul_one, Nat.add_zero] at hx17_1); have hf17_1 := hfr17 1; (try simp only [show (k35).sz = 2 from rfl, Nat.mul_one, Nat.add_zero] at hf17_1); clear hcl17 hcc17 hfr17 hM17) | ((with_reducible refine gate_store (t := 5) (p := 32) rfl ?_); refine store_event (t := 5) (p := 32) (v := ?vo_w18) (w1 := (w15.setCell ⟨go12, (x11_1 : Int).toNat * 2 + 1, none⟩ (.int .u8 0))) ?hg ?ho ?hn ?hr ?_; (case ho => rfl); (case hg => rfl); (case hn => rfl); (case hr => first | (go_simp; done) | (go_simp; rfl)); intro w18 hw; have hg : w15.grownBy w18 (some go12) := (by rw [hw]; exact HP17.2); have hp_ : Kd.R k35 35 w18 w.heap.size (fun k_ => k_ ≠ gb172) (.slice (some ⟨go12, 0, none⟩) x3_1.length co7) y173 := (by rw [hw, Ny173.out]; exact HP17.1); clear HP17; have n0_ := Aside0.mk (hp_); have n1_ := Aside0.mk (blk_grown (g := gb172) (o := .cells #[.int .i32 ((rd_T35 x3_1 x11_1).f0), .int .u8 ((rd_T35 x3_1 x11_1).f1)] 35 (0, 0)) (kB BK172) hg (Kd.R_away HO_3.out (fun _ hk => hk))); have n2_ := Aside0.mk ((by rw [hw]; exact below_set (HB.out) GB12.out : Below w.heap.size w w18)); clear HO_3; clear BK172; clear HB; have HO_3 := n0_; have BK172 := n1_; have HB := n2_; clear n0_ n1_ n2_; clear hg hw hp_))
       (try simp only [← hl3_1])
       go_roundg k1
       case measure => have := HK1.out; omega
       case rel => exact ⟨(y173), (wrap64 (x11_1 + 1)), sA, H', ⟨by have := HK1.out; omega⟩, ⟨by (try simp only [hl3_1]); (with_reducible repeat (first | apply Kd.R_alloc | apply Kd.R_drewN | apply Kd.R_drew)); exact Kd.R_mono HO_3.out (fun _ hk => trivial)⟩, ⟨bG⟩⟩
      ·rw [if_neg c11] at H
       have c11b0 : (((rd_T35 x3_1 x11_1).f0) == 32) = false := beq_eq_false_iff_ne.mpr c11
       have c11b1 : (((rd_T35 x3_1 x11_1).f0) != 32) = true := bne_iff_ne.mpr c11
       by_cases c19 : x11_1 > 0
       ·rw [if_pos c19] at H
        have c19b0 : decide (0 < x11_1) = true := decide_eq_true c19
        (try (have c19b0h := c19b0; simp only [hl3_1] at c19b0h))
        clear c19
        replace H := Option.bind_eq_some_iff.mp H
        obtain ⟨t174, A200, H⟩ := H
        replace H : (if t174 = 0 then (if 0 ≤ (wrap64 (x11_1 - 1)) then (if (wrap64 (x11_1 - 1)) < (x3_1.length : Int) then (plain_Normal.l0 k1 (x3_1.set (x11_1 : Int).toNat (⟨(rd_T35 x3_1 x11_1).f0, (rd_T35 x3_1 (wrap64 (x11_1 - 1))).f1⟩ : S35)) (t168.length : Int) (wrap64 (x11_1 + 1))) else (none)) else (none)) else (plain_Normal.l0 k1 x3_1 (t168.length : Int) (wrap64 (x11_1 + 1)))) = some r := H
        have A20 := Aside0.mk A200
        clear A200
        by_cases c21 : t174 = 0
        ·rw [if_pos c21] at H
         have c21b0 : (t174 == 0) = true := beq_iff_eq.mpr c21
         have c21b1 : (t174 != 0) = false := bne_eq_false_iff_eq.mpr c21
         clear c21
         obtain ⟨ji22, hji22⟩ : ∃ j_ : Int, (wrap64 (x11_1 - 1)) = j_ := ⟨_, rfl⟩
         replace H : (if 0 ≤ (ji22) then (if (ji22) < (x3_1.length : Int) then (plain_Normal.l0 k1 (x3_1.set (x11_1 : Int).toNat (⟨(rd_T35 x3_1 x11_1).f0, (rd_T35 x3_1 (ji22)).f1⟩ : S35)) (t168.length : Int) (wrap64 (x11_1 + 1))) else (none)) else (none)) = some r := by first | (rw [hji22] at H; exact H) | (simp only [hji22] at H ⊢; exact H)
         (try rw [hji22] at A20)
         have hji22w : (IntKind.i64.wrap (x11_1 - 1)) = ji22 := (i64_w _).trans hji22
         by_cases c23 : 0 ≤ (ji22)
         ·rw [if_pos c23] at H
          have c23b0 : decide (0 ≤ (ji22)) = true := decide_eq_true c23
          (try (have c23b0h := c23b0; simp only [hl3_1] at c23b0h))
          clear c23
          by_cases c24 : (ji22) < (x3_1.length : Int)
          ·rw [if_pos c24] at H
           have c24b0 : decide ((ji22) < (x3_1.length : Int)) = true := decide_eq_true c24
           (try (have c24b0h := c24b0; simp only [hl3_1] at c24b0h))
           clear c24
           obtain ⟨y176, hy176⟩ : ∃ y_ : List (S35), y_ = (x3_1.set (x11_1 : Int).toNat (⟨(rd_T35 x3_1 x11_1).f0, (rd_T35 x3_1 (ji22)).f1⟩ : S35)) := ⟨_, rfl⟩
           replace H : (plain_Normal.l0 k1 y176 (t168.length : Int) (wrap64 (x11_1 + 1))) = some r := hyA hy176 H
           have Ny176 := Aside0.mk hy176
           clear hy176
           have H' := Aside0.mk H
           clear H
           have p171 : 0 ≤ (x11_1 : Int) := of_decide_eq_true asA
           have q171 : x11_1 < (x3_1.length : Int) := of_decide_eq_true asA
           obtain ⟨ad171, e171, hx171_0, hx171_1⟩ := at_T35 (Kd.R_reads' HO_3.out).2.2 x11_1 p171 q171
           cases e171
           replace p171 := eq_true p171
           replace q171 := eq_true q171
           go_wp2_with (first | ((with_reducible refine gate_dst (N := 5) rfl ?_); refine box_event ?hg (N := 5) ?hd (cs := #[.int .i32 0, .int .u8 0]) (t := 35) ?hr ?_; (case hd => rfl); (case hg => rfl); (case hr => first | (go_simp; done) | (go_simp; rfl)); intro gb172 hg w26 hbox hb; replace HO_3 := Aside0.mk (Kd.R_below (Kd.R_elderB (kR HO_3) gb172 (Nat.le_of_eq hg.symm)) hb); have BK172 := Aside0.mk (hbox); have GW172 := Aside0.mk ((geA hg : w.heap.size ≤ gb172)); have GE172 := Aside0.mk ((geA hg : w.heap.size ≤ gb172)); replace HB := Aside0.mk (below_step bA hb); clear hb hbox hg; have hcz27_0 : w26.cell? ⟨gb172, 0, none⟩ = some (.int .i32 0) := (blk_cell BK172.out 0).trans rfl; have hcz27_1 : w26.cell? ⟨gb172, 1, none⟩ = some (.int .u8 0) := (blk_cell BK172.out 1).trans rfl; have hfz27_0 := blk_frozen BK172.out 0; have hfz27_1 := blk_frozen BK172.out 1) | ((with_reducible refine gate_store (t := 35) (p := 5) rfl ?_); refine store_event (t := 35) (p := 5) (v := ?vo_w28) (w1 := ((w26.setCell ⟨gb172, 0, none⟩ (.int .i32 ((rd_T35 x3_1 x11_1).f0))).setCell ⟨gb172, 1, none⟩ (.int .u8 ((rd_T35 x3_1 x11_1).f1)))) ?hg ?ho ?hn ?hr ?_; (case ho => rfl); (case hg => rfl); (case hn => rfl); (case hr => first | (go_simp; done) | (go_simp; rfl)); intro w28 hw; have n0_ : Aside0 (Kd.R k35 35 w28 w.heap.size (fun k_ => k_ ≠ gb172) (.slice (some ad171) x3_1.length co7) x3_1) := ⟨(by rw [hw]; exact (by (with_reducible repeat (first | apply Kd.R_alloc | apply Kd.R_drewN | apply Kd.R_drew)); exact Kd.R_mono (Kd.R_far (p := ⟨gb172, 1, none⟩) (Kd.R_far (p := ⟨gb172, 0, none⟩) (Kd.R_mono HO_3.out (fun k_ hk => (⟨hk, hk.2⟩ : _ ∧ k_ ≠ gb172))) (fun _ hk => hk.2) (.int .i32 ((rd_T35 x3_1 x11_1).f0))) (fun _ hk => hk.2) (.int .u8 ((rd_T35 x3_1 x11_1).f1))) (fun _ hk => hk.1.2)))⟩; have n1_ : Aside0 (w28.heap[gb172]? = some (.cells #[.int .i32 ((rd_T35 x3_1 x11_1).f0), .int .u8 ((rd_T35 x3_1 x11_1).f1)] 35 (0, 0))) := ⟨(by rw [hw]; exact (by (with_reducible repeat (first | refine blk_drewN ?_ _ | refine blk_drew ?_ | refine blk_alloc ?_ _)); refine blk_put (cs := #[.int .i32 ((rd_T35 x3_1 x11_1).f0), .int .u8 0]) ?_ 1 _ rfl; (with_reducible repeat (first | refine blk_drewN ?_ _ | refine blk_drew ?_ | refine blk_alloc ?_ _)); refine blk_put (cs := #[.int .i32 0, .int .u8 0]) ?_ 0 _ rfl; (with_reducible repeat (first | refine blk_drewN ?_ _ | refine blk_drew ?_ | refine blk_alloc ?_ _)); exact BK172.out))⟩; have n2_ : Aside0 (Below w.heap.size w w28) := ⟨(by rw [hw]; exact bG)⟩; clear hw; clear HO_3; clear BK172; clear HB; have HO_3 := n0_; have BK172 := n1_; have HB := n2_; clear n0_ n1_ n2_; have hcz29_0 : w28.cell? ⟨gb172, 0, none⟩ = some (.int .i32 ((rd_T35 x3_1 x11_1).f0)) := (blk_cell BK172.out 0).trans rfl; have hcz29_1 : w28.cell? ⟨gb172, 1, none⟩ = some (.int .u8 ((rd_T35 x3_1 x11_1).f1)) := (blk_cell BK172.out 1).trans rfl; have hfz29_0 := blk_frozen BK172.out 0; have hfz29_1 := blk_frozen BK172.out 1) | (go_at_call 47; (with_reducible refine (runes_Width.calls ((rd_T35 x3_1 x11_1).f0) t174 _ ?side1 A20.out).mono ?_); (case side1 => exact GOK.of_below (GOK.sub HG.out rfl) bG); rintro e w' ⟨rfl, ⟨nd, rfl⟩⟩; (try (rw [drewN_self w28]; generalize hq_ : World.drewN w28 _ = w28; have n0_ : Aside0 (Kd.R k35 35 w28 w.heap.size (fun k_ => k_ ≠ gb172) (.slice (some ad171) x3_1.length co7) x3_1) := ⟨by rw [← hq_]; exact (kR HO_3)⟩; have n1_ : Aside0 (w28.heap[gb172]? = some (.cells #[.int .i32 ((rd_T35 x3_1 x11_1).f0), .int .u8 ((rd_T35 x3_1 x11_1).f1)] 35 (0, 0))) := ⟨by rw [← hq_]; exact (kB BK172)⟩; have n2_ : Aside0 (Below w.heap.size w w28) := ⟨by rw [← hq_]; exact bG⟩; clear HO_3 BK172 HB hq_; have HO_3 := n0_; have BK172 := n1_; have HB := n2_; clear n0_ n1_ n2_)); (try (have hcz30_0 : w28.cell? ⟨gb172, 0, none⟩ = some (.int .i32 ((rd_T35 x3_1 x11_1).f0)) := (blk_cell BK172.out 0).trans rfl; have hcz30_1 : w28.cell? ⟨gb172, 1, none⟩ = some (.int .u8 ((rd_T35 x3_1 x11_1).f1)) := (blk_cell BK172.out 1).trans rfl; have hfz30_0 := blk_frozen BK172.out 0; have hfz30_1 := blk_frozen BK172.out 1)); have p175 : 0 ≤ ((ji22) : Int) := of_decide_eq_true asA; have q175 : (ji22) < (x3_1.length : Int) := of_decide_eq_true asA; obtain ⟨ad175, e175, hx175_0, hx175_1⟩ := at_T35 (Kd.R_reads' HO_3.out).2.2 (ji22) p175 q175; obtain rfl : ad171 = ad175 := (by injection e175); replace p175 := eq_true p175; replace q175 := eq_true q175; have p25 : 0 ≤ (x11_1 : Int) := of_decide_eq_true asA; have q25 : (x11_1 : Int) < ((x3_1.length : Int) : Int) := of_decide_eq_true asA; obtain ⟨go25, co25, eo25, gb25, gl25, cl25, HG25⟩ := Kd.R_form HO_3.out (by omega); (first | cases eo25 | (injection eo25 with ea_ en_ ec_; (first | subst ea_ | (injection ea_ with ea_; subst ea_)); subst ec_; clear en_)); have GB25 := Aside0.mk gb25; have GG25 := Aside0.mk HG25; clear gb25 gl25 HG25; (first | simp only [add_plain] at hx171_0 | skip); (first | simp only [add_plain] at hx171_1 | skip); (first | simp only [add_plain] at hx175_0 | skip); (first | simp only [add_plain] at hx175_1 | skip); obtain ⟨ce25, hcl25, hM25, hcc25, hfr25⟩ := Kd.R_elem HO_3.out z35 (x11_1 : Int) p25 q25; obtain rfl := k35_openM hM25; have hx25_0 : w28.cell? ⟨go25, (x11_1 : Int).toNat * 2, none⟩ = some (.int .i32 ((rd_T35 x3_1 x11_1).f0)) := hcc25 0 _ rfl; have hx25_1 : w28.cell? ⟨go25, (x11_1 : Int).toNat * 2 + 1, none⟩ = some (.int .u8 ((rd_T35 x3_1 x11_1).f1)) := hcc25 1 _ rfl; have hf25_0 : w28.frozen? ⟨go25, (x11_1 : Int).toNat * 2, none⟩ = false := hfr25 0; have hf25_1 : w28.frozen? ⟨go25, (x11_1 : Int).toNat * 2 + 1, none⟩ = false := hfr25 1; clear hcl25 hcc25 hfr25 hM25; replace p25 := eq_true p25; replace q25 := eq_true q25; have HX31 := Aside0.mk (show Kd.R k35 35 w28 w.heap.size (fun k_ => k_ ≠ gb172) (.slice (some ⟨go25, 0, none⟩) x3_1.length co7) x3_1 from (kR HO_3)); obtain ⟨ce31, hcl31, hM31, hcc31, hfr31⟩ := Kd.R_elem HX31.out z35 (x11_1 : Int) (of_decide_eq_true asA) (by have h_ : (x11_1 : Int) < ((x3_1.length : Int) : Int) := of_decide_eq_true asA; first | exact h_ | (have e_ := (Kd.R_reads' HO_3.out).1; omega) | simpa using h_); obtain rfl := k35_openM hM31; have HP31 := Kd.R_seg HX31.out (x11_1 : Int) (of_decide_eq_true asA) (by have h_ : (x11_1 : Int) < ((x3_1.length : Int) : Int) := of_decide_eq_true asA; first | exact h_ | (have e_ := (Kd.R_reads' HO_3.out).1; omega) | simpa using h_) (seg := [.int .u8 ((rd_T35 x3_1 (ji22)).f1)]) (j := 1) hcl31 hcc31 (show 2 ≤ 2 from by decide) (x' := (⟨(rd_T35 x3_1 x11_1).f0, (rd_T35 x3_1 (ji22)).f1⟩ : S35)) (k35_mkM _ _ _ (⟨(rd_T35 x3_1 x11_1).f0, (rd_T35 x3_1 (ji22)).f1⟩ : S35) ) (fun _ hk => hk); have hx31_1 := hcc31 1 _ rfl; (try simp only [show (k35).sz = 2 from rfl, Nat.mul_one, Nat.add_zero] at hx31_1); have hf31_1 := hfr31 1; (try simp only [show (k35).sz = 2 from rfl, Nat.mul_one, Nat.add_zero] at hf31_1); clear hcl31 hcc31 hfr31 hM31) | ((with_reducible refine gate_store (t := 5) (p := 42) rfl ?_); refine store_event (t := 5) (p := 42) (v := ?vo_w32) (w1 := (w28.setCell ⟨go25, (x11_1 : Int).toNat * 2 + 1, none⟩ (.int .u8 ((rd_T35 x3_1 (ji22)).f1)))) ?hg ?ho ?hn ?hr ?_; (case ho => rfl); (case hg => rfl); (case hn => rfl); (case hr => first | (go_simp; done) | (go_simp; rfl)); intro w32 hw; have hg : w28.grownBy w32 (some go25) := (by rw [hw]; exact HP31.2); have hp_ : Kd.R k35 35 w32 w.heap.size (fun k_ => k_ ≠ gb172) (.slice (some ⟨go25, 0, none⟩) x3_1.length co7) y176 := (by rw [hw, Ny176.out]; exact HP31.1); clear HP31; have n0_ := Aside0.mk (hp_); have n1_ := Aside0.mk (blk_grown (g := gb172) (o := .cells #[.int .i32 ((rd_T35 x3_1 x11_1).f0), .int .u8 ((rd_T35 x3_1 x11_1).f1)] 35 (0, 0)) (kB BK172) hg (Kd.R_away HO_3.out (fun _ hk => hk))); have n2_ := Aside0.mk ((by rw [hw]; exact below_set (HB.out) GB25.out : Below w.heap.size w w32)); clear HO_3; clear BK172; clear HB; have HO_3 := n0_; have BK172 := n1_; have HB := n2_; clear n0_ n1_ n2_; clear hg hw hp_))
           (try simp only [← hl3_1])
           go_roundg k1
           case measure => have := HK1.out; omega
           case rel => exact ⟨(y176), (wrap64 (x11_1 + 1)), sA, H', ⟨by have := HK1.out; omega⟩, ⟨by (try simp only [hl3_1]); (with_reducible repeat (first | apply Kd.R_alloc | apply Kd.R_drewN | apply Kd.R_drew)); exact Kd.R_mono HO_3.out (fun _ hk => trivial)⟩, ⟨bG⟩⟩
          ·rw [if_neg c24] at H
           exact absurd H (by simp)
         ·rw [if_neg c23] at H
          exact absurd H (by simp)
        ·rw [if_neg c21] at H
         have c21b0 : (t174 == 0) = false := beq_eq_false_iff_ne.mpr c21
         have c21b1 : (t174 != 0) = true := bne_iff_ne.mpr c21
         have H' := Aside0.mk H
         clear H
         have p171 : 0 ≤ (x11_1 : Int) := of_decide_eq_true asA
         have q171 : x11_1 < (x3_1.length : Int) := of_decide_eq_true asA
         obtain ⟨ad171, e171, hx171_0, hx171_1⟩ := at_T35 (Kd.R_reads' HO_3.out).2.2 x11_1 p171 q171
         cases e171
         replace p171 := eq_true p171
         replace q171 := eq_true q171
         go_wp2_with (first | ((with_reducible refine gate_dst (N := 5) rfl ?_); refine box_event ?hg (N := 5) ?hd (cs := #[.int .i32 0, .int .u8 0]) (t := 35) ?hr ?_; (case hd => rfl); (case hg => rfl); (case hr => first | (go_simp; done) | (go_simp; rfl)); intro gb172 hg w33 hbox hb; replace HO_3 := Aside0.mk (Kd.R_below (Kd.R_elderB (kR HO_3) gb172 (Nat.le_of_eq hg.symm)) hb); have BK172 := Aside0.mk (hbox); have GW172 := Aside0.mk ((geA hg : w.heap.size ≤ gb172)); have GE172 := Aside0.mk ((geA hg : w.heap.size ≤ gb172)); replace HB := Aside0.mk (below_step bA hb); clear hb hbox hg; have hcz34_0 : w33.cell? ⟨gb172, 0, none⟩ = some (.int .i32 0) := (blk_cell BK172.out 0).trans rfl; have hcz34_1 : w33.cell? ⟨gb172, 1, none⟩ = some (.int .u8 0) := (blk_cell BK172.out 1).trans rfl; have hfz34_0 := blk_frozen BK172.out 0; have hfz34_1 := blk_frozen BK172.out 1) | (go_at_call 47; (with_reducible refine (runes_Width.calls ((rd_T35 x3_1 x11_1).f0) t174 _ ?side1 A20.out).mono ?_); (case side1 => exact GOK.of_below (GOK.sub HG.out rfl) bG); rintro e w' ⟨rfl, ⟨nd, rfl⟩⟩))
         (try simp only [← hl3_1])
         go_roundg k1
         case measure => have := HK1.out; omega
         case rel => exact ⟨(x3_1), (wrap64 (x11_1 + 1)), sA, H', ⟨by have := HK1.out; omega⟩, ⟨by (try simp only [hl3_1]); (with_reducible repeat (first | apply Kd.R_alloc | apply Kd.R_drewN | apply Kd.R_drew)); exact Kd.R_mono (Kd.R_far (p := ⟨gb172, 1, none⟩) (Kd.R_far (p := ⟨gb172, 0, none⟩) (Kd.R_mono HO_3.out (fun k_ hk => (⟨hk, hk.2⟩ : _ ∧ k_ ≠ gb172))) (fun _ hk => hk.2) (.int .i32 ((rd_T35 x3_1 x11_1).f0))) (fun _ hk => hk.2) (.int .u8 ((rd_T35 x3_1 x11_1).f1))) (fun _ hk => trivial)⟩, ⟨bG⟩⟩
       ·rw [if_neg c19] at H
        have c19b0 : decide (0 < x11_1) = false := decide_eq_false c19
        (try (have c19b0h := c19b0; simp only [hl3_1] at c19b0h))
        clear c19
        have H' := Aside0.mk H
        clear H
        have p171 : 0 ≤ (x11_1 : Int) := of_decide_eq_true asA
        have q171 : x11_1 < (x3_1.length : Int) := of_decide_eq_true asA
        obtain ⟨ad171, e171, hx171_0, hx171_1⟩ := at_T35 (Kd.R_reads' HO_3.out).2.2 x11_1 p171 q171
        cases e171
        replace p171 := eq_true p171
        replace q171 := eq_true q171
        go_wp2_with (first | ((with_reducible refine gate_dst (N := 5) rfl ?_); refine box_event ?hg (N := 5) ?hd (cs := #[.int .i32 0, .int .u8 0]) (t := 35) ?hr ?_; (case hd => rfl); (case hg => rfl); (case hr => first | (go_simp; done) | (go_simp; rfl)); intro gb172 hg w35 hbox hb; replace HO_3 := Aside0.mk (Kd.R_below (Kd.R_elderB (kR HO_3) gb172 (Nat.le_of_eq hg.symm)) hb); have BK172 := Aside0.mk (hbox); have GW172 := Aside0.mk ((geA hg : w.heap.size ≤ gb172)); have GE172 := Aside0.mk ((geA hg : w.heap.size ≤ gb172)); replace HB := Aside0.mk (below_step bA hb); clear hb hbox hg; have hcz36_0 : w35.cell? ⟨gb172, 0, none⟩ = some (.int .i32 0) := (blk_cell BK172.out 0).trans rfl; have hcz36_1 : w35.cell? ⟨gb172, 1, none⟩ = some (.int .u8 0) := (blk_cell BK172.out 1).trans rfl; have hfz36_0 := blk_frozen BK172.out 0; have hfz36_1 := blk_frozen BK172.out 1))
        (try simp only [← hl3_1])
        go_roundg k1
        case measure => have := HK1.out; omega
        case rel => exact ⟨(x3_1), (wrap64 (x11_1 + 1)), sA, H', ⟨by have := HK1.out; omega⟩, ⟨by (try simp only [hl3_1]); (with_reducible repeat (first | apply Kd.R_alloc | apply Kd.R_drewN | apply Kd.R_drew)); exact Kd.R_mono (Kd.R_far (p := ⟨gb172, 1, none⟩) (Kd.R_far (p := ⟨gb172, 0, none⟩) (Kd.R_mono HO_3.out (fun k_ hk => (⟨hk, hk.2⟩ : _ ∧ k_ ≠ gb172))) (fun _ hk => hk.2) (.int .i32 ((rd_T35 x3_1 x11_1).f0))) (fun _ hk => hk.2) (.int .u8 ((rd_T35 x3_1 x11_1).f1))) (fun _ hk => trivial)⟩, ⟨bG⟩⟩
     ·rw [if_neg c10] at H
      exact absurd H (by simp)
    ·rw [if_neg c9] at H
     exact absurd H (by simp)
   ·rw [if_neg c8] at H
    have c8b0 : decide (x11_1 < (t168.length : Int)) = false := decide_eq_false c8
    (try (have c8b0h := c8b0; simp only [hl3_1] at c8b0h))
    clear c8
    obtain rfl := Option.some.inj H
    go_wp2
    go_ret
    exact ⟨_, eW, kR HO_3, bA⟩

/-! ### over_Row: function 12 -/
def over_Row.l0 : Nat → List Int → List (S35) → Int → Int → Option (List Int)
 | 0, _, _, _, _ => none
 | k + 1, x3, x7, x8, x9 => if x9 < x8 then (if 0 ≤ x9 then (if x9 < (x7.length : Int) then ((over_One.f k ((rd_T35 x7 x9).f0) ((rd_T35 x7 x9).f1)).bind fun t182 => (if x3.length + t182.length < 140737488355328 then (over_Row.l0 k (x3 ++ t182) x7 x8 (wrap64 (x9 + 1))) else (none))) else (none)) else (none)) else (some x3)
def over_Row.f (k : Nat) (l0 : List (S35)) : Option (List Int) := (plain_Normal.f k l0).bind fun t177 => (over_Row.l0 k ([] : List Int) t177 (t177.length : Int) 0)
theorem over_Row.mono_l : ∀ k, (∀ y0 y1 y2 y3, LeO (over_Row.l0 k y0 y1 y2 y3) (over_Row.l0 (k + 1) y0 y1 y2 y3))
 | 0 => fun _ _ _ _ r h => by simp [over_Row.l0] at h
 | k + 1 => by
  have ih0 := over_Row.mono_l k
  ·intro y0 y1 y2 y3
   unfold over_Row.l0
   repeat' first
   | (with_reducible exact ih0 _ _ _ _)
   | (with_reducible exact over_One.mono _ _ _)
   | (with_reducible exact plain_Normal.mono _ _)
   | (with_reducible exact LeO.refl _)
   | (with_reducible exact LeO.none _)
   | (with_reducible refine LeO.ite ?_ ?_)
   | (with_reducible refine LeO.bind ?_ (fun _ => ?_))
theorem over_Row.mono : ∀ a0 k, LeO (over_Row.f k a0) (over_Row.f (k + 1) a0) := by
 intro a0 k
 have ih0 := over_Row.mono_l k
 unfold over_Row.f
 repeat' first
   | (with_reducible exact ih0 _ _ _ _)
   | (with_reducible exact over_One.mono _ _ _)
   | (with_reducible exact plain_Normal.mono _ _)
   | (with_reducible exact LeO.refl _)
   | (with_reducible exact LeO.none _)
   | (with_reducible refine LeO.ite ?_ ?_)
   | (with_reducible refine LeO.bind ?_ (fun _ => ?_))
theorem over_Row.calls (k : Nat) (A0 : Option Addr) (c0 : Nat) (l0 : List (S35)) (r : List Int) (w : World) (hr0 : Kd.C k35 w A0 l0.length l0) (hc0 : l0.length ≤ c0) (hG : GOK [0,1] w) (h : over_Row.f k l0 = some r) :
  Calls Tryd.prog 12 #[.slice A0 l0.length c0] w fun e w' => ∃ v0_ : Value, e = .returned (v0_) ∧ Kd.R (Kd.int .u8) 5 w' w.heap.size (fun _ => True) v0_ r ∧ Below w.heap.size w w' := by
 have hu35 := Tryd.underlying35
 have HG := Aside0.mk hG
 clear hG
 have HR0 := Aside0.mk hr0
 have HC0 := Aside0.mk hc0
 clear hr0 hc0
 have HB := Aside0.mk (Below.refl w.heap.size w)
 have H : ((plain_Normal.f k l0).bind fun t177 => (over_Row.l0 k ([] : List Int) t177 (t177.length : Int) 0)) = some r := h
 clear h
 replace H := Option.bind_eq_some_iff.mp H
 obtain ⟨t177, A20, H⟩ := H
 replace H : (over_Row.l0 k ([] : List Int) t177 (t177.length : Int) 0) = some r := H
 have A2 := Aside0.mk A20
 clear A20
 have H' := Aside0.mk H
 clear H
 go_enter Tryd.func12, Tryd.ntmps12
 go_wp2_with (first | ((with_reducible refine gate_callee (f := 27) rfl ?_); refine goesL_ (some 7) rfl rfl Tryd.func27 (by kernel_rfl) rfl #[.slice A0 l0.length c0] rfl aP ?_; (with_reducible refine (plain_Normal.calls k _ _ l0 t177 _ ?side1 ?side2 ?side3 A2.out).mono ?_); (case side1 => repeat (first | exact HR0.out | (with_reducible refine Kd.C_alloc ?_ _) | (with_reducible refine Kd.C_drewN ?_ _) | (with_reducible refine Kd.C_drew ?_))); (case side2 => exact HC0.out); (case side3 => exact GOK.of_below (GOK.sub HG.out rfl) bA); rintro e w3 ⟨v178, rfl, ho0, hb⟩; refine ⟨_, rfl, ?_⟩; have HO179 := Aside0.mk (Kd.R_lower ho0 (below_size bA)); replace HB := Aside0.mk (below_step bA hb); (try clear hb); (try clear hb2); (try clear hk); (try clear hi); (try clear ho0); obtain ⟨Ao4, co4, eo4⟩ := Kd.R_slice HO179.out; subst eo4))
 go_loopg [3, 9] k (fun kq v3 v9 w' => ∃ (x3_1 : List Int) (x9_1 : Int), v9 = .int .i64 x9_1 ∧ Aside0 (over_Row.l0 kq x3_1 t177 (t177.length : Int) x9_1 = some r) ∧ Aside0 (kq ≤ k) ∧ Aside0 (Kd.R (Kd.int .u8) 5 w' w.heap.size (fun _ => True) v3 x3_1) ∧ Aside0 (Kd.R k35 35 w' w.heap.size (fun _ => True) (.slice Ao4 t177.length co4) t177) ∧ Aside0 (Below w.heap.size w w'))
 case atStart => exact ⟨(([] : List Int)), (0), sA, H', ⟨Nat.le_refl _⟩, ⟨by first | exact Kd.R_nil _ _ _ _ _ | exact Kd.N_nil _ _ _ _ _ | exact Kd.V_nil _ _ _ _ _ | exact Kd.Q_nil _ _ _ _ _ | exact Kd.S_nil _ _ _ _ _⟩, ⟨kR HO179⟩, ⟨bA⟩⟩
 case round =>
  clear H'
  try clear c1
  try clear c2
  try clear p2
  obtain ⟨x3_1, x9_1, rfl, HA, HK1, HO_3, HO_7, HB⟩ := hrel
  cases gk with
  | zero => exact absurd HA.out (by simp [over_Row.l0])
  | succ k1 =>
   have H := HA.out
   clear HA
   simp only [over_Row.l0] at H
   by_cases c5 : x9_1 < (t177.length : Int)
   ·rw [if_pos c5] at H
    have c5b0 : decide (x9_1 < (t177.length : Int)) = true := decide_eq_true c5
    clear c5
    by_cases c6 : 0 ≤ x9_1
    ·rw [if_pos c6] at H
     have c6b0 : decide (0 ≤ x9_1) = true := decide_eq_true c6
     clear c6
     by_cases c7 : x9_1 < (t177.length : Int)
     ·rw [if_pos c7] at H
      have c7b0 : decide (x9_1 < (t177.length : Int)) = true := decide_eq_true c7
      clear c7
      replace H := Option.bind_eq_some_iff.mp H
      obtain ⟨t182, A80, H⟩ := H
      replace H : (if x3_1.length + t182.length < 140737488355328 then (over_Row.l0 k1 (x3_1 ++ t182) t177 (t177.length : Int) (wrap64 (x9_1 + 1))) else (none)) = some r := H
      have A8 := Aside0.mk A80
      clear A80
      by_cases c9 : x3_1.length + t182.length < 140737488355328
      ·rw [if_pos c9] at H
       have LMc9 := Aside0.mk c9
       clear c9
       obtain ⟨y185, hy185⟩ : ∃ y_ : List Int, y_ = (x3_1 ++ t182) := ⟨_, rfl⟩
       replace H : (over_Row.l0 k1 y185 t177 (t177.length : Int) (wrap64 (x9_1 + 1))) = some r := hyA hy185 H
       have Ny185 := Aside0.mk hy185
       clear hy185
       have H' := Aside0.mk H
       clear H
       have p180 : 0 ≤ (x9_1 : Int) := of_decide_eq_true asA
       have q180 : x9_1 < (t177.length : Int) := of_decide_eq_true asA
       obtain ⟨ad180, e180, hx180_0, hx180_1⟩ := at_T35 (Kd.R_reads' HO_7.out).2.2 x9_1 p180 q180
       cases e180
       replace p180 := eq_true p180
       replace q180 := eq_true q180
       go_wp2_with (first | ((with_reducible refine gate_dst (N := 5) rfl ?_); refine box_event ?hg (N := 5) ?hd (cs := #[.int .i32 0, .int .u8 0]) (t := 35) ?hr ?_; (case hd => rfl); (case hg => rfl); (case hr => first | (go_simp; done) | (go_simp; rfl)); intro gb181 hg w10 hbox hb; replace HO_3 := Aside0.mk (Kd.R_below (kR HO_3) hb); replace HO_7 := Aside0.mk (Kd.R_below (Kd.R_elderB (kR HO_7) gb181 (Nat.le_of_eq hg.symm)) hb); have BK181 := Aside0.mk (hbox); have GW181 := Aside0.mk ((geA hg : w.heap.size ≤ gb181)); have GE181 := Aside0.mk ((geA hg : w.heap.size ≤ gb181)); replace HB := Aside0.mk (below_step bA hb); clear hb hbox hg; have hcz11_0 : w10.cell? ⟨gb181, 0, none⟩ = some (.int .i32 0) := (blk_cell BK181.out 0).trans rfl; have hcz11_1 : w10.cell? ⟨gb181, 1, none⟩ = some (.int .u8 0) := (blk_cell BK181.out 1).trans rfl; have hfz11_0 := blk_frozen BK181.out 0; have hfz11_1 := blk_frozen BK181.out 1) | ((with_reducible refine gate_callee (f := 15) rfl ?_); refine goesL_ (some 15) rfl rfl Tryd.func15 (by kernel_rfl) rfl #[.agg #[.int .i32 ((rd_T35 t177 x9_1).f0), .int .u8 ((rd_T35 t177 x9_1).f1)]] rfl aP ?_; (with_reducible refine (over_One.calls k1 ((rd_T35 t177 x9_1).f0) ((rd_T35 t177 x9_1).f1) t182 _ ?side1 A8.out).mono ?_); (case side1 => exact GOK.of_below (GOK.sub HG.out rfl) bG); rintro e w12 ⟨v183, rfl, ho0, hb⟩; refine ⟨_, rfl, ?_⟩; have n0_ := Aside0.mk (Kd.R_below (by (with_reducible repeat (first | apply Kd.R_alloc | apply Kd.R_drewN | apply Kd.R_drew)); exact (Kd.R_mono (Kd.R_far (p := ⟨gb181, 1, none⟩) (Kd.R_far (p := ⟨gb181, 0, none⟩) (Kd.R_types HO_3.out BK181.out (by decide)) (fun _ hk => hk.2) (.int .i32 ((rd_T35 t177 x9_1).f0))) (fun _ hk => hk.2) (.int .u8 ((rd_T35 t177 x9_1).f1))) (fun _ h_ => h_.1))) hb); have n1_ := Aside0.mk (Kd.R_below (by (with_reducible repeat (first | apply Kd.R_alloc | apply Kd.R_drewN | apply Kd.R_drew)); exact (Kd.R_mono (Kd.R_far (p := ⟨gb181, 1, none⟩) (Kd.R_far (p := ⟨gb181, 0, none⟩) (Kd.R_mono HO_7.out (fun k_ hk => (⟨hk, hk.2⟩ : _ ∧ k_ ≠ gb181))) (fun _ hk => hk.2) (.int .i32 ((rd_T35 t177 x9_1).f0))) (fun _ hk => hk.2) (.int .u8 ((rd_T35 t177 x9_1).f1))) (fun _ h_ => h_.1))) hb); have n2_ := Aside0.mk (Kd.V_lower (Kd.V_mono (ok' := fun k_ => some k_ ≠ (u3 : Value).ownBlock ∧ some k_ ≠ (.slice (some ad180) t177.length co4 : Value).ownBlock ∧ k_ ≠ gb181) ho0 (fun k_ hk_ => ⟨(Kd.fresh' (Kd.R_lt (by (with_reducible repeat (first | apply Kd.R_alloc | apply Kd.R_drewN | apply Kd.R_drew)); exact (Kd.R_mono (Kd.R_far (p := ⟨gb181, 1, none⟩) (Kd.R_far (p := ⟨gb181, 0, none⟩) (Kd.R_types HO_3.out BK181.out (by decide)) (fun _ hk => hk.2) (.int .i32 ((rd_T35 t177 x9_1).f0))) (fun _ hk => hk.2) (.int .u8 ((rd_T35 t177 x9_1).f1))) (fun _ h_ => h_.1)))) k_ hk_), (Kd.fresh' (Kd.R_lt (by (with_reducible repeat (first | apply Kd.R_alloc | apply Kd.R_drewN | apply Kd.R_drew)); exact (Kd.R_mono (Kd.R_far (p := ⟨gb181, 1, none⟩) (Kd.R_far (p := ⟨gb181, 0, none⟩) (Kd.R_mono HO_7.out (fun k_ hk => (⟨hk, hk.2⟩ : _ ∧ k_ ≠ gb181))) (fun _ hk => hk.2) (.int .i32 ((rd_T35 t177 x9_1).f0))) (fun _ hk => hk.2) (.int .u8 ((rd_T35 t177 x9_1).f1))) (fun _ h_ => h_.1)))) k_ hk_), (Kd.freshB (g := gb181) (o := .cells #[.int .i32 ((rd_T35 t177 x9_1).f0), .int .u8 ((rd_T35 t177 x9_1).f1)] 35 (0, 0)) (by (with_reducible repeat (first | refine blk_drewN ?_ _ | refine blk_drew ?_ | refine blk_alloc ?_ _)); refine blk_put (cs := #[.int .i32 ((rd_T35 t177 x9_1).f0), .int .u8 0]) ?_ 1 _ rfl; (with_reducible repeat (first | refine blk_drewN ?_ _ | refine blk_drew ?_ | refine blk_alloc ?_ _)); refine blk_put (cs := #[.int .i32 0, .int .u8 0]) ?_ 0 _ rfl; (with_reducible repeat (first | refine blk_drewN ?_ _ | refine blk_drew ?_ | refine blk_alloc ?_ _)); exact BK181.out) k_ hk_)⟩)) (below_size bG)); have n3_ := Aside0.mk (blk_below (g := gb181) (o := .cells #[.int .i32 ((rd_T35 t177 x9_1).f0), .int .u8 ((rd_T35 t177 x9_1).f1)] 35 (0, 0)) (by (with_reducible repeat (first | refine blk_drewN ?_ _ | refine blk_drew ?_ | refine blk_alloc ?_ _)); refine blk_put (cs := #[.int .i32 ((rd_T35 t177 x9_1).f0), .int .u8 0]) ?_ 1 _ rfl; (with_reducible repeat (first | refine blk_drewN ?_ _ | refine blk_drew ?_ | refine blk_alloc ?_ _)); refine blk_put (cs := #[.int .i32 0, .int .u8 0]) ?_ 0 _ rfl; (with_reducible repeat (first | refine blk_drewN ?_ _ | refine blk_drew ?_ | refine blk_alloc ?_ _)); exact BK181.out) hb); have n4_ := Aside0.mk (below_step bG hb); clear HO_3; clear HO_7; clear BK181; clear HB; have HO_3 := n0_; have HO_7 := n1_; have HO184 := n2_; have BK181 := n3_; have HB := n4_; clear n0_ n1_ n2_ n3_ n4_; (try clear hb); (try clear hb2); (try clear hk); (try clear hi); (try clear ho0); obtain ⟨Ao14, co14, eo14⟩ := Kd.V_slice HO184.out; subst eo14) | ((with_reducible refine gate_builtin (b := .append) (xs := #[.tmp 13, .tmp 15]) rfl ?_); at_builtin; refine Kd.R_append_rows (Kd.int .u8) (w0 := w) w.heap.size rfl (.tmp 13) (.tmp 15) 25 5 (.int .u8 0) 1 rfl Tryd.underlying25 info5 rfl (by decide) (by omega) u3 x3_1 t182 _ _ _ (fun _ => True) (fun _ => False) rfl rfl ?aO ?aR (fun _ _ h => h) (fun _ h => h.elim) ?aF ?aB ?aS ?aL ?_; (case aR => repeat (first | exact (Kd.V_reads' HO184.out).2.2 | (with_reducible refine Kd.C_alloc ?_ _) | (with_reducible refine Kd.C_drewN ?_ _) | (with_reducible refine Kd.C_drew ?_))); (case aB => exact bG); (case aF => exact (fun _ _ => trivial)); (case aO => exact (kR HO_3)); (case aS => exact (below_size bG)); (case aL => have := LMc9.out; omega); intro v186 w13 ho hb hg hat; rw [← Ny185.out] at ho; have n0_ := Aside0.mk (Kd.R_over' (kR HO_7) (Kd.R_typed (kR HO_3)) (by decide) hg); have n1_ := Aside0.mk (blk_grown (g := gb181) (o := .cells #[.int .i32 ((rd_T35 t177 x9_1).f0), .int .u8 ((rd_T35 t177 x9_1).f1)] 35 (0, 0)) (kB BK181) hg (by first | exact Kd.R_ne HO_3.out BK181.out (by decide) | (intro e_; have h_ := HO_3.out.1 _ e_.symm; simp at h_))); have n2_ := Aside0.mk (Kd.V_afterv (ok := (fun k_ => some k_ ≠ (.slice (some ad180) t177.length co4 : Value).ownBlock ∧ k_ ≠ gb181)) (by (with_reducible repeat (first | apply Kd.V_alloc | apply Kd.V_drewN | apply Kd.V_drew)); exact Kd.V_mono HO184.out (fun _ hk => ⟨⟨hk.2.1, hk.2.2⟩, hk.1⟩)) hg hat); have n3_ := Aside0.mk (hb); have n4_ := Aside0.mk (ho); clear HO_7; clear BK181; clear HO184; clear HB; clear HO_3; have HO_7 := n0_; have BK181 := n1_; have HO184 := n2_; have HB := n3_; have HO187 := n4_; clear n0_ n1_ n2_ n3_ n4_; clear ho hb hg hat))
       go_roundg k1
       case measure => have := HK1.out; omega
       case rel => exact ⟨(y185), (wrap64 (x9_1 + 1)), sA, H', ⟨by have := HK1.out; omega⟩, ⟨kR HO187⟩, ⟨by (with_reducible repeat (first | apply Kd.R_alloc | apply Kd.R_drewN | apply Kd.R_drew)); exact Kd.R_mono HO_7.out (fun _ hk => trivial)⟩, ⟨bG⟩⟩
      ·rw [if_neg c9] at H
       exact absurd H (by simp)
     ·rw [if_neg c7] at H
      exact absurd H (by simp)
    ·rw [if_neg c6] at H
     exact absurd H (by simp)
   ·rw [if_neg c5] at H
    have c5b0 : decide (x9_1 < (t177.length : Int)) = false := decide_eq_false c5
    clear c5
    obtain rfl := Option.some.inj H
    go_wp2
    go_ret
    exact ⟨_, eW, kR HO_3, bA⟩

/-! ### runes_first: function 84 -/
mutual
def runes_first.j0 : Nat → List Int → Int → Int → Option (Int × Int)
 | 0, _, _, _ => none
 | k + 1, x0, x4, x5 => if x4 = 0 then (runes_first.j1 k x0 x4 x5 true) else (runes_first.j1 k x0 x4 x5 (decide ((x0.length : Int) < x4)))
def runes_first.j1 : Nat → List Int → Int → Int → Bool → Option (Int × Int)
 | 0, _, _, _, _ => none
 | k + 1, x0, x4, x5, x45 => if x45 = true then (some (65533, 1)) else (if 1 ≤ x4 then (if x4 ≤ (x0.length : Int) then ((some ((x0.take (x4 : Int).toNat).drop 1 : List Int)).bind fun y189 => (runes_first.l0 k x4 x5 y189 (y189.length : Int) 0)) else (none)) else (none))
def runes_first.l0 : Nat → Int → Int → List Int → Int → Int → Option (Int × Int)
 | 0, _, _, _, _, _ => none
 | k + 1, x4, x5, x48, x49, x50 => if x50 < x49 then (if 0 ≤ x50 then (if x50 < (x48.length : Int) then (if (Go.bits .and .u8 (rd x48 x50) 192) = 128 then (runes_first.l0 k x4 (Go.bits .or .i32 (wrap32 (x5 * 64)) (wrap32 (Go.bits .and .u8 (rd x48 x50) 63))) x48 x49 (wrap64 (x50 + 1))) else (some (65533, 1))) else (none)) else (none)) else ((runes_Valid.f x5).bind fun t194 => (if t194 = true then ((runes_size.f x5).bind fun t195 => (if t195 = x4 then (some (x5, x4)) else (some (65533, 1)))) else (some (65533, 1))))
end
def runes_first.f (k : Nat) (l0 : List Int) : Option (Int × Int) := if 0 < (l0.length : Int) then (if (rd l0 0) < 128 then (some (wrap32 (rd l0 0), 1)) else (if (Go.bits .and .u8 (rd l0 0) 224) = 192 then (runes_first.j0 k l0 2 (wrap32 (Go.bits .and .u8 (rd l0 0) 31))) else (if (Go.bits .and .u8 (rd l0 0) 240) = 224 then (runes_first.j0 k l0 3 (wrap32 (Go.bits .and .u8 (rd l0 0) 15))) else (if (Go.bits .and .u8 (rd l0 0) 248) = 240 then (runes_first.j0 k l0 4 (wrap32 (Go.bits .and .u8 (rd l0 0) 7))) else (runes_first.j0 k l0 0 0))))) else (none)
theorem runes_first.mono_l : ∀ k, (∀ y0 y1 y2, LeO (runes_first.j0 k y0 y1 y2) (runes_first.j0 (k + 1) y0 y1 y2)) ∧ (∀ y0 y1 y2 y3, LeO (runes_first.j1 k y0 y1 y2 y3) (runes_first.j1 (k + 1) y0 y1 y2 y3)) ∧ (∀ y0 y1 y2 y3 y4, LeO (runes_first.l0 k y0 y1 y2 y3 y4) (runes_first.l0 (k + 1) y0 y1 y2 y3 y4))
 | 0 => ⟨fun _ _ _ r h => by simp [runes_first.j0] at h, fun _ _ _ _ r h => by simp [runes_first.j1] at h, fun _ _ _ _ _ r h => by simp [runes_first.l0] at h⟩
 | k + 1 => by
  obtain ⟨ih0, ih1, ih2⟩ := runes_first.mono_l k
  refine ⟨?_, ?_, ?_⟩
  ·intro y0 y1 y2
   unfold runes_first.j0
   repeat' first
   | (with_reducible exact ih0 _ _ _)
   | (with_reducible exact ih1 _ _ _ _)
   | (with_reducible exact ih2 _ _ _ _ _)
   | (with_reducible exact LeO.refl _)
   | (with_reducible exact LeO.none _)
   | (with_reducible refine LeO.ite ?_ ?_)
   | (with_reducible refine LeO.bind ?_ (fun _ => ?_))
  ·intro y0 y1 y2 y3
   unfold runes_first.j1
   repeat' first
   | (with_reducible exact ih0 _ _ _)
   | (with_reducible exact ih1 _ _ _ _)
   | (with_reducible exact ih2 _ _ _ _ _)
   | (with_reducible exact LeO.refl _)
   | (with_reducible exact LeO.none _)
   | (with_reducible refine LeO.ite ?_ ?_)
   | (with_reducible refine LeO.bind ?_ (fun _ => ?_))
  ·intro y0 y1 y2 y3 y4
   unfold runes_first.l0
   repeat' first
   | (with_reducible exact ih0 _ _ _)
   | (with_reducible exact ih1 _ _ _ _)
   | (with_reducible exact ih2 _ _ _ _ _)
   | (with_reducible exact LeO.refl _)
   | (with_reducible exact LeO.none _)
   | (with_reducible refine LeO.ite ?_ ?_)
   | (with_reducible refine LeO.bind ?_ (fun _ => ?_))
theorem runes_first.mono : ∀ a0 k, LeO (runes_first.f k a0) (runes_first.f (k + 1) a0) := by
 intro a0 k
 obtain ⟨ih0, ih1, ih2⟩ := runes_first.mono_l k
 unfold runes_first.f
 repeat' first
   | (with_reducible exact ih0 _ _ _)
   | (with_reducible exact ih1 _ _ _ _)
   | (with_reducible exact ih2 _ _ _ _ _)
   | (with_reducible exact LeO.refl _)
   | (with_reducible exact LeO.none _)
   | (with_reducible refine LeO.ite ?_ ?_)
   | (with_reducible refine LeO.bind ?_ (fun _ => ?_))
theorem runes_first.calls (k : Nat) (A0 : Option Addr) (c0 : Nat) (l0 : List Int) (r1 : Int) (r2 : Int) (w : World) (hr0 : Kd.C (Kd.int .u8) w A0 l0.length l0) (hc0 : l0.length ≤ c0) (h : runes_first.f k l0 = some (r1, r2)) :
  Calls Tryd.prog 84 #[.slice A0 l0.length c0] w fun e w' => e = .returned (.tuple #[.int .i32 r1, .int .i64 r2]) ∧ Drawn0 w w' := by
 have HR0 := Aside0.mk hr0
 have HC0 := Aside0.mk hc0
 clear hr0 hc0
 have H : (if 0 < (l0.length : Int) then (if (rd l0 0) < 128 then (some (wrap32 (rd l0 0), 1)) else (if (Go.bits .and .u8 (rd l0 0) 224) = 192 then (runes_first.j0 k l0 2 (wrap32 (Go.bits .and .u8 (rd l0 0) 31))) else (if (Go.bits .and .u8 (rd l0 0) 240) = 224 then (runes_first.j0 k l0 3 (wrap32 (Go.bits .and .u8 (rd l0 0) 15))) else (if (Go.bits .and .u8 (rd l0 0) 248) = 240 then (runes_first.j0 k l0 4 (wrap32 (Go.bits .and .u8 (rd l0 0) 7))) else (runes_first.j0 k l0 0 0))))) else (none)) = some (r1, r2) := h
 clear h
 by_cases c2 : 0 < (l0.length : Int)
 ·rw [if_pos c2] at H
  have c2b0 : decide (0 < (l0.length : Int)) = true := decide_eq_true c2
  have c2b1 : decide (0 < l0.length) = true := decide_eq_true (by omega)
  clear c2
  have HC3 := Aside0.mk H
  clear H
  have p188 : 0 ≤ (0 : Int) := (by omega)
  have q188 : 0 < (l0.length : Int) := of_decide_eq_true asA
  obtain ⟨ad188, e188, hx188_0⟩ := Kd.at_int HR0.out 0 p188 q188
  cases e188
  have qi188 : (0 < l0.length) = True := eq_true (by omega)
  (try rw [show ((0 : Int)).toNat = 0 from rfl] at hx188_0)
  (try rw [Addr.add_zero'] at hx188_0)
  replace p188 := eq_true p188
  replace q188 := eq_true q188
  go_enter Tryd.func84, Tryd.ntmps84
  go_upto_block 0 with (fail)
  go_cut [4, 5] (fun v4 v5 wc => ∃ (kq : Nat) (x4_2 : Int) (x5_2 : Int), v4 = .int .i64 x4_2 ∧ v5 = .int .i32 x5_2 ∧ Aside0 (runes_first.j0 kq l0 x4_2 x5_2 = some (r1, r2)) ∧ Aside0 (kq ≤ k) ∧ Drawn0 w wc)
  case first =>
   have H := HC3.out
   clear HC3
   by_cases c4 : (rd l0 0) < 128
   ·rw [if_pos c4] at H
    have c4b0 : decide ((rd l0 0) < 128) = true := decide_eq_true c4
    clear c4
    (first | rw [c4b0] | (simp only [i64_w, i32_w]; rw [c4b0]) | skip)
    simp only [Option.some.injEq, Prod.mk.injEq] at H
    obtain ⟨rfl, rfl⟩ := H
    go_wp2
    go_ret2
    exact ⟨sA, by repeat (first | exact Drawn0.refl _ | apply Drawn0.step)⟩
   ·rw [if_neg c4] at H
    have c4b0 : decide ((rd l0 0) < 128) = false := decide_eq_false c4
    clear c4
    (first | rw [c4b0] | (simp only [i64_w, i32_w]; rw [c4b0]) | skip)
    by_cases c5 : (Go.bits .and .u8 (rd l0 0) 224) = 192
    ·rw [if_pos c5] at H
     have c5b0 : ((Go.bits .and .u8 (rd l0 0) 224) == 192) = true := beq_iff_eq.mpr c5
     have c5b1 : ((Go.bits .and .u8 (rd l0 0) 224) != 192) = false := bne_eq_false_iff_eq.mpr c5
     clear c5
     have H' := Aside0.mk H
     clear H
     go_wp2
     go_meet
     case rel => exact ⟨_, (2), (wrap32 (Go.bits .and .u8 (rd l0 0) 31)), sA, sA, H', ⟨by first | omega | exact Nat.le_refl _⟩, by repeat (first | exact Drawn0.refl _ | apply Drawn0.step)⟩
    ·rw [if_neg c5] at H
     have c5b0 : ((Go.bits .and .u8 (rd l0 0) 224) == 192) = false := beq_eq_false_iff_ne.mpr c5
     have c5b1 : ((Go.bits .and .u8 (rd l0 0) 224) != 192) = true := bne_iff_ne.mpr c5
     by_cases c6 : (Go.bits .and .u8 (rd l0 0) 240) = 224
     ·rw [if_pos c6] at H
      have c6b0 : ((Go.bits .and .u8 (rd l0 0) 240) == 224) = true := beq_iff_eq.mpr c6
      have c6b1 : ((Go.bits .and .u8 (rd l0 0) 240) != 224) = false := bne_eq_false_iff_eq.mpr c6
      clear c6
      have H' := Aside0.mk H
      clear H
      go_wp2
      go_meet
      case rel => exact ⟨_, (3), (wrap32 (Go.bits .and .u8 (rd l0 0) 15)), sA, sA, H', ⟨by first | omega | exact Nat.le_refl _⟩, by repeat (first | exact Drawn0.refl _ | apply Drawn0.step)⟩
     ·rw [if_neg c6] at H
      have c6b0 : ((Go.bits .and .u8 (rd l0 0) 240) == 224) = false := beq_eq_false_iff_ne.mpr c6
      have c6b1 : ((Go.bits .and .u8 (rd l0 0) 240) != 224) = true := bne_iff_ne.mpr c6
      by_cases c7 : (Go.bits .and .u8 (rd l0 0) 248) = 240
      ·rw [if_pos c7] at H
       have c7b0 : ((Go.bits .and .u8 (rd l0 0) 248) == 240) = true := beq_iff_eq.mpr c7
       have c7b1 : ((Go.bits .and .u8 (rd l0 0) 248) != 240) = false := bne_eq_false_iff_eq.mpr c7
       clear c7
       have H' := Aside0.mk H
       clear H
       go_wp2
       go_meet
       case rel => exact ⟨_, (4), (wrap32 (Go.bits .and .u8 (rd l0 0) 7)), sA, sA, H', ⟨by first | omega | exact Nat.le_refl _⟩, by repeat (first | exact Drawn0.refl _ | apply Drawn0.step)⟩
      ·rw [if_neg c7] at H
       have c7b0 : ((Go.bits .and .u8 (rd l0 0) 248) == 240) = false := beq_eq_false_iff_ne.mpr c7
       have c7b1 : ((Go.bits .and .u8 (rd l0 0) 248) != 240) = true := bne_iff_ne.mpr c7
       have H' := Aside0.mk H
       clear H
       go_wp2
       go_meet
       case rel => exact ⟨_, (0), (0), sA, sA, H', ⟨by first | omega | exact Nat.le_refl _⟩, by repeat (first | exact Drawn0.refl _ | apply Drawn0.step)⟩
  case rest =>
   clear HC3
   try clear p1
   try clear q1
   try clear hx1
   try clear qi1
   try clear c2
   try clear c2b0
   try clear c2b1
   try clear p2
   try clear p3
   try clear c4
   try clear c4b0
   try clear c5
   try clear c5b0
   try clear c5b1
   try clear c6
   try clear c6b0
   try clear c6b1
   try clear c7
   try clear c7b0
   try clear c7b1
   try clear hx188_0
   try clear p188
   try clear q188
   obtain ⟨kq, x4_2, x5_2, rfl, rfl, HA, HJ2, ⟨mc2, rfl⟩⟩ := hcut
   cases kq with
   | zero => exact absurd HA.out (by simp [runes_first.j0])
   | succ kj2 =>
    have H := HA.out
    clear HA
    simp only [runes_first.j0] at H
    have HC8 := Aside0.mk H
    clear H
    go_upto_region 11 with (fail)
    go_cut [45] (fun v45 wc => ∃ (kq : Nat) (x45_7 : Bool), v45 = .bool x45_7 ∧ Aside0 (runes_first.j1 kq l0 x4_2 x5_2 x45_7 = some (r1, r2)) ∧ Aside0 (kq ≤ kj2) ∧ Drawn0 w wc)
    case first =>
     have H := HC8.out
     clear HC8
     by_cases c9 : x4_2 = 0
     ·rw [if_pos c9] at H
      have c9b0 : (x4_2 == 0) = true := beq_iff_eq.mpr c9
      have c9b1 : (x4_2 != 0) = false := bne_eq_false_iff_eq.mpr c9
      clear c9
      (first | rw [c9b0] | (simp only [i64_w, i32_w]; rw [c9b0]) | skip)
      have H' := Aside0.mk H
      clear H
      go_wp2
      go_meet
      case rel => exact ⟨_, (true), sA, H', ⟨by have := HJ2.out; first | omega | exact Nat.le_refl _⟩, by repeat (first | exact Drawn0.refl _ | apply Drawn0.step)⟩
     ·rw [if_neg c9] at H
      have c9b0 : (x4_2 == 0) = false := beq_eq_false_iff_ne.mpr c9
      have c9b1 : (x4_2 != 0) = true := bne_iff_ne.mpr c9
      (first | rw [c9b0] | (simp only [i64_w, i32_w]; rw [c9b0]) | skip)
      have H' := Aside0.mk H
      clear H
      go_wp2
      go_meet
      case rel => exact ⟨_, (decide ((l0.length : Int) < x4_2)), sA, H', ⟨by have := HJ2.out; first | omega | exact Nat.le_refl _⟩, by repeat (first | exact Drawn0.refl _ | apply Drawn0.step)⟩
    case rest =>
     clear HC8
     try clear p1
     try clear q1
     try clear hx1
     try clear qi1
     try clear c2
     try clear c2b0
     try clear c2b1
     try clear p2
     try clear p3
     try clear c4
     try clear c4b0
     try clear c5
     try clear c5b0
     try clear c5b1
     try clear c6
     try clear c6b0
     try clear c6b1
     try clear c7
     try clear c7b0
     try clear c7b1
     try clear c8
     try clear c9
     try clear c9b0
     try clear c9b1
     try clear hx188_0
     try clear p1
     try clear p188
     try clear p2
     try clear p3
     try clear q1
     try clear q188
     obtain ⟨kq, x45_7, rfl, HA, HJ7, ⟨mc7, rfl⟩⟩ := hcut
     cases kq with
     | zero => exact absurd HA.out (by simp [runes_first.j1])
     | succ kj7 =>
      have H := HA.out
      clear HA
      simp only [runes_first.j1] at H
      by_cases c10 : x45_7 = true
      ·subst c10
       have H1 : (some (65533, 1)) = some (r1, r2) := by rw [if_pos rfl] at H; exact H
       clear H
       have H := H1
       clear H1
       simp only [Option.some.injEq, Prod.mk.injEq] at H
       obtain ⟨rfl, rfl⟩ := H
       go_wp2
       go_ret2
       exact ⟨sA, by repeat (first | exact Drawn0.refl _ | apply Drawn0.step)⟩
      ·replace c10 := Bool.eq_false_iff.mpr c10
       subst c10
       have H1 : (if 1 ≤ x4_2 then (if x4_2 ≤ (l0.length : Int) then ((some ((l0.take (x4_2 : Int).toNat).drop 1 : List Int)).bind fun y189 => (runes_first.l0 kj7 x4_2 x5_2 y189 (y189.length : Int) 0)) else (none)) else (none)) = some (r1, r2) := by rw [if_neg (show ¬ (false = true) by decide)] at H; exact H
       clear H
       have H := H1
       clear H1
       by_cases c11 : 1 ≤ x4_2
       ·rw [if_pos c11] at H
        have c11b0 := eq_true c11
        have c11b1 : decide (1 ≤ x4_2) = true := decide_eq_true c11
        clear c11
        by_cases c12 : x4_2 ≤ (l0.length : Int)
        ·rw [if_pos c12] at H
         have c12b0 := eq_true c12
         have c12b1 : decide (x4_2 ≤ (l0.length : Int)) = true := decide_eq_true c12
         clear c12
         obtain ⟨y189, hy189⟩ : ∃ y_ : List Int, y_ = ((l0.take (x4_2 : Int).toNat).drop 1) := ⟨_, rfl⟩
         replace H : (runes_first.l0 kj7 x4_2 x5_2 y189 (y189.length : Int) 0) = some (r1, r2) := hyA hy189 H
         have Ny189 := Aside0.mk hy189
         clear hy189
         have H' := Aside0.mk H
         clear H
         have q13 : (x4_2 : Int) ≤ ((l0.length : Int) : Int) := of_decide_eq_true asA
         obtain ⟨i013, hi013, _, hsz13, _⟩ := info_parts info5
         have hroom13 : l0.length ≤ c0 := HC0.out
         have hC13 : Kd.C (Kd.int .u8) _ (some ad188) l0.length l0 := HR0.out
         have ql13 : (1 : Int) ≤ (x4_2 : Int) := of_decide_eq_true asA
         have hcut13 := cut_mid (P := Tryd.prog) 25 5 .i64 .i64 Tryd.underlying25 hi013 1 hsz13 (some ad188) l0.length c0 1 x4_2 (by omega) ql13 q13 hroom13
         have hr13 := Kd.C_mid (lo := (1 : Int).toNat) (hi := (x4_2 : Int).toNat) (c := c0) hC13 (by omega) (by omega) hroom13
         obtain ⟨A13, hA13⟩ : ∃ A1, A1 = (if c0 = (1 : Int).toNat then (some ad188) else ((some ad188) : Option Addr).map (·.add ((1 : Int).toNat * 1))) := ⟨_, rfl⟩
         obtain ⟨c13, hc13⟩ : ∃ c1, c1 = c0 - (1 : Int).toNat := ⟨_, rfl⟩
         have hy13 : y189.length = (x4_2 : Int).toNat - (1 : Int).toNat := (by rw [Ny189.out, List.length_drop, List.length_take] <;> omega)
         rw [show ((l0).take (x4_2 : Int).toNat).drop (1 : Int).toNat = y189 from Ny189.out.symm] at hr13
         replace hr13 : Kd.C (Kd.int .u8) _ A13 y189.length y189 := (by rw [hA13]; exact hr13)
         rw [← hy13, ← hA13, ← hc13] at hcut13
         have HR192 := Aside0.mk hr13
         have HC192 := Aside0.mk (show y189.length ≤ c13 from by rw [hy13, hc13]; exact Nat.sub_le_sub_right (Nat.le_trans (by omega) hroom13) _)
         clear hr13 hC13 hroom13 hi013 hsz13 hc13
         have KY13 := Aside0.mk hy13
         have KA13 := Aside0.mk hA13
         clear hy13 hA13
         replace q13 := eq_true q13
         go_wp2
         go_loopg [5, 50] kj7 (fun kq v5 v50 w' => ∃ (x5_3 : Int) (x50_3 : Int), v5 = .int .i32 x5_3 ∧ v50 = .int .i64 x50_3 ∧ Aside0 (runes_first.l0 kq x4_2 x5_3 y189 (y189.length : Int) x50_3 = some (r1, r2)) ∧ Aside0 (kq ≤ kj7) ∧ Drawn0 w w')
         case atStart => exact ⟨(x5_2), (0), sA, sA, H', ⟨Nat.le_refl _⟩, by repeat (first | exact Drawn0.refl _ | apply Drawn0.step)⟩
         case round =>
          clear H'
          try clear c1
          try clear p1
          try clear q1
          try clear hx1
          try clear qi1
          try clear c2
          try clear c2b0
          try clear c2b1
          try clear p2
          try clear p3
          try clear c4
          try clear c4b0
          try clear c5
          try clear c5b0
          try clear c5b1
          try clear c6
          try clear c6b0
          try clear c6b1
          try clear c7
          try clear c7b0
          try clear c7b1
          try clear c8
          try clear c9
          try clear c9b0
          try clear c9b1
          try clear c10
          try clear c11
          try clear c11b0
          try clear c11b1
          try clear c12
          try clear c12b0
          try clear c12b1
          try clear c13
          try clear q13
          try clear hx188_0
          try clear p1
          try clear p188
          try clear p2
          try clear p3
          try clear q1
          try clear q13
          try clear q188
          obtain ⟨x5_3, x50_3, rfl, rfl, HA, HK3, ⟨m3, rfl⟩⟩ := hrel
          cases gk with
          | zero => exact absurd HA.out (by simp [runes_first.l0])
          | succ k3 =>
           have H := HA.out
           clear HA
           simp only [runes_first.l0] at H
           by_cases c14 : x50_3 < (y189.length : Int)
           ·rw [if_pos c14] at H
            have c14b0 : decide (x50_3 < (y189.length : Int)) = true := decide_eq_true c14
            clear c14
            by_cases c15 : 0 ≤ x50_3
            ·rw [if_pos c15] at H
             have c15b0 : decide (0 ≤ x50_3) = true := decide_eq_true c15
             clear c15
             by_cases c16 : x50_3 < (y189.length : Int)
             ·rw [if_pos c16] at H
              have c16b0 : decide (x50_3 < (y189.length : Int)) = true := decide_eq_true c16
              clear c16
              by_cases c17 : (Go.bits .and .u8 (rd y189 x50_3) 192) = 128
              ·rw [if_pos c17] at H
               have c17b0 : ((Go.bits .and .u8 (rd y189 x50_3) 192) == 128) = true := beq_iff_eq.mpr c17
               have c17b1 : ((Go.bits .and .u8 (rd y189 x50_3) 192) != 128) = false := bne_eq_false_iff_eq.mpr c17
               clear c17
               have H' := Aside0.mk H
               clear H
               have p193 : 0 ≤ (x50_3 : Int) := of_decide_eq_true asA
               have q193 : x50_3 < (y189.length : Int) := of_decide_eq_true asA
               obtain ⟨ad193, e193, hx193_0⟩ := Kd.at_int HR192.out x50_3 p193 q193
               cases e193
               replace p193 := eq_true p193
               replace q193 := eq_true q193
               go_wp2
               go_roundg k3
               case measure => have := HJ2.out; have := HJ7.out; have := HK3.out; omega
               case rel => exact ⟨(Go.bits .or .i32 (wrap32 (x5_3 * 64)) (wrap32 (Go.bits .and .u8 (rd y189 x50_3) 63))), (wrap64 (x50_3 + 1)), sA, sA, H', ⟨by have := HJ2.out; have := HJ7.out; have := HK3.out; omega⟩, by repeat (first | exact Drawn0.refl _ | apply Drawn0.step)⟩
              ·rw [if_neg c17] at H
               have c17b0 : ((Go.bits .and .u8 (rd y189 x50_3) 192) == 128) = false := beq_eq_false_iff_ne.mpr c17
               have c17b1 : ((Go.bits .and .u8 (rd y189 x50_3) 192) != 128) = true := bne_iff_ne.mpr c17
               simp only [Option.some.injEq, Prod.mk.injEq] at H
               obtain ⟨rfl, rfl⟩ := H
               have p193 : 0 ≤ (x50_3 : Int) := of_decide_eq_true asA
               have q193 : x50_3 < (y189.length : Int) := of_decide_eq_true asA
               obtain ⟨ad193, e193, hx193_0⟩ := Kd.at_int HR192.out x50_3 p193 q193
               cases e193
               replace p193 := eq_true p193
               replace q193 := eq_true q193
               go_wp2
               go_ret2
               exact ⟨sA, by repeat (first | exact Drawn0.refl _ | apply Drawn0.step)⟩
             ·rw [if_neg c16] at H
              exact absurd H (by simp)
            ·rw [if_neg c15] at H
             exact absurd H (by simp)
           ·rw [if_neg c14] at H
            have c14b0 : decide (x50_3 < (y189.length : Int)) = false := decide_eq_false c14
            clear c14
            replace H := Option.bind_eq_some_iff.mp H
            obtain ⟨t194, A180, H⟩ := H
            replace H : (if t194 = true then ((runes_size.f x5_3).bind fun t195 => (if t195 = x4_2 then (some (x5_3, x4_2)) else (some (65533, 1)))) else (some (65533, 1))) = some (r1, r2) := H
            have A18 := Aside0.mk A180
            clear A180
            by_cases c19 : t194 = true
            ·subst c19
             have H1 : ((runes_size.f x5_3).bind fun t195 => (if t195 = x4_2 then (some (x5_3, x4_2)) else (some (65533, 1)))) = some (r1, r2) := by rw [if_pos rfl] at H; exact H
             clear H
             have H := H1
             clear H1
             replace H := Option.bind_eq_some_iff.mp H
             obtain ⟨t195, A200, H⟩ := H
             replace H : (if t195 = x4_2 then (some (x5_3, x4_2)) else (some (65533, 1))) = some (r1, r2) := H
             have A20 := Aside0.mk A200
             clear A200
             by_cases c21 : t195 = x4_2
             ·rw [if_pos c21] at H
              have c21b0 : (t195 == x4_2) = true := beq_iff_eq.mpr c21
              have c21b1 : (t195 != x4_2) = false := bne_eq_false_iff_eq.mpr c21
              clear c21
              simp only [Option.some.injEq, Prod.mk.injEq] at H
              obtain ⟨rfl, rfl⟩ := H
              go_wp2_with (first | ((with_reducible refine gate_callee (f := 60) rfl ?_); refine goesL_ (some 65) rfl rfl Tryd.func60 (by kernel_rfl) rfl #[.int .i32 x5_3] rfl aP ?_; (with_reducible refine (runes_Valid.calls x5_3 true _ A18.out).mono ?_); rintro e w' ⟨rfl, ⟨nd, rfl⟩⟩; refine ⟨_, rfl, ?_⟩) | (go_at_call 76; (with_reducible refine (runes_size.calls x5_3 t195 _ A20.out).mono ?_); rintro e w' ⟨rfl, ⟨nd, rfl⟩⟩))
              go_ret2
              exact ⟨sA, by repeat (first | exact Drawn0.refl _ | apply Drawn0.step)⟩
             ·rw [if_neg c21] at H
              have c21b0 : (t195 == x4_2) = false := beq_eq_false_iff_ne.mpr c21
              have c21b1 : (t195 != x4_2) = true := bne_iff_ne.mpr c21
              simp only [Option.some.injEq, Prod.mk.injEq] at H
              obtain ⟨rfl, rfl⟩ := H
              go_wp2_with (first | ((with_reducible refine gate_callee (f := 60) rfl ?_); refine goesL_ (some 65) rfl rfl Tryd.func60 (by kernel_rfl) rfl #[.int .i32 x5_3] rfl aP ?_; (with_reducible refine (runes_Valid.calls x5_3 true _ A18.out).mono ?_); rintro e w' ⟨rfl, ⟨nd, rfl⟩⟩; refine ⟨_, rfl, ?_⟩) | (go_at_call 76; (with_reducible refine (runes_size.calls x5_3 t195 _ A20.out).mono ?_); rintro e w' ⟨rfl, ⟨nd, rfl⟩⟩))
              go_ret2
              exact ⟨sA, by repeat (first | exact Drawn0.refl _ | apply Drawn0.step)⟩
            ·replace c19 := Bool.eq_false_iff.mpr c19
             subst c19
             have H1 : (some (65533, 1)) = some (r1, r2) := by rw [if_neg (show ¬ (false = true) by decide)] at H; exact H
             clear H
             have H := H1
             clear H1
             simp only [Option.some.injEq, Prod.mk.injEq] at H
             obtain ⟨rfl, rfl⟩ := H
             go_wp2_with (first | ((with_reducible refine gate_callee (f := 60) rfl ?_); refine goesL_ (some 65) rfl rfl Tryd.func60 (by kernel_rfl) rfl #[.int .i32 x5_3] rfl aP ?_; (with_reducible refine (runes_Valid.calls x5_3 false _ A18.out).mono ?_); rintro e w' ⟨rfl, ⟨nd, rfl⟩⟩; refine ⟨_, rfl, ?_⟩))
             go_ret2
             exact ⟨sA, by repeat (first | exact Drawn0.refl _ | apply Drawn0.step)⟩
        ·rw [if_neg c12] at H
         exact absurd H (by simp)
       ·rw [if_neg c11] at H
        exact absurd H (by simp)
 ·rw [if_neg c2] at H
  exact absurd H (by simp)

/-! ### runes_Decode: function 68 -/
def runes_Decode.l0 : Nat → List Int → List Int → Option (List Int)
 | 0, _, _ => none
 | k + 1, x0, x3 => if (x0.length : Int) > 0 then ((runes_first.f k x0).bind fun bt196 => (if x3.length < 35184372088832 then (if 0 ≤ bt196.2 then (if bt196.2 ≤ (x0.length : Int) then (runes_Decode.l0 k (x0.drop (bt196.2 : Int).toNat) (x3 ++ [bt196.1])) else (none)) else (none)) else (none))) else (some x3)
def runes_Decode.f (k : Nat) (l0 : List Int) : Option (List Int) := runes_Decode.l0 k l0 ([] : List Int)
theorem runes_Decode.mono_l : ∀ k, (∀ y0 y1, LeO (runes_Decode.l0 k y0 y1) (runes_Decode.l0 (k + 1) y0 y1))
 | 0 => fun _ _ r h => by simp [runes_Decode.l0] at h
 | k + 1 => by
  have ih0 := runes_Decode.mono_l k
  ·intro y0 y1
   unfold runes_Decode.l0
   repeat' first
   | (with_reducible exact ih0 _ _)
   | (with_reducible exact runes_first.mono _ _)
   | (with_reducible exact LeO.refl _)
   | (with_reducible exact LeO.none _)
   | (with_reducible refine LeO.ite ?_ ?_)
   | (with_reducible refine LeO.bind ?_ (fun _ => ?_))
theorem runes_Decode.mono : ∀ a0 k, LeO (runes_Decode.f k a0) (runes_Decode.f (k + 1) a0) := by
 intro a0 k
 have ih0 := runes_Decode.mono_l k
 unfold runes_Decode.f
 repeat' first
   | (with_reducible exact ih0 _ _)
   | (with_reducible exact runes_first.mono _ _)
   | (with_reducible exact LeO.refl _)
   | (with_reducible exact LeO.none _)
   | (with_reducible refine LeO.ite ?_ ?_)
   | (with_reducible refine LeO.bind ?_ (fun _ => ?_))
theorem runes_Decode.calls (k : Nat) (P0_ : Nat → Prop) (A0 : Option Addr) (c0 : Nat) (l0 : List Int) (r : List Int) (w : World) (hs0 : Kd.V (Kd.int .u8) 5 w w.heap.size (fun k_ => P0_ k_) (.slice A0 l0.length c0) l0) (h : runes_Decode.f k l0 = some r) :
  Calls Tryd.prog 68 #[.slice A0 l0.length c0] w fun e w' => ∃ v0_ : Value, e = .returned (v0_) ∧ Kd.R (Kd.int .i32) 21 w' w.heap.size (fun k_ => (w.heap.size ≤ k_)) v0_ r ∧ Below w.heap.size w w' := by
 have HO0 := Aside0.mk (show Kd.V (Kd.int .u8) 5 w w.heap.size (fun k_ => (P0_ k_ ∨ w.heap.size ≤ k_)) (.slice A0 l0.length c0) l0 from Kd.V_mono hs0 (fun k_ hk => .inl hk))
 have HB := Aside0.mk (Below.refl w.heap.size w)
 have H : (runes_Decode.l0 k l0 ([] : List Int)) = some r := h
 clear h
 have H' := Aside0.mk H
 clear H
 go_enter Tryd.func68, Tryd.ntmps68
 go_wp2
 go_loopg [0, 3] k (fun kq v0 v3 w' => ∃ (x0_1 : List Int) (x3_1 : List Int), Aside0 (runes_Decode.l0 kq x0_1 x3_1 = some r) ∧ Aside0 (kq ≤ k) ∧ Aside0 (Kd.V (Kd.int .u8) 5 w' w.heap.size (fun k_ => (P0_ k_ ∨ w.heap.size ≤ k_) ∧ some k_ ≠ (v3 : Value).ownBlock) v0 x0_1) ∧ Aside0 (Kd.R (Kd.int .i32) 21 w' w.heap.size (fun k_ => (w.heap.size ≤ k_)) v3 x3_1) ∧ Aside0 (Below w.heap.size w w'))
 case atStart => exact ⟨(l0), (([] : List Int)), H', ⟨Nat.le_refl _⟩, ⟨by (with_reducible repeat (first | apply Kd.V_alloc | apply Kd.V_drewN | apply Kd.V_drew)); exact Kd.V_mono HO0.out (fun _ hk => ⟨hk, (by simp [Value.ownBlock])⟩)⟩, ⟨by first | exact Kd.R_nil _ _ _ _ _ | exact Kd.N_nil _ _ _ _ _ | exact Kd.V_nil _ _ _ _ _ | exact Kd.Q_nil _ _ _ _ _ | exact Kd.S_nil _ _ _ _ _⟩, ⟨bA⟩⟩
 case round =>
  clear H'
  obtain ⟨x0_1, x3_1, HA, HK1, HO_0, HO_3, HB⟩ := hrel
  cases gk with
  | zero => exact absurd HA.out (by simp [runes_Decode.l0])
  | succ k1 =>
   have H := HA.out
   clear HA
   simp only [runes_Decode.l0] at H
   by_cases c2 : (x0_1.length : Int) > 0
   ·rw [if_pos c2] at H
    have c2b0 : decide (0 < (x0_1.length : Int)) = true := decide_eq_true c2
    have c2b1 : decide (0 < x0_1.length) = true := decide_eq_true (by omega)
    clear c2
    replace H := Option.bind_eq_some_iff.mp H
    obtain ⟨⟨t196, t197⟩, A30, H⟩ := H
    replace H : (if x3_1.length < 35184372088832 then (if 0 ≤ t197 then (if t197 ≤ (x0_1.length : Int) then (runes_Decode.l0 k1 (x0_1.drop (t197 : Int).toNat) (x3_1 ++ [t196])) else (none)) else (none)) else (none)) = some r := H
    have A3 := Aside0.mk A30
    clear A30
    by_cases c4 : x3_1.length < 35184372088832
    ·rw [if_pos c4] at H
     have LMc4 := Aside0.mk c4
     clear c4
     obtain ⟨y198, hy198⟩ : ∃ y_ : List Int, y_ = (x3_1 ++ [t196]) := ⟨_, rfl⟩
     replace H : (if 0 ≤ t197 then (if t197 ≤ (x0_1.length : Int) then (runes_Decode.l0 k1 (x0_1.drop (t197 : Int).toNat) y198) else (none)) else (none)) = some r := hyA hy198 H
     have Ny198 := Aside0.mk hy198
     clear hy198
     by_cases c5 : 0 ≤ t197
     ·rw [if_pos c5] at H
      have c5b0 := eq_true c5
      have c5b1 : decide (0 ≤ t197) = true := decide_eq_true c5
      clear c5
      by_cases c6 : t197 ≤ (x0_1.length : Int)
      ·rw [if_pos c6] at H
       have c6b0 := eq_true c6
       have c6b1 : decide (t197 ≤ (x0_1.length : Int)) = true := decide_eq_true c6
       clear c6
       obtain ⟨y201, hy201⟩ : ∃ y_ : List Int, y_ = (x0_1.drop (t197 : Int).toNat) := ⟨_, rfl⟩
       replace H : (runes_Decode.l0 k1 y201 y198) = some r := hyA hy201 H
       have Ny201 := Aside0.mk hy201
       clear hy201
       have H' := Aside0.mk H
       clear H
       obtain ⟨Ao7, co7, eo7⟩ := Kd.V_slice HO_0.out
       subst eo7
       go_wp2_with (first | ((with_reducible refine gate_callee (f := 84) rfl ?_); refine goesL_ (some 11) rfl rfl Tryd.func84 (by kernel_rfl) rfl #[.slice Ao7 x0_1.length co7] rfl aP ?_; (with_reducible refine (runes_first.calls k1 _ _ x0_1 t196 t197 _ ?side1 ?side2 A3.out).mono ?_); (case side1 => repeat (first | exact (Kd.V_reads' HO_0.out).2.2 | (with_reducible refine Kd.C_alloc ?_ _) | (with_reducible refine Kd.C_drewN ?_ _) | (with_reducible refine Kd.C_drew ?_))); (case side2 => exact (Kd.V_reads' HO_0.out).2.1); rintro e w' ⟨rfl, ⟨nd, rfl⟩⟩; refine ⟨_, rfl, ?_⟩) | ((with_reducible refine gate_builtin (b := .append) (xs := #[.tmp 14, .tmp 16]) rfl ?_); at_builtin; refine Kd.R_append (Kd.int .i32) (w0 := w) w.heap.size rfl (.tmp 14) (.tmp 16) 77 21 (.int .i32 0) 4 rfl Tryd.underlying77 info21 rfl (by decide) (by omega) u3 x3_1 t196 [.int .i32 t196] (fun k_ => (w.heap.size ≤ k_)) (fun _ => False) rfl rfl ?aP (fun _ hk => hk.elim) ?aF ?aO ?aB ?aS ?aL ?_; (case aP => exact rfl); (case aB => exact bA); (case aF => exact (fun k_ hk => (Nat.le_trans (below_size bA) hk))); (case aO => exact (kR HO_3)); (case aS => exact (below_size bA)); (case aL => have := LMc4.out; omega); intro v199 w8 ho hb hg hat; rw [← Ny198.out] at ho; have n0_ := Aside0.mk (Kd.V_afterv (ok := (fun k_ => (P0_ k_ ∨ w.heap.size ≤ k_))) (kV HO_0) hg hat); have n1_ := Aside0.mk (hb); have n2_ := Aside0.mk (ho); clear HO_0; clear HB; clear HO_3; have HO_0 := n0_; have HB := n1_; have HO200 := n2_; clear n0_ n1_ n2_; clear ho hb hg hat; have q9 : (t197 : Int) ≤ ((x0_1.length : Int) : Int) := of_decide_eq_true asA; obtain ⟨i09, hi09, _, hsz9, _⟩ := info_parts info5; have hroom9 : x0_1.length ≤ co7 := (Kd.V_reads' HO_0.out).2.1; have hC9 : Kd.F (Kd.int .u8) _ _ Ao7 x0_1.length x0_1 := (Kd.V_at (base := w.heap.size) HO_0.out).2.2; have q09 : (0 : Int) ≤ (t197 : Int) := of_decide_eq_true asA; have hcut9 := cut_from (P := Tryd.prog) 25 5 .i64 Tryd.underlying25 hi09 1 hsz9 Ao7 x0_1.length co7 t197 q09 q9; have hr9 := Kd.F_cut (m := (t197 : Int).toNat) (c := co7) hC9 (by omega) hroom9; obtain ⟨A9, hA9⟩ : ∃ A1, A1 = (if co7 = (t197 : Int).toNat then Ao7 else (Ao7 : Option Addr).map (·.add ((t197 : Int).toNat * 1))) := ⟨_, rfl⟩; obtain ⟨c9, hc9⟩ : ∃ c1, c1 = co7 - (t197 : Int).toNat := ⟨_, rfl⟩; have hy9 : y201.length = x0_1.length - (t197 : Int).toNat := (by rw [Ny201.out, List.length_drop] <;> omega); rw [show (x0_1).drop (t197 : Int).toNat = y201 from Ny201.out.symm] at hr9; replace hr9 : Kd.F (Kd.int .u8) _ _ A9 y201.length y201 := (by rw [hA9]; exact hr9); rw [← hy9, ← hA9, ← hc9] at hcut9; have HO205 := Aside0.mk (show Kd.V (Kd.int .u8) 5 _ w.heap.size _ (.slice A9 y201.length c9) y201 from Kd.V_mk (by rw [hy9, hc9]; exact Nat.sub_le_sub_right hroom9 _) hr9); have HC205 := Aside0.mk (show y201.length ≤ c9 from by rw [hy9, hc9]; exact Nat.sub_le_sub_right hroom9 _); clear hr9 hC9 hroom9 hi09 hsz9 hc9; have KY9 := Aside0.mk hy9; have KA9 := Aside0.mk hA9; clear hy9 hA9; replace q9 := eq_true q9))
       go_roundg k1
       case measure => have := HK1.out; omega
       case rel => exact ⟨(y201), (y198), H', ⟨by have := HK1.out; omega⟩, ⟨kV HO205⟩, ⟨kR HO200⟩, ⟨bA⟩⟩
      ·rw [if_neg c6] at H
       exact absurd H (by simp)
     ·rw [if_neg c5] at H
      exact absurd H (by simp)
    ·rw [if_neg c4] at H
     exact absurd H (by simp)
   ·rw [if_neg c2] at H
    have c2b0 : decide (0 < (x0_1.length : Int)) = false := decide_eq_false c2
    have c2b1 : decide (0 < x0_1.length) = false := decide_eq_false (by omega)
    clear c2
    obtain rfl := Option.some.inj H
    obtain ⟨Ao10, co10, eo10⟩ := Kd.V_slice HO_0.out
    subst eo10
    go_wp2
    go_ret
    exact ⟨_, eW, kR HO_3, bA⟩

/-! ### over_first: function 45 -/
def over_first.f (k : Nat) (a0 : ByteArray) : Option (Int × Bool) := if a0.toList = ([] : List UInt8) then (some (0, false)) else (if 0 ≤ (mn (a0.size : Int) 4) then (if (mn (a0.size : Int) 4) ≤ (a0.size : Int) then ((conv_bytes.f (a0.extract 0 ((mn (a0.size : Int) 4) : Int).toNat)).bind fun t206 => ((runes_Decode.f k t206).bind fun t209 => (if 0 < (t209.length : Int) then ((strings_HasPrefix.f a0 (Go.Utf8.encode (rd t209 0))).bind fun t213 => (if t213 = true then ((runes_Control.f k (rd t209 0)).bind fun t214 => (some (rd t209 0, !t214))) else (some (rd t209 0, false)))) else (none)))) else (none)) else (none))
theorem over_first.mono : ∀ a0 k, LeO (over_first.f k a0) (over_first.f (k + 1) a0) := by
 intro a0 k
 unfold over_first.f
 repeat' first
   | (with_reducible exact runes_Control.mono _ _)
   | (with_reducible exact runes_Decode.mono _ _)
   | (with_reducible exact LeO.refl _)
   | (with_reducible exact LeO.none _)
   | (with_reducible refine LeO.ite ?_ ?_)
   | (with_reducible refine LeO.bind ?_ (fun _ => ?_))
theorem over_first.calls (k : Nat) (a0 : ByteArray) (r1 : Int) (r2 : Bool) (w : World) (h : over_first.f k a0 = some (r1, r2)) :
  Calls Tryd.prog 45 #[.string a0] w fun e w' => e = .returned (.tuple #[.int .i32 r1, .bool r2]) ∧ Below w.heap.size w w' := by
 have HB := Aside0.mk (Below.refl w.heap.size w)
 have H : (if a0.toList = ([] : List UInt8) then (some (0, false)) else (if 0 ≤ (mn (a0.size : Int) 4) then (if (mn (a0.size : Int) 4) ≤ (a0.size : Int) then ((conv_bytes.f (a0.extract 0 ((mn (a0.size : Int) 4) : Int).toNat)).bind fun t206 => ((runes_Decode.f k t206).bind fun t209 => (if 0 < (t209.length : Int) then ((strings_HasPrefix.f a0 (Go.Utf8.encode (rd t209 0))).bind fun t213 => (if t213 = true then ((runes_Control.f k (rd t209 0)).bind fun t214 => (some (rd t209 0, !t214))) else (some (rd t209 0, false)))) else (none)))) else (none)) else (none))) = some (r1, r2) := h
 clear h
 by_cases c2 : a0.toList = ([] : List UInt8)
 ·rw [if_pos c2] at H
  have c2b0 : (a0.toList == ([] : List UInt8)) = true := beq_iff_eq.mpr c2
  have c2b1 : (a0.toList != ([] : List UInt8)) = false := bne_eq_false_iff_eq.mpr c2
  clear c2
  simp only [Option.some.injEq, Prod.mk.injEq] at H
  obtain ⟨rfl, rfl⟩ := H
  go_enter Tryd.func45, Tryd.ntmps45
  go_wp2
  go_ret2
  exact ⟨eW, bA⟩
 ·rw [if_neg c2] at H
  have c2b0 : (a0.toList == ([] : List UInt8)) = false := beq_eq_false_iff_ne.mpr c2
  have c2b1 : (a0.toList != ([] : List UInt8)) = true := bne_iff_ne.mpr c2
  obtain ⟨ji3, hji3⟩ : ∃ j_ : Int, (mn (a0.size : Int) 4) = j_ := ⟨_, rfl⟩
  replace H : (if 0 ≤ (ji3) then (if (ji3) ≤ (a0.size : Int) then ((conv_bytes.f (a0.extract 0 ((ji3) : Int).toNat)).bind fun t206 => ((runes_Decode.f k t206).bind fun t209 => (if 0 < (t209.length : Int) then ((strings_HasPrefix.f a0 (Go.Utf8.encode (rd t209 0))).bind fun t213 => (if t213 = true then ((runes_Control.f k (rd t209 0)).bind fun t214 => (some (rd t209 0, !t214))) else (some (rd t209 0, false)))) else (none)))) else (none)) else (none)) = some (r1, r2) := by first | (rw [hji3] at H; exact H) | (simp only [hji3] at H ⊢; exact H)
  (try (have hji3h : ji3 ≤ 4 := by (rw [← hji3]; unfold mn; (repeat' split) <;> omega)))
  (try (have hji3g : ji3 ≤ 64 := by omega))
  (try (have hji3l : 0 ≤ ji3 := by (rw [← hji3]; unfold mn; (repeat' split) <;> omega)))
  (try (have hji3m : 0 ≤ ji3 := by omega))
  have hji3_ : (if 4 < (a0.size : Int) then 4 else (a0.size : Int)) = ji3 := hji3
  by_cases c4 : 0 ≤ (ji3)
  ·rw [if_pos c4] at H
   have c4b0 := eq_true c4
   have c4b1 : decide (0 ≤ (ji3)) = true := decide_eq_true c4
   clear c4
   by_cases c5 : (ji3) ≤ (a0.size : Int)
   ·rw [if_pos c5] at H
    have c5b0 := eq_true c5
    have c5b1 : decide ((ji3) ≤ (a0.size : Int)) = true := decide_eq_true c5
    clear c5
    replace H := Option.bind_eq_some_iff.mp H
    obtain ⟨t206, A60, H⟩ := H
    replace H : ((runes_Decode.f k t206).bind fun t209 => (if 0 < (t209.length : Int) then ((strings_HasPrefix.f a0 (Go.Utf8.encode (rd t209 0))).bind fun t213 => (if t213 = true then ((runes_Control.f k (rd t209 0)).bind fun t214 => (some (rd t209 0, !t214))) else (some (rd t209 0, false)))) else (none))) = some (r1, r2) := H
    have A6 := Aside0.mk A60
    clear A60
    replace H := Option.bind_eq_some_iff.mp H
    obtain ⟨t209, A70, H⟩ := H
    replace H : (if 0 < (t209.length : Int) then ((strings_HasPrefix.f a0 (Go.Utf8.encode (rd t209 0))).bind fun t213 => (if t213 = true then ((runes_Control.f k (rd t209 0)).bind fun t214 => (some (rd t209 0, !t214))) else (some (rd t209 0, false)))) else (none)) = some (r1, r2) := H
    have A7 := Aside0.mk A70
    clear A70
    by_cases c8 : 0 < (t209.length : Int)
    ·rw [if_pos c8] at H
     have c8b0 : decide (0 < (t209.length : Int)) = true := decide_eq_true c8
     have c8b1 : decide (0 < t209.length) = true := decide_eq_true (by omega)
     clear c8
     replace H := Option.bind_eq_some_iff.mp H
     obtain ⟨t213, A90, H⟩ := H
     replace H : (if t213 = true then ((runes_Control.f k (rd t209 0)).bind fun t214 => (some (rd t209 0, !t214))) else (some (rd t209 0, false))) = some (r1, r2) := H
     have A9 := Aside0.mk A90
     clear A90
     by_cases c10 : t213 = true
     ·subst c10
      have H1 : ((runes_Control.f k (rd t209 0)).bind fun t214 => (some (rd t209 0, !t214))) = some (r1, r2) := by rw [if_pos rfl] at H; exact H
      clear H
      have H := H1
      clear H1
      replace H := Option.bind_eq_some_iff.mp H
      obtain ⟨t214, A110, H⟩ := H
      replace H : (some (rd t209 0, !t214)) = some (r1, r2) := H
      have A11 := Aside0.mk A110
      clear A110
      simp only [Option.some.injEq, Prod.mk.injEq] at H
      obtain ⟨rfl, rfl⟩ := H
      go_enter Tryd.func45, Tryd.ntmps45
      go_wp2_with (first | ((with_reducible refine gate_convert (src := 9) (dst := 25) rfl ?_); refine convL_ _ rfl rfl (a0.extract 0 ((ji3) : Int).toNat) rfl rfl ?_; (with_reducible refine (conv_bytes.calls (a0.extract 0 ((ji3) : Int).toNat) t206 _ A6.out).mono ?_); rintro e w12 ⟨v207, rfl, ho0, hb⟩; refine ⟨_, rfl, ?_⟩; have HO208 := Aside0.mk (Kd.V_lower (Kd.V_mono (ok' := fun k_ => True) ho0 (fun k_ hk_ => trivial)) (below_size bA)); replace HB := Aside0.mk (below_step bA hb); (try clear hb); (try clear hb2); (try clear hk); (try clear hi); (try clear ho0); obtain ⟨Ao13, co13, eo13⟩ := Kd.V_slice HO208.out; subst eo13) | ((with_reducible refine gate_callee (f := 68) rfl ?_); refine goesL_ (some 14) rfl rfl Tryd.func68 (by kernel_rfl) rfl #[.slice Ao13 t206.length co13] rfl aP ?_; (with_reducible refine (runes_Decode.calls k (fun k_ => True) _ _ t206 t209 _ ?side1 A7.out).mono ?_); (case side1 => exact HO208.out); rintro e w14 ⟨v210, rfl, ho0, hb⟩; refine ⟨_, rfl, ?_⟩; replace HO208 := Aside0.mk (Kd.V_elder' (kV HO208) (Kd.R_base ho0) hb); have HO211 := Aside0.mk (Kd.R_lower (Kd.R_mono (ok' := fun k_ => True) ho0 (fun _ hk_ => trivial)) (below_size bA)); replace HB := Aside0.mk (below_step bA hb); (try clear hb); (try clear hb2); (try clear hk); (try clear hi); (try clear ho0); obtain ⟨Ao15, co15, eo15⟩ := Kd.R_slice HO211.out; subst eo15; have p212 : 0 ≤ (0 : Int) := (by omega); have q212 : 0 < (t209.length : Int) := of_decide_eq_true asA; obtain ⟨ad212, e212, hx212_0⟩ := Kd.at_int (Kd.R_reads' HO211.out).2.2 0 p212 q212; cases e212; have qi212 : (0 < t209.length) = True := eq_true (by omega); (try rw [show ((0 : Int)).toNat = 0 from rfl] at hx212_0); (try rw [Addr.add_zero'] at hx212_0); replace p212 := eq_true p212; replace q212 := eq_true q212) | ((with_reducible refine gate_callee (f := 48) rfl ?_); refine goesL_ (some 22) rfl rfl Tryd.func48 (by kernel_rfl) rfl #[.string a0, .string (Go.Utf8.encode (rd t209 0))] rfl aP ?_; (with_reducible refine (strings_HasPrefix.calls a0 (Go.Utf8.encode (rd t209 0)) true _ A9.out).mono ?_); rintro e w' ⟨rfl, ⟨nd, rfl⟩⟩; refine ⟨_, rfl, ?_⟩) | (go_at_call 61; (with_reducible refine (runes_Control.calls k (rd t209 0) t214 _ A11.out).mono ?_); rintro e w' ⟨rfl, ⟨nd, rfl⟩⟩))
      go_ret2
      exact ⟨by first | rfl | (simp [errW_none, errW_some] <;> rfl) | (simp only [← hji3]; first | rfl | (simp [errW_none, errW_some] <;> rfl)) | (simp [*, errW_none, errW_some] <;> rfl), bA⟩
     ·replace c10 := Bool.eq_false_iff.mpr c10
      subst c10
      have H1 : (some (rd t209 0, false)) = some (r1, r2) := by rw [if_neg (show ¬ (false = true) by decide)] at H; exact H
      clear H
      have H := H1
      clear H1
      simp only [Option.some.injEq, Prod.mk.injEq] at H
      obtain ⟨rfl, rfl⟩ := H
      go_enter Tryd.func45, Tryd.ntmps45
      go_wp2_with (first | ((with_reducible refine gate_convert (src := 9) (dst := 25) rfl ?_); refine convL_ _ rfl rfl (a0.extract 0 ((ji3) : Int).toNat) rfl rfl ?_; (with_reducible refine (conv_bytes.calls (a0.extract 0 ((ji3) : Int).toNat) t206 _ A6.out).mono ?_); rintro e w16 ⟨v207, rfl, ho0, hb⟩; refine ⟨_, rfl, ?_⟩; have HO208 := Aside0.mk (Kd.V_lower (Kd.V_mono (ok' := fun k_ => True) ho0 (fun k_ hk_ => trivial)) (below_size bA)); replace HB := Aside0.mk (below_step bA hb); (try clear hb); (try clear hb2); (try clear hk); (try clear hi); (try clear ho0); obtain ⟨Ao17, co17, eo17⟩ := Kd.V_slice HO208.out; subst eo17) | ((with_reducible refine gate_callee (f := 68) rfl ?_); refine goesL_ (some 14) rfl rfl Tryd.func68 (by kernel_rfl) rfl #[.slice Ao17 t206.length co17] rfl aP ?_; (with_reducible refine (runes_Decode.calls k (fun k_ => True) _ _ t206 t209 _ ?side1 A7.out).mono ?_); (case side1 => exact HO208.out); rintro e w18 ⟨v210, rfl, ho0, hb⟩; refine ⟨_, rfl, ?_⟩; replace HO208 := Aside0.mk (Kd.V_elder' (kV HO208) (Kd.R_base ho0) hb); have HO211 := Aside0.mk (Kd.R_lower (Kd.R_mono (ok' := fun k_ => True) ho0 (fun _ hk_ => trivial)) (below_size bA)); replace HB := Aside0.mk (below_step bA hb); (try clear hb); (try clear hb2); (try clear hk); (try clear hi); (try clear ho0); obtain ⟨Ao19, co19, eo19⟩ := Kd.R_slice HO211.out; subst eo19; have p212 : 0 ≤ (0 : Int) := (by omega); have q212 : 0 < (t209.length : Int) := of_decide_eq_true asA; obtain ⟨ad212, e212, hx212_0⟩ := Kd.at_int (Kd.R_reads' HO211.out).2.2 0 p212 q212; cases e212; have qi212 : (0 < t209.length) = True := eq_true (by omega); (try rw [show ((0 : Int)).toNat = 0 from rfl] at hx212_0); (try rw [Addr.add_zero'] at hx212_0); replace p212 := eq_true p212; replace q212 := eq_true q212) | ((with_reducible refine gate_callee (f := 48) rfl ?_); refine goesL_ (some 22) rfl rfl Tryd.func48 (by kernel_rfl) rfl #[.string a0, .string (Go.Utf8.encode (rd t209 0))] rfl aP ?_; (with_reducible refine (strings_HasPrefix.calls a0 (Go.Utf8.encode (rd t209 0)) false _ A9.out).mono ?_); rintro e w' ⟨rfl, ⟨nd, rfl⟩⟩; refine ⟨_, rfl, ?_⟩))
      go_ret2
      exact ⟨by first | rfl | (simp [errW_none, errW_some] <;> rfl) | (simp only [← hji3]; first | rfl | (simp [errW_none, errW_some] <;> rfl)) | (simp [*, errW_none, errW_some] <;> rfl), bA⟩
    ·rw [if_neg c8] at H
     exact absurd H (by simp)
   ·rw [if_neg c5] at H
    exact absurd H (by simp)
  ·rw [if_neg c4] at H
   exact absurd H (by simp)

/-! ### stringslite_CutPrefix: function 69 -/
def stringslite_CutPrefix.f (a0 : ByteArray) (a1 : ByteArray) : Option (ByteArray × Bool) := (stringslite_HasPrefix.f a0 a1).bind fun t215 => (if t215 = true then (if 0 ≤ (a1.size : Int) then (if (a1.size : Int) ≤ (a0.size : Int) then (some (a0.extract ((a1.size : Int) : Int).toNat a0.size, true)) else (none)) else (none)) else (some (a0, false)))
theorem stringslite_CutPrefix.calls (a0 : ByteArray) (a1 : ByteArray) (r1 : ByteArray) (r2 : Bool) (w : World) (h : stringslite_CutPrefix.f a0 a1 = some (r1, r2)) :
  Calls Tryd.prog 69 #[.string a0, .string a1] w fun e w' => e = .returned (.tuple #[.string r1, .bool r2]) ∧ Drawn0 w w' := by
 have H : ((stringslite_HasPrefix.f a0 a1).bind fun t215 => (if t215 = true then (if 0 ≤ (a1.size : Int) then (if (a1.size : Int) ≤ (a0.size : Int) then (some (a0.extract ((a1.size : Int) : Int).toNat a0.size, true)) else (none)) else (none)) else (some (a0, false)))) = some (r1, r2) := h
 clear h
 replace H := Option.bind_eq_some_iff.mp H
 obtain ⟨t215, A30, H⟩ := H
 replace H : (if t215 = true then (if 0 ≤ (a1.size : Int) then (if (a1.size : Int) ≤ (a0.size : Int) then (some (a0.extract ((a1.size : Int) : Int).toNat a0.size, true)) else (none)) else (none)) else (some (a0, false))) = some (r1, r2) := H
 have A3 := Aside0.mk A30
 clear A30
 by_cases c4 : t215 = true
 ·subst c4
  have H1 : (if 0 ≤ (a1.size : Int) then (if (a1.size : Int) ≤ (a0.size : Int) then (some (a0.extract ((a1.size : Int) : Int).toNat a0.size, true)) else (none)) else (none)) = some (r1, r2) := by rw [if_pos rfl] at H; exact H
  clear H
  have H := H1
  clear H1
  by_cases c5 : 0 ≤ (a1.size : Int)
  ·rw [if_pos c5] at H
   have c5b0 := eq_true c5
   have c5b1 : decide (0 ≤ (a1.size : Int)) = true := decide_eq_true c5
   clear c5
   by_cases c6 : (a1.size : Int) ≤ (a0.size : Int)
   ·rw [if_pos c6] at H
    have c6b0 := eq_true c6
    have c6b1 : decide ((a1.size : Int) ≤ (a0.size : Int)) = true := decide_eq_true c6
    clear c6
    simp only [Option.some.injEq, Prod.mk.injEq] at H
    obtain ⟨rfl, rfl⟩ := H
    go_enter Tryd.func69, Tryd.ntmps69
    go_wp2_with (first | ((with_reducible refine gate_callee (f := 71) rfl ?_); refine goesL_ (some 8) rfl rfl Tryd.func71 (by kernel_rfl) rfl #[.string a0, .string a1] rfl aP ?_; (with_reducible refine (stringslite_HasPrefix.calls a0 a1 true _ A3.out).mono ?_); rintro e w' ⟨rfl, ⟨nd, rfl⟩⟩; refine ⟨_, rfl, ?_⟩))
    go_ret2
    exact ⟨sA, by repeat (first | exact Drawn0.refl _ | apply Drawn0.step)⟩
   ·rw [if_neg c6] at H
    exact absurd H (by simp)
  ·rw [if_neg c5] at H
   exact absurd H (by simp)
 ·replace c4 := Bool.eq_false_iff.mpr c4
  subst c4
  have H1 : (some (a0, false)) = some (r1, r2) := by rw [if_neg (show ¬ (false = true) by decide)] at H; exact H
  clear H
  have H := H1
  clear H1
  simp only [Option.some.injEq, Prod.mk.injEq] at H
  obtain ⟨rfl, rfl⟩ := H
  go_enter Tryd.func69, Tryd.ntmps69
  go_wp2_with (first | ((with_reducible refine gate_callee (f := 71) rfl ?_); refine goesL_ (some 8) rfl rfl Tryd.func71 (by kernel_rfl) rfl #[.string a0, .string a1] rfl aP ?_; (with_reducible refine (stringslite_HasPrefix.calls a0 a1 false _ A3.out).mono ?_); rintro e w' ⟨rfl, ⟨nd, rfl⟩⟩; refine ⟨_, rfl, ?_⟩))
  go_ret2
  exact ⟨sA, by repeat (first | exact Drawn0.refl _ | apply Drawn0.step)⟩

/-! ### strings_CutPrefix: function 46 -/
def strings_CutPrefix.f (a0 : ByteArray) (a1 : ByteArray) : Option (ByteArray × Bool) := (stringslite_CutPrefix.f a0 a1).bind fun bt216 => (some (bt216.1, bt216.2))
theorem strings_CutPrefix.calls (a0 : ByteArray) (a1 : ByteArray) (r1 : ByteArray) (r2 : Bool) (w : World) (h : strings_CutPrefix.f a0 a1 = some (r1, r2)) :
  Calls Tryd.prog 46 #[.string a0, .string a1] w fun e w' => e = .returned (.tuple #[.string r1, .bool r2]) ∧ Drawn0 w w' := by
 have H : ((stringslite_CutPrefix.f a0 a1).bind fun bt216 => (some (bt216.1, bt216.2))) = some (r1, r2) := h
 clear h
 replace H := Option.bind_eq_some_iff.mp H
 obtain ⟨⟨t216, t217⟩, A30, H⟩ := H
 replace H : (some (t216, t217)) = some (r1, r2) := H
 have A3 := Aside0.mk A30
 clear A30
 simp only [Option.some.injEq, Prod.mk.injEq] at H
 obtain ⟨rfl, rfl⟩ := H
 go_enter Tryd.func46, Tryd.ntmps46
 go_wp2_with (first | ((with_reducible refine gate_callee (f := 69) rfl ?_); refine goesL_ (some 8) rfl rfl Tryd.func69 (by kernel_rfl) rfl #[.string a0, .string a1] rfl aP ?_; (with_reducible refine (stringslite_CutPrefix.calls a0 a1 t216 t217 _ A3.out).mono ?_); rintro e w' ⟨rfl, ⟨nd, rfl⟩⟩; refine ⟨_, rfl, ?_⟩))
 go_ret2
 exact ⟨sA, by repeat (first | exact Drawn0.refl _ | apply Drawn0.step)⟩

end Go.Proofs.YtmeinakeiefcdaaDoor.X
