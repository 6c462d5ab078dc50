-- Written by this session's xprint.py (a variant of the kit's printer). Not trusted: Lean checks it.
import Derived.Test.YtdjepocklmlnbaaDoorX0
import Derived.Test.YtdjepocklmlnbaaDoorSlim
import Derived.Test.YtdjepocklmlnbaaDoorHandA
namespace Go.Proofs.YtdjepocklmlnbaaDoor.X
open Go.Proofs.YtdjepocklmlnbaaDoor.Hand
open Go.RowKit Go.Proofs.YtdjepocklmlnbaaDoorW.PrintWords Go.Proofs.YtdjepocklmlnbaaDoorW.PrintLast Go.Proofs.YtdjepocklmlnbaaDoorW.PrintMore
attribute [local go_sem] max2_int min2_int max_two min_two max_three min_three max_four min_four   -- for this text's walks alone
set_option linter.unusedVariables false
set_option maxHeartbeats 8000000
set_option maxRecDepth 100000
set_option linter.unusedSimpArgs false

/-! ### cells_Trim: function 51 -/
def cells_Trim.l0 : Nat → List (S44) → Int → Option ((List (S44)))
 | 0, _, _ => none
 | k + 1, x0, x3 => if x3 > 0 then (if 0 ≤ (wrap64 (x3 - 1)) then (if (wrap64 (x3 - 1)) < (x0.length : Int) then (if ((rd_T44 x0 (wrap64 (x3 - 1))).f0) = 32 then (cells_Trim.l0 k x0 (wrap64 (x3 - 1))) else (if 0 ≤ x3 then (if x3 ≤ (x0.length : Int) then ((clone_G.f (x0.take (x3 : Int).toNat)).bind fun t106 => (some t106)) else (none)) else (none))) else (none)) else (none)) else (if 0 ≤ x3 then (if x3 ≤ (x0.length : Int) then ((clone_G.f (x0.take (x3 : Int).toNat)).bind fun t113 => (some t113)) else (none)) else (none))
def cells_Trim.f (k : Nat) (l0 : List (S44)) : Option ((List (S44))) := cells_Trim.l0 k l0 (l0.length : Int)
theorem cells_Trim.mono_l : ∀ k, (∀ y0 y1, LeO (cells_Trim.l0 k y0 y1) (cells_Trim.l0 (k + 1) y0 y1))
 | 0 => fun _ _ r h => by simp [cells_Trim.l0] at h
 | k + 1 => by
  have ih0 := cells_Trim.mono_l k
  ·intro y0 y1
   unfold cells_Trim.l0
   repeat' first
   | (with_reducible exact ih0 _ _)
   | (with_reducible exact LeO.refl _)
   | (with_reducible exact LeO.none _)
   | (with_reducible refine LeO.ite ?_ ?_)
   | (with_reducible refine LeO.bind ?_ (fun _ => ?_))
theorem cells_Trim.mono : ∀ a0 k, LeO (cells_Trim.f k a0) (cells_Trim.f (k + 1) a0) := by
 intro a0 k
 have ih0 := cells_Trim.mono_l k
 unfold cells_Trim.f
 repeat' first
   | (with_reducible exact ih0 _ _)
   | (with_reducible exact LeO.refl _)
   | (with_reducible exact LeO.none _)
   | (with_reducible refine LeO.ite ?_ ?_)
   | (with_reducible refine LeO.bind ?_ (fun _ => ?_))
theorem cells_Trim.calls (k : Nat) (A0 : Option Addr) (c0 : Nat) (l0 : List (S44)) (r : List (S44)) (w : World) (hr0 : Kd.C k44 w A0 l0.length l0) (hc0 : l0.length ≤ c0) (hG : GOK [1] w) (h : cells_Trim.f k l0 = some r) :
  Calls Tryd.prog 51 #[.slice A0 l0.length c0] w fun e w' => ∃ v0_ : Value, e = .returned (v0_) ∧ Kd.R k44 44 w' w.heap.size (fun _ => True) v0_ r ∧ Below w.heap.size w w' := by
 have HG := Aside0.mk hG
 clear hG
 have HR0 := Aside0.mk hr0
 have HC0 := Aside0.mk hc0
 clear hr0 hc0
 have HB := Aside0.mk (Below.refl w.heap.size w)
 have H : (cells_Trim.l0 k l0 (l0.length : Int)) = some r := h
 clear h
 have H' := Aside0.mk H
 clear H
 go_enter Tryd.func51, Tryd.ntmps51
 go_wp2
 repeat (go_quiet (fail); try go_wp2)
 go_loopg [3] k (fun kq v3 w' => ∃ (x3_1 : Int), v3 = .int .i64 x3_1 ∧ Aside0 (cells_Trim.l0 kq l0 x3_1 = some r) ∧ Aside0 (kq ≤ k) ∧ Aside0 (Below w.heap.size w w'))
 case atStart => exact ⟨((l0.length : Int)), sA, H', ⟨Nat.le_refl _⟩, ⟨bA⟩⟩
 case round =>
  clear H'
  obtain ⟨x3_1, rfl, HA, HK1, HB⟩ := hrel
  cases gk with
  | zero => exact absurd HA.out (by simp [cells_Trim.l0])
  | succ k1 =>
   have H := HA.out
   clear HA
   simp only [cells_Trim.l0] at H
   by_cases c2 : x3_1 > 0
   ·rw [if_pos c2] at H
    have c2b0 : decide (0 < x3_1) = true := decide_eq_true c2
    clear c2
    obtain ⟨ji3, hji3⟩ : ∃ j_ : Int, (wrap64 (x3_1 - 1)) = j_ := ⟨_, rfl⟩
    replace H : (if 0 ≤ (ji3) then (if (ji3) < (l0.length : Int) then (if ((rd_T44 l0 (ji3)).f0) = 32 then (cells_Trim.l0 k1 l0 ji3) else (if 0 ≤ x3_1 then (if x3_1 ≤ (l0.length : Int) then ((clone_G.f (l0.take (x3_1 : Int).toNat)).bind fun t106 => (some t106)) else (none)) else (none))) else (none)) else (none)) = some r := by first | (rw [hji3] at H; exact H) | (simp only [hji3] at H ⊢; exact H)
    have hji3w : (IntKind.i64.wrap (x3_1 - 1)) = ji3 := (i64_w _).trans hji3
    by_cases c4 : 0 ≤ (ji3)
    ·rw [if_pos c4] at H
     have c4b0 : decide (0 ≤ (ji3)) = true := decide_eq_true c4
     clear c4
     by_cases c5 : (ji3) < (l0.length : Int)
     ·rw [if_pos c5] at H
      have c5b0 : decide ((ji3) < (l0.length : Int)) = true := decide_eq_true c5
      clear c5
      by_cases c6 : ((rd_T44 l0 (ji3)).f0) = 32
      ·rw [if_pos c6] at H
       have c6b0 : (((rd_T44 l0 (ji3)).f0) == 32) = true := beq_iff_eq.mpr c6
       have c6b1 : (((rd_T44 l0 (ji3)).f0) != 32) = false := bne_eq_false_iff_eq.mpr c6
       clear c6
       have H' := Aside0.mk H
       clear H
       have p101 : 0 ≤ ((ji3) : Int) := of_decide_eq_true asA
       have q101 : (ji3) < (l0.length : Int) := of_decide_eq_true asA
       obtain ⟨ad101, e101, hx101_0, hx101_1⟩ := at_T44 HR0.out (ji3) p101 q101
       cases e101
       replace hx101_0 := (HB.out.cell (World.block_lt_of_cell? w _ hx101_0)).trans hx101_0
       replace hx101_1 := (HB.out.cell (World.block_lt_of_cell? w _ hx101_1)).trans hx101_1
       replace p101 := eq_true p101
       replace q101 := eq_true q101
       have hgl7 := blank_0 (GOK.of_below HG.out HB.out) (by decide)
       go_wp2
       repeat (go_quiet (fail); try go_wp2)
       go_roundg k1
       case measure => have := HK1.out; omega
       case rel => exact ⟨(ji3), (by first | rfl | (simp; done) | (simp only [← hji3] <;> (first | rfl | simp)) | (simp [*]; done)), H', ⟨by have := HK1.out; omega⟩, ⟨bA⟩⟩
      ·rw [if_neg c6] at H
       have c6b0 : (((rd_T44 l0 (ji3)).f0) == 32) = false := beq_eq_false_iff_ne.mpr c6
       have c6b1 : (((rd_T44 l0 (ji3)).f0) != 32) = true := bne_iff_ne.mpr c6
       by_cases c8 : 0 ≤ x3_1
       ·rw [if_pos c8] at H
        have c8b0 := eq_true c8
        have c8b1 : decide (0 ≤ x3_1) = true := decide_eq_true c8
        clear c8
        by_cases c9 : x3_1 ≤ (l0.length : Int)
        ·rw [if_pos c9] at H
         have c9b0 := eq_true c9
         have c9b1 : decide (x3_1 ≤ (l0.length : Int)) = true := decide_eq_true c9
         clear c9
         obtain ⟨y102, hy102⟩ : ∃ y_ : List (S44), y_ = (l0.take (x3_1 : Int).toNat) := ⟨_, rfl⟩
         replace H : ((clone_G.f y102).bind fun t106 => (some t106)) = some r := hyA hy102 H
         have Ny102 := Aside0.mk hy102
         clear hy102
         replace H := Option.bind_eq_some_iff.mp H
         obtain ⟨t106, A100, H⟩ := H
         replace H : (some t106) = some r := H
         have A10 := Aside0.mk A100
         clear A100
         obtain rfl := Option.some.inj H
         have p101 : 0 ≤ ((ji3) : Int) := of_decide_eq_true asA
         have q101 : (ji3) < (l0.length : Int) := of_decide_eq_true asA
         obtain ⟨ad101, e101, hx101_0, hx101_1⟩ := at_T44 HR0.out (ji3) p101 q101
         cases e101
         replace hx101_0 := (HB.out.cell (World.block_lt_of_cell? w _ hx101_0)).trans hx101_0
         replace hx101_1 := (HB.out.cell (World.block_lt_of_cell? w _ hx101_1)).trans hx101_1
         replace p101 := eq_true p101
         replace q101 := eq_true q101
         have hgl11 := blank_0 (GOK.of_below HG.out HB.out) (by decide)
         have q12 : (x3_1 : Int) ≤ ((l0.length : Int) : Int) := of_decide_eq_true asA
         obtain ⟨i012, hi012, _, hsz12, _⟩ := info_parts info44
         have hroom12 : l0.length ≤ c0 := HC0.out
         have hC12 : Kd.C k44 _ (some ad101) l0.length l0 := HR0.out
         have hcut12 := cut_to (P := Tryd.prog) 33 44 .i64 Tryd.underlying33 hi012 (some ad101) l0.length c0 x3_1 (of_decide_eq_true asA) q12 hroom12
         have hr12 := Kd.C_take (m := (x3_1 : Int).toNat) hC12 (by omega)
         have hy12 : y102.length = (x3_1 : Int).toNat := (by rw [Ny102.out, List.length_take]; omega)
         rw [← Ny102.out] at hr12
         rw [← hy12] at hcut12
         have HR105 := Aside0.mk hr12
         have HC105 := Aside0.mk (show y102.length ≤ c0 from by omega)
         clear hr12 hC12 hroom12 hi012 hsz12
         have KY12 := Aside0.mk hy12
         clear hy12
         replace q12 := eq_true q12
         go_wp2_with (first | (go_at_call 50; (with_reducible refine (clone_G.calls _ _ y102 t106 _ ?side1 ?side2 A10.out).mono ?_); (case side1 => repeat (first | exact (Kd.C_below HR105.out HB.out) | (with_reducible refine Kd.C_alloc ?_ _) | (with_reducible refine Kd.C_drewN ?_ _) | (with_reducible refine Kd.C_drew ?_))); (case side2 => exact HC105.out); rintro e w13 ⟨v107, rfl, ho0, hb⟩; have HO108 := Aside0.mk (Kd.R_lower ho0 (below_size bA)); replace HB := Aside0.mk (below_step bA hb); (try clear hb); (try clear hb2); (try clear hk); (try clear hi); (try clear ho0)))
         repeat (go_quiet (first | (go_at_call 50; (with_reducible refine (clone_G.calls _ _ y102 t106 _ ?side1 ?side2 A10.out).mono ?_); (case side1 => repeat (first | exact (Kd.C_below HR105.out HB.out) | (with_reducible refine Kd.C_alloc ?_ _) | (with_reducible refine Kd.C_drewN ?_ _) | (with_reducible refine Kd.C_drew ?_))); (case side2 => exact HC105.out); rintro e w13 ⟨v107, rfl, ho0, hb⟩; have HO108 := Aside0.mk (Kd.R_lower ho0 (below_size bA)); replace HB := Aside0.mk (below_step bA hb); (try clear hb); (try clear hb2); (try clear hk); (try clear hi); (try clear ho0))); try go_wp2_with (first | (go_at_call 50; (with_reducible refine (clone_G.calls _ _ y102 t106 _ ?side1 ?side2 A10.out).mono ?_); (case side1 => repeat (first | exact (Kd.C_below HR105.out HB.out) | (with_reducible refine Kd.C_alloc ?_ _) | (with_reducible refine Kd.C_drewN ?_ _) | (with_reducible refine Kd.C_drew ?_))); (case side2 => exact HC105.out); rintro e w13 ⟨v107, rfl, ho0, hb⟩; have HO108 := Aside0.mk (Kd.R_lower ho0 (below_size bA)); replace HB := Aside0.mk (below_step bA hb); (try clear hb); (try clear hb2); (try clear hk); (try clear hi); (try clear ho0))))
         go_ret
         exact ⟨_, by first | rfl | (simp [errW_none, errW_some] <;> rfl) | (simp only [← hji3]; first | rfl | (simp [errW_none, errW_some] <;> rfl)) | (simp [*, errW_none, errW_some] <;> rfl), kR HO108, bA⟩
        ·rw [if_neg c9] at H
         exact absurd H (by simp)
       ·rw [if_neg c8] at H
        exact absurd H (by simp)
     ·rw [if_neg c5] at H
      exact absurd H (by simp)
    ·rw [if_neg c4] at H
     exact absurd H (by simp)
   ·rw [if_neg c2] at H
    have c2b0 : decide (0 < x3_1) = false := decide_eq_false c2
    clear c2
    by_cases c14 : 0 ≤ x3_1
    ·rw [if_pos c14] at H
     have c14b0 := eq_true c14
     have c14b1 : decide (0 ≤ x3_1) = true := decide_eq_true c14
     clear c14
     by_cases c15 : x3_1 ≤ (l0.length : Int)
     ·rw [if_pos c15] at H
      have c15b0 := eq_true c15
      have c15b1 : decide (x3_1 ≤ (l0.length : Int)) = true := decide_eq_true c15
      clear c15
      obtain ⟨y109, hy109⟩ : ∃ y_ : List (S44), y_ = (l0.take (x3_1 : Int).toNat) := ⟨_, rfl⟩
      replace H : ((clone_G.f y109).bind fun t113 => (some t113)) = some r := hyA hy109 H
      have Ny109 := Aside0.mk hy109
      clear hy109
      replace H := Option.bind_eq_some_iff.mp H
      obtain ⟨t113, A160, H⟩ := H
      replace H : (some t113) = some r := H
      have A16 := Aside0.mk A160
      clear A160
      obtain rfl := Option.some.inj H
      have q17 : (x3_1 : Int) ≤ ((l0.length : Int) : Int) := of_decide_eq_true asA
      obtain ⟨i017, hi017, _, hsz17, _⟩ := info_parts info44
      have hroom17 : l0.length ≤ c0 := HC0.out
      have hC17 : Kd.C k44 _ A0 l0.length l0 := HR0.out
      have hcut17 := cut_to (P := Tryd.prog) 33 44 .i64 Tryd.underlying33 hi017 A0 l0.length c0 x3_1 (of_decide_eq_true asA) q17 hroom17
      have hr17 := Kd.C_take (m := (x3_1 : Int).toNat) hC17 (by omega)
      have hy17 : y109.length = (x3_1 : Int).toNat := (by rw [Ny109.out, List.length_take]; omega)
      rw [← Ny109.out] at hr17
      rw [← hy17] at hcut17
      have HR112 := Aside0.mk hr17
      have HC112 := Aside0.mk (show y109.length ≤ c0 from by omega)
      clear hr17 hC17 hroom17 hi017 hsz17
      have KY17 := Aside0.mk hy17
      clear hy17
      replace q17 := eq_true q17
      go_wp2_with (first | (go_at_call 50; (with_reducible refine (clone_G.calls _ _ y109 t113 _ ?side1 ?side2 A16.out).mono ?_); (case side1 => repeat (first | exact (Kd.C_below HR112.out HB.out) | (with_reducible refine Kd.C_alloc ?_ _) | (with_reducible refine Kd.C_drewN ?_ _) | (with_reducible refine Kd.C_drew ?_))); (case side2 => exact HC112.out); rintro e w18 ⟨v114, rfl, ho0, hb⟩; have HO115 := Aside0.mk (Kd.R_lower ho0 (below_size bA)); replace HB := Aside0.mk (below_step bA hb); (try clear hb); (try clear hb2); (try clear hk); (try clear hi); (try clear ho0)))
      repeat (go_quiet (first | (go_at_call 50; (with_reducible refine (clone_G.calls _ _ y109 t113 _ ?side1 ?side2 A16.out).mono ?_); (case side1 => repeat (first | exact (Kd.C_below HR112.out HB.out) | (with_reducible refine Kd.C_alloc ?_ _) | (with_reducible refine Kd.C_drewN ?_ _) | (with_reducible refine Kd.C_drew ?_))); (case side2 => exact HC112.out); rintro e w18 ⟨v114, rfl, ho0, hb⟩; have HO115 := Aside0.mk (Kd.R_lower ho0 (below_size bA)); replace HB := Aside0.mk (below_step bA hb); (try clear hb); (try clear hb2); (try clear hk); (try clear hi); (try clear ho0))); try go_wp2_with (first | (go_at_call 50; (with_reducible refine (clone_G.calls _ _ y109 t113 _ ?side1 ?side2 A16.out).mono ?_); (case side1 => repeat (first | exact (Kd.C_below HR112.out HB.out) | (with_reducible refine Kd.C_alloc ?_ _) | (with_reducible refine Kd.C_drewN ?_ _) | (with_reducible refine Kd.C_drew ?_))); (case side2 => exact HC112.out); rintro e w18 ⟨v114, rfl, ho0, hb⟩; have HO115 := Aside0.mk (Kd.R_lower ho0 (below_size bA)); replace HB := Aside0.mk (below_step bA hb); (try clear hb); (try clear hb2); (try clear hk); (try clear hi); (try clear ho0))))
      go_ret
      exact ⟨_, eW, kR HO115, bA⟩
     ·rw [if_neg c15] at H
      exact absurd H (by simp)
    ·rw [if_neg c14] at H
     exact absurd H (by simp)

/-! ### runes_Valid: function 68 -/
def runes_Valid.f (a0 : Int) : Option (Bool) := if a0 ≥ 0 then (if a0 ≤ 1114111 then (if a0 < 55296 then (some true) else (some (decide (a0 > 57343)))) else (some false)) else (some false)
theorem runes_Valid.calls (a0 : Int) (r : Bool) (w : World) (h : runes_Valid.f a0 = some r) :
  Calls Tryd.prog 68 #[.int .i32 a0] w fun e w' => e = .returned (.bool r) ∧ Drawn0 w w' := by
 have H : (if a0 ≥ 0 then (if a0 ≤ 1114111 then (if a0 < 55296 then (some true) else (some (decide (a0 > 57343)))) else (some false)) else (some false)) = some r := h
 clear h
 by_cases c2 : a0 ≥ 0
 ·rw [if_pos c2] at H
  have c2b0 : decide (0 ≤ a0) = true := decide_eq_true c2
  clear c2
  by_cases c3 : a0 ≤ 1114111
  ·rw [if_pos c3] at H
   have c3b0 : decide (a0 ≤ 1114111) = true := decide_eq_true c3
   clear c3
   by_cases c4 : a0 < 55296
   ·rw [if_pos c4] at H
    have c4b0 : decide (a0 < 55296) = true := decide_eq_true c4
    clear c4
    obtain rfl := Option.some.inj H
    go_enter Tryd.func68, Tryd.ntmps68
    go_wp2
    go_ret
    exact ⟨sA, by repeat (first | exact Drawn0.refl _ | apply Drawn0.step)⟩
   ·rw [if_neg c4] at H
    have c4b0 : decide (a0 < 55296) = false := decide_eq_false c4
    clear c4
    obtain rfl := Option.some.inj H
    go_enter Tryd.func68, Tryd.ntmps68
    go_wp2
    go_ret
    exact ⟨sA, by repeat (first | exact Drawn0.refl _ | apply Drawn0.step)⟩
  ·rw [if_neg c3] at H
   have c3b0 : decide (a0 ≤ 1114111) = false := decide_eq_false c3
   clear c3
   obtain rfl := Option.some.inj H
   go_enter Tryd.func68, Tryd.ntmps68
   go_wp2
   go_ret
   exact ⟨sA, by repeat (first | exact Drawn0.refl _ | apply Drawn0.step)⟩
 ·rw [if_neg c2] at H
  have c2b0 : decide (0 ≤ a0) = false := decide_eq_false c2
  clear c2
  obtain rfl := Option.some.inj H
  go_enter Tryd.func68, Tryd.ntmps68
  go_wp2
  go_ret
  exact ⟨sA, by repeat (first | exact Drawn0.refl _ | apply Drawn0.step)⟩

/-! ### runes_Control: function 69 -/
mutual
def runes_Control.j0 : Nat → Int → Bool → Option (Bool)
 | 0, _, _ => none
 | k + 1, x0, x3 => if x3 = true then (runes_Control.j1 k x0 x3) else (if x0 ≥ 127 then (runes_Control.j1 k x0 (decide (x0 ≤ 159))) else (runes_Control.j1 k x0 false))
def runes_Control.j1 : Nat → Int → Bool → Option (Bool)
 | 0, _, _ => none
 | k + 1, x0, x3 => if x3 = true then (some true) else (if x0 = 8232 then (some true) else (if x0 = 8233 then (some true) else (some false)))
end
def runes_Control.f (k : Nat) (a0 : Int) : Option (Bool) := if a0 ≥ 0 then (runes_Control.j0 k a0 (decide (a0 < 32))) else (runes_Control.j0 k a0 false)
theorem runes_Control.mono_l : ∀ k, (∀ y0 y1, LeO (runes_Control.j0 k y0 y1) (runes_Control.j0 (k + 1) y0 y1)) ∧ (∀ y0 y1, LeO (runes_Control.j1 k y0 y1) (runes_Control.j1 (k + 1) y0 y1))
 | 0 => ⟨fun _ _ r h => by simp [runes_Control.j0] at h, fun _ _ r h => by simp [runes_Control.j1] at h⟩
 | k + 1 => by
  obtain ⟨ih0, ih1⟩ := runes_Control.mono_l k
  refine ⟨?_, ?_⟩
  ·intro y0 y1
   unfold runes_Control.j0
   repeat' first
   | (with_reducible exact ih0 _ _)
   | (with_reducible exact ih1 _ _)
   | (with_reducible exact LeO.refl _)
   | (with_reducible exact LeO.none _)
   | (with_reducible refine LeO.ite ?_ ?_)
   | (with_reducible refine LeO.bind ?_ (fun _ => ?_))
  ·intro y0 y1
   unfold runes_Control.j1
   repeat' first
   | (with_reducible exact ih0 _ _)
   | (with_reducible exact ih1 _ _)
   | (with_reducible exact LeO.refl _)
   | (with_reducible exact LeO.none _)
   | (with_reducible refine LeO.ite ?_ ?_)
   | (with_reducible refine LeO.bind ?_ (fun _ => ?_))
theorem runes_Control.mono : ∀ a0 k, LeO (runes_Control.f k a0) (runes_Control.f (k + 1) a0) := by
 intro a0 k
 obtain ⟨ih0, ih1⟩ := runes_Control.mono_l k
 unfold runes_Control.f
 repeat' first
   | (with_reducible exact ih0 _ _)
   | (with_reducible exact ih1 _ _)
   | (with_reducible exact LeO.refl _)
   | (with_reducible exact LeO.none _)
   | (with_reducible refine LeO.ite ?_ ?_)
   | (with_reducible refine LeO.bind ?_ (fun _ => ?_))
theorem runes_Control.calls (k : Nat) (a0 : Int) (r : Bool) (w : World) (h : runes_Control.f k a0 = some r) :
  Calls Tryd.prog 69 #[.int .i32 a0] w fun e w' => e = .returned (.bool r) ∧ Drawn0 w w' := by
 have H : (if a0 ≥ 0 then (runes_Control.j0 k a0 (decide (a0 < 32))) else (runes_Control.j0 k a0 false)) = some r := h
 clear h
 have HC2 := Aside0.mk H
 clear H
 go_enter Tryd.func69, Tryd.ntmps69
 go_upto_region 1 with (fail)
 go_cut [3] (fun v3 wc => ∃ (kq : Nat) (x3_1 : Bool), v3 = .bool x3_1 ∧ Aside0 (runes_Control.j0 kq a0 x3_1 = some r) ∧ Aside0 (kq ≤ k) ∧ Drawn0 w wc)
 case first =>
  have H := HC2.out
  clear HC2
  by_cases c3 : a0 ≥ 0
  ·rw [if_pos c3] at H
   have c3b0 : decide (0 ≤ a0) = true := decide_eq_true c3
   clear c3
   (first | rw [c3b0] | (simp only [i64_w, i32_w]; rw [c3b0]) | skip)
   have H' := Aside0.mk H
   clear H
   go_wp2
   go_meet
   case rel => exact ⟨_, (decide (a0 < 32)), sA, H', ⟨by first | omega | exact Nat.le_refl _⟩, by repeat (first | exact Drawn0.refl _ | apply Drawn0.step)⟩
  ·rw [if_neg c3] at H
   have c3b0 : decide (0 ≤ a0) = false := decide_eq_false c3
   clear c3
   (first | rw [c3b0] | (simp only [i64_w, i32_w]; rw [c3b0]) | skip)
   have H' := Aside0.mk H
   clear H
   go_wp2
   go_meet
   case rel => exact ⟨_, (false), sA, H', ⟨by first | omega | exact Nat.le_refl _⟩, by repeat (first | exact Drawn0.refl _ | apply Drawn0.step)⟩
 case rest =>
  clear HC2
  try clear p2
  try clear c3
  try clear c3b0
  obtain ⟨kq, x3_1, rfl, HA, HJ1, ⟨mc1, rfl⟩⟩ := hcut
  cases kq with
  | zero => exact absurd HA.out (by simp [runes_Control.j0])
  | succ kj1 =>
   have H := HA.out
   clear HA
   simp only [runes_Control.j0] at H
   have HC4 := Aside0.mk H
   clear H
   go_upto_if 3 with (fail)
   go_cut [3] (fun v3 wc => ∃ (kq : Nat) (x3_3 : Bool), v3 = .bool x3_3 ∧ Aside0 (runes_Control.j1 kq a0 x3_3 = some r) ∧ Aside0 (kq ≤ kj1) ∧ Drawn0 w wc)
   case first =>
    have H := HC4.out
    clear HC4
    by_cases c5 : x3_1 = true
    ·subst c5
     have H1 : (runes_Control.j1 kj1 a0 true) = some r := by rw [if_pos rfl] at H; exact H
     clear H
     have H := H1
     clear H1
     have H' := Aside0.mk H
     clear H
     go_wp2
     go_meet
     case rel => exact ⟨_, (true), sA, H', ⟨by have := HJ1.out; first | omega | exact Nat.le_refl _⟩, by repeat (first | exact Drawn0.refl _ | apply Drawn0.step)⟩
    ·replace c5 := Bool.eq_false_iff.mpr c5
     subst c5
     have H1 : (if a0 ≥ 127 then (runes_Control.j1 kj1 a0 (decide (a0 ≤ 159))) else (runes_Control.j1 kj1 a0 false)) = some r := by rw [if_neg (show ¬ (false = true) by decide)] at H; exact H
     clear H
     have H := H1
     clear H1
     by_cases c6 : a0 ≥ 127
     ·rw [if_pos c6] at H
      have c6b0 : decide (127 ≤ a0) = true := decide_eq_true c6
      clear c6
      (first | rw [c6b0] | (simp only [i64_w, i32_w]; rw [c6b0]) | skip)
      have H' := Aside0.mk H
      clear H
      go_wp2
      go_meet
      case rel => exact ⟨_, (decide (a0 ≤ 159)), sA, H', ⟨by have := HJ1.out; first | omega | exact Nat.le_refl _⟩, by repeat (first | exact Drawn0.refl _ | apply Drawn0.step)⟩
     ·rw [if_neg c6] at H
      have c6b0 : decide (127 ≤ a0) = false := decide_eq_false c6
      clear c6
      (first | rw [c6b0] | (simp only [i64_w, i32_w]; rw [c6b0]) | skip)
      have H' := Aside0.mk H
      clear H
      go_wp2
      go_meet
      case rel => exact ⟨_, (false), sA, H', ⟨by have := HJ1.out; first | omega | exact Nat.le_refl _⟩, by repeat (first | exact Drawn0.refl _ | apply Drawn0.step)⟩
   case rest =>
    clear HC4
    try clear c1
    try clear p2
    try clear c3
    try clear c3b0
    try clear c5
    try clear c6
    try clear c6b0
    try clear p2
    obtain ⟨kq, x3_3, rfl, HA, HJ3, ⟨mc3, rfl⟩⟩ := hcut
    cases kq with
    | zero => exact absurd HA.out (by simp [runes_Control.j1])
    | succ kj3 =>
     have H := HA.out
     clear HA
     simp only [runes_Control.j1] at H
     by_cases c7 : x3_3 = true
     ·subst c7
      have H1 : (some true) = some r := by rw [if_pos rfl] at H; exact H
      clear H
      have H := H1
      clear H1
      obtain rfl := Option.some.inj H
      go_wp2
      go_ret
      exact ⟨sA, by repeat (first | exact Drawn0.refl _ | apply Drawn0.step)⟩
     ·replace c7 := Bool.eq_false_iff.mpr c7
      subst c7
      have H1 : (if a0 = 8232 then (some true) else (if a0 = 8233 then (some true) else (some false))) = some r := by rw [if_neg (show ¬ (false = true) by decide)] at H; exact H
      clear H
      have H := H1
      clear H1
      by_cases c8 : a0 = 8232
      ·rw [if_pos c8] at H
       have c8b0 : (a0 == 8232) = true := beq_iff_eq.mpr c8
       have c8b1 : (a0 != 8232) = false := bne_eq_false_iff_eq.mpr c8
       clear c8
       obtain rfl := Option.some.inj H
       go_wp2
       go_ret
       exact ⟨sA, by repeat (first | exact Drawn0.refl _ | apply Drawn0.step)⟩
      ·rw [if_neg c8] at H
       have c8b0 : (a0 == 8232) = false := beq_eq_false_iff_ne.mpr c8
       have c8b1 : (a0 != 8232) = true := bne_iff_ne.mpr c8
       by_cases c9 : a0 = 8233
       ·rw [if_pos c9] at H
        have c9b0 : (a0 == 8233) = true := beq_iff_eq.mpr c9
        have c9b1 : (a0 != 8233) = false := bne_eq_false_iff_eq.mpr c9
        clear c9
        obtain rfl := Option.some.inj H
        go_wp2
        go_ret
        exact ⟨sA, by repeat (first | exact Drawn0.refl _ | apply Drawn0.step)⟩
       ·rw [if_neg c9] at H
        have c9b0 : (a0 == 8233) = false := beq_eq_false_iff_ne.mpr c9
        have c9b1 : (a0 != 8233) = true := bne_iff_ne.mpr c9
        obtain rfl := Option.some.inj H
        go_wp2
        go_ret
        exact ⟨sA, by repeat (first | exact Drawn0.refl _ | apply Drawn0.step)⟩

/-! ### runes_Safe: function 67 -/
def runes_Safe.f (k : Nat) (a0 : Int) : Option (Int) := (runes_Valid.f a0).bind fun t116 => (if t116 = true then ((runes_Control.f k a0).bind fun t117 => (if t117 = true then (some 65533) else (some a0))) else (some 65533))
theorem runes_Safe.mono : ∀ a0 k, LeO (runes_Safe.f k a0) (runes_Safe.f (k + 1) a0) := by
 intro a0 k
 unfold runes_Safe.f
 repeat' first
   | (with_reducible exact runes_Control.mono _ _)
   | (with_reducible exact LeO.refl _)
   | (with_reducible exact LeO.none _)
   | (with_reducible refine LeO.ite ?_ ?_)
   | (with_reducible refine LeO.bind ?_ (fun _ => ?_))
theorem runes_Safe.calls (k : Nat) (a0 : Int) (r : Int) (w : World) (h : runes_Safe.f k a0 = some r) :
  Calls Tryd.prog 67 #[.int .i32 a0] w fun e w' => e = .returned (.int .i32 r) ∧ Drawn0 w w' := by
 have H : ((runes_Valid.f a0).bind fun t116 => (if t116 = true then ((runes_Control.f k a0).bind fun t117 => (if t117 = true then (some 65533) else (some a0))) else (some 65533))) = some r := h
 clear h
 replace H := Option.bind_eq_some_iff.mp H
 obtain ⟨t116, A20, H⟩ := H
 replace H : (if t116 = true then ((runes_Control.f k a0).bind fun t117 => (if t117 = true then (some 65533) else (some a0))) else (some 65533)) = some r := H
 have A2 := Aside0.mk A20
 clear A20
 by_cases c3 : t116 = true
 ·subst c3
  have H1 : ((runes_Control.f k a0).bind fun t117 => (if t117 = true then (some 65533) else (some a0))) = some r := by rw [if_pos rfl] at H; exact H
  clear H
  have H := H1
  clear H1
  replace H := Option.bind_eq_some_iff.mp H
  obtain ⟨t117, A40, H⟩ := H
  replace H : (if t117 = true then (some 65533) else (some a0)) = some r := H
  have A4 := Aside0.mk A40
  clear A40
  by_cases c5 : t117 = true
  ·subst c5
   have H1 : (some 65533) = some r := by rw [if_pos rfl] at H; exact H
   clear H
   have H := H1
   clear H1
   obtain rfl := Option.some.inj H
   go_enter Tryd.func67, Tryd.ntmps67
   go_wp2_with (first | ((with_reducible refine gate_callee (f := 68) rfl ?_); refine goesL_ (some 4) rfl rfl Tryd.func68 (by kernel_rfl) rfl #[.int .i32 a0] rfl aP ?_; (with_reducible refine (runes_Valid.calls a0 true _ A2.out).mono ?_); rintro e w' ⟨rfl, ⟨nd, rfl⟩⟩; refine ⟨_, rfl, ?_⟩) | (go_at_call 69; (with_reducible refine (runes_Control.calls k a0 true _ A4.out).mono ?_); rintro e w' ⟨rfl, ⟨nd, rfl⟩⟩))
   go_ret
   exact ⟨sA, by repeat (first | exact Drawn0.refl _ | apply Drawn0.step)⟩
  ·replace c5 := Bool.eq_false_iff.mpr c5
   subst c5
   have H1 : (some a0) = some r := by rw [if_neg (show ¬ (false = true) by decide)] at H; exact H
   clear H
   have H := H1
   clear H1
   obtain rfl := Option.some.inj H
   go_enter Tryd.func67, Tryd.ntmps67
   go_wp2_with (first | ((with_reducible refine gate_callee (f := 68) rfl ?_); refine goesL_ (some 4) rfl rfl Tryd.func68 (by kernel_rfl) rfl #[.int .i32 a0] rfl aP ?_; (with_reducible refine (runes_Valid.calls a0 true _ A2.out).mono ?_); rintro e w' ⟨rfl, ⟨nd, rfl⟩⟩; refine ⟨_, rfl, ?_⟩) | (go_at_call 69; (with_reducible refine (runes_Control.calls k a0 false _ A4.out).mono ?_); rintro e w' ⟨rfl, ⟨nd, rfl⟩⟩))
   go_ret
   exact ⟨sA, by repeat (first | exact Drawn0.refl _ | apply Drawn0.step)⟩
 ·replace c3 := Bool.eq_false_iff.mpr c3
  subst c3
  have H1 : (some 65533) = some r := by rw [if_neg (show ¬ (false = true) by decide)] at H; exact H
  clear H
  have H := H1
  clear H1
  obtain rfl := Option.some.inj H
  go_enter Tryd.func67, Tryd.ntmps67
  go_wp2_with (first | ((with_reducible refine gate_callee (f := 68) rfl ?_); refine goesL_ (some 4) rfl rfl Tryd.func68 (by kernel_rfl) rfl #[.int .i32 a0] rfl aP ?_; (with_reducible refine (runes_Valid.calls a0 false _ A2.out).mono ?_); rintro e w' ⟨rfl, ⟨nd, rfl⟩⟩; refine ⟨_, rfl, ?_⟩))
  go_ret
  exact ⟨sA, by repeat (first | exact Drawn0.refl _ | apply Drawn0.step)⟩

/-! ### cells_Clean: function 52 -/
mutual
def cells_Clean.l0 : Nat → List (S44) → List (S44) → Int → Int → Option ((List (S44)))
 | 0, _, _, _, _ => none
 | k + 1, x3, x6, x7, x8 => if x8 < x7 then (if 0 ≤ x8 then (if x8 < (x6.length : Int) then (if ((rd_T44 x6 x8).f0) = 160 then (cells_Clean.j1 k x3 x6 x7 x8 32 ((rd_T44 x6 x8).f1)) else (cells_Clean.j1 k x3 x6 x7 x8 ((rd_T44 x6 x8).f0) ((rd_T44 x6 x8).f1))) else (none)) else (none)) else (some x3)
def cells_Clean.j1 : Nat → List (S44) → List (S44) → Int → Int → Int → Int → Option ((List (S44)))
 | 0, _, _, _, _, _, _ => none
 | k + 1, x3, x6, x7, x8, x120000, x120001 => (runes_Safe.f k x120000).bind fun t120 => (if (x3.length : Int) > 0 then (if x3.length < 17592186044416 then (cells_Clean.l0 k (x3 ++ [(⟨t120, Go.bits .and .u8 x120001 3⟩ : S44)]) x6 x7 (wrap64 (x8 + 1))) else (none)) else ((runes_Width.f t120).bind fun t124 => (if t124 > 0 then (if x3.length < 17592186044416 then (cells_Clean.l0 k (x3 ++ [(⟨t120, Go.bits .and .u8 x120001 3⟩ : S44)]) x6 x7 (wrap64 (x8 + 1))) else (none)) else (cells_Clean.l0 k x3 x6 x7 (wrap64 (x8 + 1))))))
end
def cells_Clean.f (k : Nat) (l0 : List (S44)) : Option ((List (S44))) := cells_Clean.l0 k ([] : List (S44)) l0 (l0.length : Int) 0
theorem cells_Clean.mono_l : ∀ k, (∀ y0 y1 y2 y3, LeO (cells_Clean.l0 k y0 y1 y2 y3) (cells_Clean.l0 (k + 1) y0 y1 y2 y3)) ∧ (∀ y0 y1 y2 y3 y4 y5, LeO (cells_Clean.j1 k y0 y1 y2 y3 y4 y5) (cells_Clean.j1 (k + 1) y0 y1 y2 y3 y4 y5))
 | 0 => ⟨fun _ _ _ _ r h => by simp [cells_Clean.l0] at h, fun _ _ _ _ _ _ r h => by simp [cells_Clean.j1] at h⟩
 | k + 1 => by
  obtain ⟨ih0, ih1⟩ := cells_Clean.mono_l k
  refine ⟨?_, ?_⟩
  ·intro y0 y1 y2 y3
   unfold cells_Clean.l0
   repeat' first
   | (with_reducible exact ih0 _ _ _ _)
   | (with_reducible exact ih1 _ _ _ _ _ _)
   | (with_reducible exact runes_Safe.mono _ _)
   | (with_reducible exact LeO.refl _)
   | (with_reducible exact LeO.none _)
   | (with_reducible refine LeO.ite ?_ ?_)
   | (with_reducible refine LeO.bind ?_ (fun _ => ?_))
  ·intro y0 y1 y2 y3 y4 y5
   unfold cells_Clean.j1
   repeat' first
   | (with_reducible exact ih0 _ _ _ _)
   | (with_reducible exact ih1 _ _ _ _ _ _)
   | (with_reducible exact runes_Safe.mono _ _)
   | (with_reducible exact LeO.refl _)
   | (with_reducible exact LeO.none _)
   | (with_reducible refine LeO.ite ?_ ?_)
   | (with_reducible refine LeO.bind ?_ (fun _ => ?_))
theorem cells_Clean.mono : ∀ a0 k, LeO (cells_Clean.f k a0) (cells_Clean.f (k + 1) a0) := by
 intro a0 k
 obtain ⟨ih0, ih1⟩ := cells_Clean.mono_l k
 unfold cells_Clean.f
 repeat' first
   | (with_reducible exact ih0 _ _ _ _)
   | (with_reducible exact ih1 _ _ _ _ _ _)
   | (with_reducible exact runes_Safe.mono _ _)
   | (with_reducible exact LeO.refl _)
   | (with_reducible exact LeO.none _)
   | (with_reducible refine LeO.ite ?_ ?_)
   | (with_reducible refine LeO.bind ?_ (fun _ => ?_))
theorem cells_Clean.calls (k : Nat) (A0 : Option Addr) (c0 : Nat) (l0 : List (S44)) (r : List (S44)) (w : World) (hr0 : Kd.C k44 w A0 l0.length l0) (hc0 : l0.length ≤ c0) (hG : GOK [0] w) (h : cells_Clean.f k l0 = some r) :
  Calls Tryd.prog 52 #[.slice A0 l0.length c0] w fun e w' => ∃ v0_ : Value, e = .returned (v0_) ∧ Kd.R k44 44 w' w.heap.size (fun _ => True) v0_ r ∧ Below w.heap.size w w' := by
 have hu44 := Tryd.underlying44
 have HG := Aside0.mk hG
 clear hG
 have HR0 := Aside0.mk hr0
 have HC0 := Aside0.mk hc0
 clear hr0 hc0
 have HB := Aside0.mk (Below.refl w.heap.size w)
 have H : (cells_Clean.l0 k ([] : List (S44)) l0 (l0.length : Int) 0) = some r := h
 clear h
 have H' := Aside0.mk H
 clear H
 go_enter Tryd.func52, Tryd.ntmps52
 go_wp2
 go_loopg [3, 8] k (fun kq v3 v8 w' => ∃ (x3_1 : List (S44)) (x8_1 : Int), v8 = .int .i64 x8_1 ∧ Aside0 (cells_Clean.l0 kq x3_1 l0 (l0.length : Int) x8_1 = some r) ∧ Aside0 (kq ≤ k) ∧ Aside0 (Kd.R k44 44 w' w.heap.size (fun _ => True) v3 x3_1) ∧ Aside0 (Below w.heap.size w w'))
 case atStart => exact ⟨(([] : List (S44))), (0), sA, H', ⟨Nat.le_refl _⟩, ⟨by first | exact Kd.R_nil _ _ _ _ _ | exact Kd.N_nil _ _ _ _ _ | exact Kd.V_nil _ _ _ _ _ | exact Kd.Q_nil _ _ _ _ _ | exact Kd.S_nil _ _ _ _ _⟩, ⟨bA⟩⟩
 case round =>
  clear H'
  obtain ⟨x3_1, x8_1, rfl, HA, HK1, HO_3, HB⟩ := hrel
  cases gk with
  | zero => exact absurd HA.out (by simp [cells_Clean.l0])
  | succ k1 =>
   have H := HA.out
   clear HA
   simp only [cells_Clean.l0] at H
   by_cases c2 : x8_1 < (l0.length : Int)
   ·rw [if_pos c2] at H
    have c2b0 : decide (x8_1 < (l0.length : Int)) = true := decide_eq_true c2
    clear c2
    by_cases c3 : 0 ≤ x8_1
    ·rw [if_pos c3] at H
     have c3b0 : decide (0 ≤ x8_1) = true := decide_eq_true c3
     clear c3
     by_cases c4 : x8_1 < (l0.length : Int)
     ·rw [if_pos c4] at H
      have c4b0 : decide (x8_1 < (l0.length : Int)) = true := decide_eq_true c4
      clear c4
      have HC5 := Aside0.mk H
      clear H
      have p118 : 0 ≤ (x8_1 : Int) := of_decide_eq_true asA
      have q118 : x8_1 < (l0.length : Int) := of_decide_eq_true asA
      obtain ⟨ad118, e118, hx118_0, hx118_1⟩ := at_T44 HR0.out x8_1 p118 q118
      cases e118
      replace hx118_0 := (HB.out.cell (World.block_lt_of_cell? w _ hx118_0)).trans hx118_0
      replace hx118_1 := (HB.out.cell (World.block_lt_of_cell? w _ hx118_1)).trans hx118_1
      replace p118 := eq_true p118
      replace q118 := eq_true q118
      go_upto_if 14 with (first | ((with_reducible refine gate_dst (N := 5) rfl ?_); refine box_event ?hg (N := 5) ?hd (cs := #[.int .i32 0, .int .u8 0]) (t := 44) ?hr ?_; (case hd => rfl); (case hg => rfl); (case hr => first | (go_simp; done) | (go_simp; rfl)); intro gb119 hg w6 hbox hb; replace HO_3 := Aside0.mk (Kd.R_below (Kd.R_elderB (kR HO_3) gb119 (Nat.le_of_eq hg.symm)) hb); have BK119 := Aside0.mk (hbox); have GW119 := Aside0.mk ((geA hg : w.heap.size ≤ gb119)); have GE119 := Aside0.mk ((geA hg : w.heap.size ≤ gb119)); replace HB := Aside0.mk (below_step bA hb); clear hb hbox hg; have hcz7_0 : w6.cell? ⟨gb119, 0, none⟩ = some (.int .i32 0) := (blk_cell BK119.out 0).trans rfl; have hcz7_1 : w6.cell? ⟨gb119, 1, none⟩ = some (.int .u8 0) := (blk_cell BK119.out 1).trans rfl; have hfz7_0 := blk_frozen BK119.out 0; have hfz7_1 := blk_frozen BK119.out 1))
      (try simp only [Act.put, List.setIfInBounds_toArray, List.set_cons_zero, List.set_cons_succ])
      go_cut [] (fun wc => ∃ (kq : Nat) (x120000_4 : Int), Aside0 (cells_Clean.j1 kq x3_1 l0 (l0.length : Int) x8_1 x120000_4 ((rd_T44 l0 x8_1).f1) = some r) ∧ Aside0 (kq ≤ k1) ∧ Aside0 (Kd.R k44 44 wc w.heap.size (fun k_ => k_ ≠ gb119) u3 x3_1) ∧ Aside0 (wc.heap[gb119]? = some (.cells #[.int .i32 x120000_4, .int .u8 ((rd_T44 l0 x8_1).f1)] 44 (0, 0))) ∧ Aside0 (Below w.heap.size w wc))
      case first =>
       have H := HC5.out
       clear HC5
       by_cases c8 : ((rd_T44 l0 x8_1).f0) = 160
       ·rw [if_pos c8] at H
        have c8b0 : (((rd_T44 l0 x8_1).f0) == 160) = true := beq_iff_eq.mpr c8
        have c8b1 : (((rd_T44 l0 x8_1).f0) != 160) = false := bne_eq_false_iff_eq.mpr c8
        clear c8
        (first | rw [c8b0] | (simp only [i64_w, i32_w]; rw [c8b0]) | skip)
        have H' := Aside0.mk H
        clear H
        have hcz9_0 : w6.cell? ⟨gb119, 0, none⟩ = some (.int .i32 0) := (blk_cell BK119.out 0).trans rfl
        have hcz9_1 : w6.cell? ⟨gb119, 1, none⟩ = some (.int .u8 0) := (blk_cell BK119.out 1).trans rfl
        have hfz9_0 := blk_frozen BK119.out 0
        have hfz9_1 := blk_frozen BK119.out 1
        go_wp2
        go_meet
        case rel => exact ⟨_, (32), H', ⟨by have := HK1.out; first | omega | exact Nat.le_refl _⟩, ⟨by (with_reducible repeat (first | apply Kd.R_alloc | apply Kd.R_drewN | apply Kd.R_drew)); exact Kd.R_mono (Kd.R_far (p := ⟨gb119, 0, none⟩) (Kd.R_far (p := ⟨gb119, 1, none⟩) (Kd.R_far (p := ⟨gb119, 0, none⟩) (Kd.R_mono HO_3.out (fun k_ hk => (⟨hk, hk.2⟩ : _ ∧ k_ ≠ gb119))) (fun _ hk => hk.2) (.int .i32 ((rd_T44 l0 x8_1).f0))) (fun _ hk => hk.2) (.int .u8 ((rd_T44 l0 x8_1).f1))) (fun _ hk => hk.2) (.int .i32 32)) (fun _ hk => hk.1.2)⟩, ⟨by (with_reducible repeat (first | refine blk_drewN ?_ _ | refine blk_drew ?_ | refine blk_alloc ?_ _)); refine blk_put (cs := #[.int .i32 ((rd_T44 l0 x8_1).f0), .int .u8 ((rd_T44 l0 x8_1).f1)]) ?_ 0 _ rfl; (with_reducible repeat (first | refine blk_drewN ?_ _ | refine blk_drew ?_ | refine blk_alloc ?_ _)); refine blk_put (cs := #[.int .i32 ((rd_T44 l0 x8_1).f0), .int .u8 0]) ?_ 1 _ rfl; (with_reducible repeat (first | refine blk_drewN ?_ _ | refine blk_drew ?_ | refine blk_alloc ?_ _)); refine blk_put (cs := #[.int .i32 0, .int .u8 0]) ?_ 0 _ rfl; (with_reducible repeat (first | refine blk_drewN ?_ _ | refine blk_drew ?_ | refine blk_alloc ?_ _)); exact BK119.out⟩, ⟨bG⟩⟩
       ·rw [if_neg c8] at H
        have c8b0 : (((rd_T44 l0 x8_1).f0) == 160) = false := beq_eq_false_iff_ne.mpr c8
        have c8b1 : (((rd_T44 l0 x8_1).f0) != 160) = true := bne_iff_ne.mpr c8
        (first | rw [c8b0] | (simp only [i64_w, i32_w]; rw [c8b0]) | skip)
        have H' := Aside0.mk H
        clear H
        go_wp2
        go_meet
        case rel => exact ⟨_, ((rd_T44 l0 x8_1).f0), H', ⟨by have := HK1.out; first | omega | exact Nat.le_refl _⟩, ⟨by (with_reducible repeat (first | apply Kd.R_alloc | apply Kd.R_drewN | apply Kd.R_drew)); exact Kd.R_mono (Kd.R_far (p := ⟨gb119, 1, none⟩) (Kd.R_far (p := ⟨gb119, 0, none⟩) (Kd.R_mono HO_3.out (fun k_ hk => (⟨hk, hk.2⟩ : _ ∧ k_ ≠ gb119))) (fun _ hk => hk.2) (.int .i32 ((rd_T44 l0 x8_1).f0))) (fun _ hk => hk.2) (.int .u8 ((rd_T44 l0 x8_1).f1))) (fun _ hk => hk.1.2)⟩, ⟨by (with_reducible repeat (first | refine blk_drewN ?_ _ | refine blk_drew ?_ | refine blk_alloc ?_ _)); refine blk_put (cs := #[.int .i32 ((rd_T44 l0 x8_1).f0), .int .u8 0]) ?_ 1 _ rfl; (with_reducible repeat (first | refine blk_drewN ?_ _ | refine blk_drew ?_ | refine blk_alloc ?_ _)); refine blk_put (cs := #[.int .i32 0, .int .u8 0]) ?_ 0 _ rfl; (with_reducible repeat (first | refine blk_drewN ?_ _ | refine blk_drew ?_ | refine blk_alloc ?_ _)); exact BK119.out⟩, ⟨bG⟩⟩
      case rest =>
       clear HC5
       try clear p1
       try clear q1
       try clear hx1
       try clear c2
       try clear c2b0
       try clear p2
       try clear c3
       try clear c3b0
       try clear c4
       try clear c4b0
       try clear c5
       try clear c8
       try clear c8b0
       try clear c8b1
       try clear hcz7_0
       try clear hcz7_1
       try clear hcz9_0
       try clear hcz9_1
       try clear hfz7_0
       try clear hfz7_1
       try clear hfz9_0
       try clear hfz9_1
       try clear hx118_0
       try clear hx118_1
       try clear p118
       try clear q118
       obtain ⟨kq, x120000_4, HA, HJ4, HO_3, BK119, HB⟩ := hcut
       cases kq with
       | zero => exact absurd HA.out (by simp [cells_Clean.j1])
       | succ kj4 =>
        have H := HA.out
        clear HA
        simp only [cells_Clean.j1] at H
        replace H := Option.bind_eq_some_iff.mp H
        obtain ⟨t120, A100, H⟩ := H
        replace H : (if (x3_1.length : Int) > 0 then (if x3_1.length < 17592186044416 then (cells_Clean.l0 kj4 (x3_1 ++ [(⟨t120, Go.bits .and .u8 ((rd_T44 l0 x8_1).f1) 3⟩ : S44)]) l0 (l0.length : Int) (wrap64 (x8_1 + 1))) else (none)) else ((runes_Width.f t120).bind fun t124 => (if t124 > 0 then (if x3_1.length < 17592186044416 then (cells_Clean.l0 kj4 (x3_1 ++ [(⟨t120, Go.bits .and .u8 ((rd_T44 l0 x8_1).f1) 3⟩ : S44)]) l0 (l0.length : Int) (wrap64 (x8_1 + 1))) else (none)) else (cells_Clean.l0 kj4 x3_1 l0 (l0.length : Int) (wrap64 (x8_1 + 1)))))) = some r := H
        have A10 := Aside0.mk A100
        clear A100
        by_cases c11 : (x3_1.length : Int) > 0
        ·rw [if_pos c11] at H
         have c11b0 : decide (0 < (x3_1.length : Int)) = true := decide_eq_true c11
         have c11b1 : decide (0 < x3_1.length) = true := decide_eq_true (by omega)
         clear c11
         by_cases c12 : x3_1.length < 17592186044416
         ·rw [if_pos c12] at H
          have LMc12 := Aside0.mk c12
          clear c12
          obtain ⟨y121, hy121⟩ : ∃ y_ : List (S44), y_ = (x3_1 ++ [(⟨t120, Go.bits .and .u8 ((rd_T44 l0 x8_1).f1) 3⟩ : S44)]) := ⟨_, rfl⟩
          replace H : (cells_Clean.l0 kj4 y121 l0 (l0.length : Int) (wrap64 (x8_1 + 1))) = some r := hyA hy121 H
          have Ny121 := Aside0.mk hy121
          clear hy121
          have H' := Aside0.mk H
          clear H
          have hcz13_0 : wc.cell? ⟨gb119, 0, none⟩ = some (.int .i32 x120000_4) := (blk_cell BK119.out 0).trans rfl
          have hcz13_1 : wc.cell? ⟨gb119, 1, none⟩ = some (.int .u8 ((rd_T44 l0 x8_1).f1)) := (blk_cell BK119.out 1).trans rfl
          have hfz13_0 := blk_frozen BK119.out 0
          have hfz13_1 := blk_frozen BK119.out 1
          go_wp2_with (first | ((with_reducible refine gate_callee (f := 67) rfl ?_); refine goesL_ (some 18) rfl rfl Tryd.func67 (by kernel_rfl) rfl #[.int .i32 x120000_4] rfl aP ?_; (with_reducible refine (runes_Safe.calls kj4 x120000_4 t120 _ A10.out).mono ?_); rintro e w' ⟨rfl, ⟨nd, rfl⟩⟩; refine ⟨_, rfl, ?_⟩; (try (rw [drewN_self wc]; generalize hq_ : World.drewN wc _ = wc; have n0_ : Aside0 (Kd.R k44 44 wc w.heap.size (fun k_ => k_ ≠ gb119) u3 x3_1) := ⟨by rw [← hq_]; exact (kR HO_3)⟩; have n1_ : Aside0 (wc.heap[gb119]? = some (.cells #[.int .i32 x120000_4, .int .u8 ((rd_T44 l0 x8_1).f1)] 44 (0, 0))) := ⟨by rw [← hq_]; exact (kB BK119)⟩; have n2_ : Aside0 (Below w.heap.size w wc) := ⟨by rw [← hq_]; exact bG⟩; clear HO_3 BK119 HB hq_; have HO_3 := n0_; have BK119 := n1_; have HB := n2_; clear n0_ n1_ n2_)); (try (have hcz14_0 : wc.cell? ⟨gb119, 0, none⟩ = some (.int .i32 x120000_4) := (blk_cell BK119.out 0).trans rfl; have hcz14_1 : wc.cell? ⟨gb119, 1, none⟩ = some (.int .u8 ((rd_T44 l0 x8_1).f1)) := (blk_cell BK119.out 1).trans rfl; have hfz14_0 := blk_frozen BK119.out 0; have hfz14_1 := blk_frozen BK119.out 1)); obtain ⟨Ao15, co15, eo15⟩ := Kd.R_slice HO_3.out; subst eo15) | ((with_reducible refine gate_builtin (b := .append) (xs := #[.tmp 33, .tmp 35]) rfl ?_); at_builtin; refine Kd.R_append k44 (w0 := w) w.heap.size rfl (.tmp 33) (.tmp 35) 33 44 (.agg #[(.int .i32 0), (.int .u8 0)]) 8 rfl Tryd.underlying33 info44 rfl (by decide) (by omega) (.slice Ao15 x3_1.length co15) x3_1 (⟨t120, Go.bits .and .u8 ((rd_T44 l0 x8_1).f1) 3⟩ : S44) [.int .i32 t120, .int .u8 (Go.bits .and .u8 ((rd_T44 l0 x8_1).f1) 3)] (fun k_ => k_ ≠ gb119) (fun _ => False) rfl (by first | (go_simp; done) | (go_simp; rfl)) ?aP (fun _ hk => hk.elim) ?aF ?aO ?aB ?aS ?aL ?_; (case aP => exact k44_mkM _ _ _ (⟨t120, Go.bits .and .u8 ((rd_T44 l0 x8_1).f1) 3⟩ : S44)); (case aB => exact bG); (case aF => exact (fun k_ hk => Kd.freshB (g := gb119) (o := .cells #[.int .i32 t120, .int .u8 (Go.bits .and .u8 ((rd_T44 l0 x8_1).f1) 3)] 44 (0, 0)) (by (with_reducible repeat (first | refine blk_drewN ?_ _ | refine blk_drew ?_ | refine blk_alloc ?_ _)); refine blk_put (cs := #[.int .i32 t120, .int .u8 ((rd_T44 l0 x8_1).f1)]) ?_ 1 _ rfl; (with_reducible repeat (first | refine blk_drewN ?_ _ | refine blk_drew ?_ | refine blk_alloc ?_ _)); refine blk_put (cs := #[.int .i32 x120000_4, .int .u8 ((rd_T44 l0 x8_1).f1)]) ?_ 0 _ rfl; (with_reducible repeat (first | refine blk_drewN ?_ _ | refine blk_drew ?_ | refine blk_alloc ?_ _)); exact BK119.out) k_ hk)); (case aO => exact (by (with_reducible repeat (first | apply Kd.R_alloc | apply Kd.R_drewN | apply Kd.R_drew)); exact Kd.R_mono (Kd.R_far (p := ⟨gb119, 1, none⟩) (Kd.R_far (p := ⟨gb119, 0, none⟩) (Kd.R_mono HO_3.out (fun k_ hk => (⟨hk, hk⟩ : _ ∧ k_ ≠ gb119))) (fun _ hk => hk.2) (.int .i32 t120)) (fun _ hk => hk.2) (.int .u8 (Go.bits .and .u8 ((rd_T44 l0 x8_1).f1) 3))) (fun _ hk => hk.1))); (case aS => exact (below_size bG)); (case aL => have := LMc12.out; omega); intro v122 w16 ho hb hg hat; rw [← Ny121.out] at ho; have n0_ := Aside0.mk (blk_grown (g := gb119) (o := .cells #[.int .i32 t120, .int .u8 (Go.bits .and .u8 ((rd_T44 l0 x8_1).f1) 3)] 44 (0, 0)) (by (with_reducible repeat (first | refine blk_drewN ?_ _ | refine blk_drew ?_ | refine blk_alloc ?_ _)); refine blk_put (cs := #[.int .i32 t120, .int .u8 ((rd_T44 l0 x8_1).f1)]) ?_ 1 _ rfl; (with_reducible repeat (first | refine blk_drewN ?_ _ | refine blk_drew ?_ | refine blk_alloc ?_ _)); refine blk_put (cs := #[.int .i32 x120000_4, .int .u8 ((rd_T44 l0 x8_1).f1)]) ?_ 0 _ rfl; (with_reducible repeat (first | refine blk_drewN ?_ _ | refine blk_drew ?_ | refine blk_alloc ?_ _)); exact BK119.out) hg (Kd.R_away HO_3.out (fun _ hk => hk))); have n1_ := Aside0.mk (hb); have n2_ := Aside0.mk (ho); clear BK119; clear HB; clear HO_3; have BK119 := n0_; have HB := n1_; have HO123 := n2_; clear n0_ n1_ n2_; clear ho hb hg hat))
          go_roundg kj4
          case measure => have := HK1.out; have := HJ4.out; omega
          case rel => exact ⟨(y121), (wrap64 (x8_1 + 1)), sA, H', ⟨by have := HK1.out; have := HJ4.out; omega⟩, ⟨by (with_reducible repeat (first | apply Kd.R_alloc | apply Kd.R_drewN | apply Kd.R_drew)); exact Kd.R_mono HO123.out (fun _ hk => trivial)⟩, ⟨bG⟩⟩
         ·rw [if_neg c12] at H
          exact absurd H (by simp)
        ·rw [if_neg c11] at H
         have c11b0 : decide (0 < (x3_1.length : Int)) = false := decide_eq_false c11
         have c11b1 : decide (0 < x3_1.length) = false := decide_eq_false (by omega)
         clear c11
         replace H := Option.bind_eq_some_iff.mp H
         obtain ⟨t124, A170, H⟩ := H
         replace H : (if t124 > 0 then (if x3_1.length < 17592186044416 then (cells_Clean.l0 kj4 (x3_1 ++ [(⟨t120, Go.bits .and .u8 ((rd_T44 l0 x8_1).f1) 3⟩ : S44)]) l0 (l0.length : Int) (wrap64 (x8_1 + 1))) else (none)) else (cells_Clean.l0 kj4 x3_1 l0 (l0.length : Int) (wrap64 (x8_1 + 1)))) = some r := H
         have A17 := Aside0.mk A170
         clear A170
         by_cases c18 : t124 > 0
         ·rw [if_pos c18] at H
          have c18b0 : decide (0 < t124) = true := decide_eq_true c18
          clear c18
          by_cases c19 : x3_1.length < 17592186044416
          ·rw [if_pos c19] at H
           have LMc19 := Aside0.mk c19
           clear c19
           obtain ⟨y125, hy125⟩ : ∃ y_ : List (S44), y_ = (x3_1 ++ [(⟨t120, Go.bits .and .u8 ((rd_T44 l0 x8_1).f1) 3⟩ : S44)]) := ⟨_, rfl⟩
           replace H : (cells_Clean.l0 kj4 y125 l0 (l0.length : Int) (wrap64 (x8_1 + 1))) = some r := hyA hy125 H
           have Ny125 := Aside0.mk hy125
           clear hy125
           have H' := Aside0.mk H
           clear H
           have hcz20_0 : wc.cell? ⟨gb119, 0, none⟩ = some (.int .i32 x120000_4) := (blk_cell BK119.out 0).trans rfl
           have hcz20_1 : wc.cell? ⟨gb119, 1, none⟩ = some (.int .u8 ((rd_T44 l0 x8_1).f1)) := (blk_cell BK119.out 1).trans rfl
           have hfz20_0 := blk_frozen BK119.out 0
           have hfz20_1 := blk_frozen BK119.out 1
           go_wp2_with (first | ((with_reducible refine gate_callee (f := 67) rfl ?_); refine goesL_ (some 18) rfl rfl Tryd.func67 (by kernel_rfl) rfl #[.int .i32 x120000_4] rfl aP ?_; (with_reducible refine (runes_Safe.calls kj4 x120000_4 t120 _ A10.out).mono ?_); rintro e w' ⟨rfl, ⟨nd, rfl⟩⟩; refine ⟨_, rfl, ?_⟩; (try (rw [drewN_self wc]; generalize hq_ : World.drewN wc _ = wc; have n0_ : Aside0 (Kd.R k44 44 wc w.heap.size (fun k_ => k_ ≠ gb119) u3 x3_1) := ⟨by rw [← hq_]; exact (kR HO_3)⟩; have n1_ : Aside0 (wc.heap[gb119]? = some (.cells #[.int .i32 x120000_4, .int .u8 ((rd_T44 l0 x8_1).f1)] 44 (0, 0))) := ⟨by rw [← hq_]; exact (kB BK119)⟩; have n2_ : Aside0 (Below w.heap.size w wc) := ⟨by rw [← hq_]; exact bG⟩; clear HO_3 BK119 HB hq_; have HO_3 := n0_; have BK119 := n1_; have HB := n2_; clear n0_ n1_ n2_)); (try (have hcz21_0 : wc.cell? ⟨gb119, 0, none⟩ = some (.int .i32 x120000_4) := (blk_cell BK119.out 0).trans rfl; have hcz21_1 : wc.cell? ⟨gb119, 1, none⟩ = some (.int .u8 ((rd_T44 l0 x8_1).f1)) := (blk_cell BK119.out 1).trans rfl; have hfz21_0 := blk_frozen BK119.out 0; have hfz21_1 := blk_frozen BK119.out 1)); obtain ⟨Ao22, co22, eo22⟩ := Kd.R_slice HO_3.out; subst eo22) | (go_at_call 53; (with_reducible refine (runes_Width.calls t120 t124 _ ?side1 A17.out).mono ?_); (case side1 => exact GOK.of_below (GOK.sub HG.out rfl) bG); rintro e w' ⟨rfl, ⟨nd, rfl⟩⟩) | ((with_reducible refine gate_builtin (b := .append) (xs := #[.tmp 33, .tmp 35]) rfl ?_); at_builtin; refine Kd.R_append k44 (w0 := w) w.heap.size rfl (.tmp 33) (.tmp 35) 33 44 (.agg #[(.int .i32 0), (.int .u8 0)]) 8 rfl Tryd.underlying33 info44 rfl (by decide) (by omega) (.slice Ao22 x3_1.length co22) x3_1 (⟨t120, Go.bits .and .u8 ((rd_T44 l0 x8_1).f1) 3⟩ : S44) [.int .i32 t120, .int .u8 (Go.bits .and .u8 ((rd_T44 l0 x8_1).f1) 3)] (fun k_ => k_ ≠ gb119) (fun _ => False) rfl (by first | (go_simp; done) | (go_simp; rfl)) ?aP (fun _ hk => hk.elim) ?aF ?aO ?aB ?aS ?aL ?_; (case aP => exact k44_mkM _ _ _ (⟨t120, Go.bits .and .u8 ((rd_T44 l0 x8_1).f1) 3⟩ : S44)); (case aB => exact bG); (case aF => exact (fun k_ hk => Kd.freshB (g := gb119) (o := .cells #[.int .i32 t120, .int .u8 (Go.bits .and .u8 ((rd_T44 l0 x8_1).f1) 3)] 44 (0, 0)) (by (with_reducible repeat (first | refine blk_drewN ?_ _ | refine blk_drew ?_ | refine blk_alloc ?_ _)); refine blk_put (cs := #[.int .i32 t120, .int .u8 ((rd_T44 l0 x8_1).f1)]) ?_ 1 _ rfl; (with_reducible repeat (first | refine blk_drewN ?_ _ | refine blk_drew ?_ | refine blk_alloc ?_ _)); refine blk_put (cs := #[.int .i32 x120000_4, .int .u8 ((rd_T44 l0 x8_1).f1)]) ?_ 0 _ rfl; (with_reducible repeat (first | refine blk_drewN ?_ _ | refine blk_drew ?_ | refine blk_alloc ?_ _)); exact BK119.out) k_ hk)); (case aO => exact (by (with_reducible repeat (first | apply Kd.R_alloc | apply Kd.R_drewN | apply Kd.R_drew)); exact Kd.R_mono (Kd.R_far (p := ⟨gb119, 1, none⟩) (Kd.R_far (p := ⟨gb119, 0, none⟩) (Kd.R_mono HO_3.out (fun k_ hk => (⟨hk, hk⟩ : _ ∧ k_ ≠ gb119))) (fun _ hk => hk.2) (.int .i32 t120)) (fun _ hk => hk.2) (.int .u8 (Go.bits .and .u8 ((rd_T44 l0 x8_1).f1) 3))) (fun _ hk => hk.1))); (case aS => exact (below_size bG)); (case aL => have := LMc19.out; omega); intro v126 w23 ho hb hg hat; rw [← Ny125.out] at ho; have n0_ := Aside0.mk (blk_grown (g := gb119) (o := .cells #[.int .i32 t120, .int .u8 (Go.bits .and .u8 ((rd_T44 l0 x8_1).f1) 3)] 44 (0, 0)) (by (with_reducible repeat (first | refine blk_drewN ?_ _ | refine blk_drew ?_ | refine blk_alloc ?_ _)); refine blk_put (cs := #[.int .i32 t120, .int .u8 ((rd_T44 l0 x8_1).f1)]) ?_ 1 _ rfl; (with_reducible repeat (first | refine blk_drewN ?_ _ | refine blk_drew ?_ | refine blk_alloc ?_ _)); refine blk_put (cs := #[.int .i32 x120000_4, .int .u8 ((rd_T44 l0 x8_1).f1)]) ?_ 0 _ rfl; (with_reducible repeat (first | refine blk_drewN ?_ _ | refine blk_drew ?_ | refine blk_alloc ?_ _)); exact BK119.out) hg (Kd.R_away HO_3.out (fun _ hk => hk))); have n1_ := Aside0.mk (hb); have n2_ := Aside0.mk (ho); clear BK119; clear HB; clear HO_3; have BK119 := n0_; have HB := n1_; have HO127 := n2_; clear n0_ n1_ n2_; clear ho hb hg hat))
           go_roundg kj4
           case measure => have := HK1.out; have := HJ4.out; omega
           case rel => exact ⟨(y125), (wrap64 (x8_1 + 1)), sA, H', ⟨by have := HK1.out; have := HJ4.out; omega⟩, ⟨by (with_reducible repeat (first | apply Kd.R_alloc | apply Kd.R_drewN | apply Kd.R_drew)); exact Kd.R_mono HO127.out (fun _ hk => trivial)⟩, ⟨bG⟩⟩
          ·rw [if_neg c19] at H
           exact absurd H (by simp)
         ·rw [if_neg c18] at H
          have c18b0 : decide (0 < t124) = false := decide_eq_false c18
          clear c18
          have H' := Aside0.mk H
          clear H
          have hcz24_0 : wc.cell? ⟨gb119, 0, none⟩ = some (.int .i32 x120000_4) := (blk_cell BK119.out 0).trans rfl
          have hcz24_1 : wc.cell? ⟨gb119, 1, none⟩ = some (.int .u8 ((rd_T44 l0 x8_1).f1)) := (blk_cell BK119.out 1).trans rfl
          have hfz24_0 := blk_frozen BK119.out 0
          have hfz24_1 := blk_frozen BK119.out 1
          go_wp2_with (first | ((with_reducible refine gate_callee (f := 67) rfl ?_); refine goesL_ (some 18) rfl rfl Tryd.func67 (by kernel_rfl) rfl #[.int .i32 x120000_4] rfl aP ?_; (with_reducible refine (runes_Safe.calls kj4 x120000_4 t120 _ A10.out).mono ?_); rintro e w' ⟨rfl, ⟨nd, rfl⟩⟩; refine ⟨_, rfl, ?_⟩; (try (rw [drewN_self wc]; generalize hq_ : World.drewN wc _ = wc; have n0_ : Aside0 (Kd.R k44 44 wc w.heap.size (fun k_ => k_ ≠ gb119) u3 x3_1) := ⟨by rw [← hq_]; exact (kR HO_3)⟩; have n1_ : Aside0 (wc.heap[gb119]? = some (.cells #[.int .i32 x120000_4, .int .u8 ((rd_T44 l0 x8_1).f1)] 44 (0, 0))) := ⟨by rw [← hq_]; exact (kB BK119)⟩; have n2_ : Aside0 (Below w.heap.size w wc) := ⟨by rw [← hq_]; exact bG⟩; clear HO_3 BK119 HB hq_; have HO_3 := n0_; have BK119 := n1_; have HB := n2_; clear n0_ n1_ n2_)); (try (have hcz25_0 : wc.cell? ⟨gb119, 0, none⟩ = some (.int .i32 x120000_4) := (blk_cell BK119.out 0).trans rfl; have hcz25_1 : wc.cell? ⟨gb119, 1, none⟩ = some (.int .u8 ((rd_T44 l0 x8_1).f1)) := (blk_cell BK119.out 1).trans rfl; have hfz25_0 := blk_frozen BK119.out 0; have hfz25_1 := blk_frozen BK119.out 1)); obtain ⟨Ao26, co26, eo26⟩ := Kd.R_slice HO_3.out; subst eo26) | (go_at_call 53; (with_reducible refine (runes_Width.calls t120 t124 _ ?side1 A17.out).mono ?_); (case side1 => exact GOK.of_below (GOK.sub HG.out rfl) bG); rintro e w' ⟨rfl, ⟨nd, rfl⟩⟩))
          go_roundg kj4
          case measure => have := HK1.out; have := HJ4.out; omega
          case rel => exact ⟨(x3_1), (wrap64 (x8_1 + 1)), sA, H', ⟨by have := HK1.out; have := HJ4.out; omega⟩, ⟨by (with_reducible repeat (first | apply Kd.R_alloc | apply Kd.R_drewN | apply Kd.R_drew)); exact Kd.R_mono (Kd.R_far (p := ⟨gb119, 1, none⟩) (Kd.R_far (p := ⟨gb119, 0, none⟩) (Kd.R_mono HO_3.out (fun k_ hk => (⟨hk, hk⟩ : _ ∧ k_ ≠ gb119))) (fun _ hk => hk.2) (.int .i32 t120)) (fun _ hk => hk.2) (.int .u8 (Go.bits .and .u8 ((rd_T44 l0 x8_1).f1) 3))) (fun _ hk => trivial)⟩, ⟨bG⟩⟩
     ·rw [if_neg c4] at H
      exact absurd H (by simp)
    ·rw [if_neg c3] at H
     exact absurd H (by simp)
   ·rw [if_neg c2] at H
    have c2b0 : decide (x8_1 < (l0.length : Int)) = false := decide_eq_false c2
    clear c2
    obtain rfl := Option.some.inj H
    go_wp2
    go_ret
    exact ⟨_, eW, kR HO_3, bA⟩

/-! ### plain_Normal: function 36 -/
def plain_Normal.l0 : Nat → List (S44) → Int → Int → Option ((List (S44)))
 | 0, _, _, _ => none
 | k + 1, x3, x10, x11 => if x11 < x10 then (if 0 ≤ x11 then (if x11 < (x3.length : Int) then (if ((rd_T44 x3 x11).f0) = 32 then (plain_Normal.l0 k (x3.set (x11 : Int).toNat (⟨(rd_T44 x3 x11).f0, 0⟩ : S44)) x10 (wrap64 (x11 + 1))) else (if x11 > 0 then ((runes_Width.f ((rd_T44 x3 x11).f0)).bind fun t137 => (if t137 = 0 then (if 0 ≤ (wrap64 (x11 - 1)) then (if (wrap64 (x11 - 1)) < (x3.length : Int) then (plain_Normal.l0 k (x3.set (x11 : Int).toNat (⟨(rd_T44 x3 x11).f0, (rd_T44 x3 (wrap64 (x11 - 1))).f1⟩ : S44)) x10 (wrap64 (x11 + 1))) else (none)) else (none)) else (plain_Normal.l0 k x3 x10 (wrap64 (x11 + 1))))) else (plain_Normal.l0 k x3 x10 (wrap64 (x11 + 1))))) else (none)) else (none)) else (some x3)
def plain_Normal.f (k : Nat) (l0 : List (S44)) : Option ((List (S44))) := (cells_Clean.f k l0).bind fun t128 => ((cells_Trim.f k t128).bind fun t131 => (plain_Normal.l0 k t131 (t131.length : Int) 0))
theorem plain_Normal.mono_l : ∀ k, (∀ y0 y1 y2, LeO (plain_Normal.l0 k y0 y1 y2) (plain_Normal.l0 (k + 1) y0 y1 y2))
 | 0 => fun _ _ _ r h => by simp [plain_Normal.l0] at h
 | k + 1 => by
  have ih0 := plain_Normal.mono_l k
  ·intro y0 y1 y2
   unfold plain_Normal.l0
   repeat' first
   | (with_reducible exact ih0 _ _ _)
   | (with_reducible exact cells_Clean.mono _ _)
   | (with_reducible exact cells_Trim.mono _ _)
   | (with_reducible exact LeO.refl _)
   | (with_reducible exact LeO.none _)
   | (with_reducible refine LeO.ite ?_ ?_)
   | (with_reducible refine LeO.bind ?_ (fun _ => ?_))
theorem plain_Normal.mono : ∀ a0 k, LeO (plain_Normal.f k a0) (plain_Normal.f (k + 1) a0) := by
 intro a0 k
 have ih0 := plain_Normal.mono_l k
 unfold plain_Normal.f
 repeat' first
   | (with_reducible exact ih0 _ _ _)
   | (with_reducible exact cells_Clean.mono _ _)
   | (with_reducible exact cells_Trim.mono _ _)
   | (with_reducible exact LeO.refl _)
   | (with_reducible exact LeO.none _)
   | (with_reducible refine LeO.ite ?_ ?_)
   | (with_reducible refine LeO.bind ?_ (fun _ => ?_))
theorem plain_Normal.calls (k : Nat) (A0 : Option Addr) (c0 : Nat) (l0 : List (S44)) (r : List (S44)) (w : World) (hr0 : Kd.C k44 w A0 l0.length l0) (hc0 : l0.length ≤ c0) (hG : GOK [0,1] w) (h : plain_Normal.f k l0 = some r) :
  Calls Tryd.prog 36 #[.slice A0 l0.length c0] w fun e w' => ∃ v0_ : Value, e = .returned (v0_) ∧ Kd.R k44 44 w' w.heap.size (fun _ => True) v0_ r ∧ Below w.heap.size w w' := by
 have hu44 := Tryd.underlying44
 have HG := Aside0.mk hG
 clear hG
 have HR0 := Aside0.mk hr0
 have HC0 := Aside0.mk hc0
 clear hr0 hc0
 have HB := Aside0.mk (Below.refl w.heap.size w)
 have H : ((cells_Clean.f k l0).bind fun t128 => ((cells_Trim.f k t128).bind fun t131 => (plain_Normal.l0 k t131 (t131.length : Int) 0))) = some r := h
 clear h
 replace H := Option.bind_eq_some_iff.mp H
 obtain ⟨t128, A20, H⟩ := H
 replace H : ((cells_Trim.f k t128).bind fun t131 => (plain_Normal.l0 k t131 (t131.length : Int) 0)) = some r := H
 have A2 := Aside0.mk A20
 clear A20
 replace H := Option.bind_eq_some_iff.mp H
 obtain ⟨t131, A30, H⟩ := H
 replace H : (plain_Normal.l0 k t131 (t131.length : Int) 0) = some r := H
 have A3 := Aside0.mk A30
 clear A30
 have H' := Aside0.mk H
 clear H
 go_enter Tryd.func36, Tryd.ntmps36
 go_wp2_with (first | ((with_reducible refine gate_callee (f := 52) rfl ?_); refine goesL_ (some 7) rfl rfl Tryd.func52 (by kernel_rfl) rfl #[.slice A0 l0.length c0] rfl aP ?_; (with_reducible refine (cells_Clean.calls k _ _ l0 t128 _ ?side1 ?side2 ?side3 A2.out).mono ?_); (case side1 => repeat (first | exact HR0.out | (with_reducible refine Kd.C_alloc ?_ _) | (with_reducible refine Kd.C_drewN ?_ _) | (with_reducible refine Kd.C_drew ?_))); (case side2 => exact HC0.out); (case side3 => exact GOK.of_below (GOK.sub HG.out rfl) bA); rintro e w4 ⟨v129, rfl, ho0, hb⟩; refine ⟨_, rfl, ?_⟩; have HO130 := Aside0.mk (Kd.R_lower ho0 (below_size bA)); replace HB := Aside0.mk (below_step bA hb); (try clear hb); (try clear hb2); (try clear hk); (try clear hi); (try clear ho0); obtain ⟨Ao5, co5, eo5⟩ := Kd.R_slice HO130.out; subst eo5) | ((with_reducible refine gate_callee (f := 51) rfl ?_); refine goesL_ (some 8) rfl rfl Tryd.func51 (by kernel_rfl) rfl #[.slice Ao5 t128.length co5] rfl aP ?_; (with_reducible refine (cells_Trim.calls k _ _ t128 t131 _ ?side1 ?side2 ?side3 A3.out).mono ?_); (case side1 => repeat (first | exact (Kd.R_reads' HO130.out).2.2 | (with_reducible refine Kd.C_alloc ?_ _) | (with_reducible refine Kd.C_drewN ?_ _) | (with_reducible refine Kd.C_drew ?_))); (case side2 => exact (Kd.R_reads' HO130.out).2.1); (case side3 => exact GOK.of_below (GOK.sub HG.out rfl) bA); rintro e w6 ⟨v132, rfl, ho0, hb⟩; refine ⟨_, rfl, ?_⟩; have n0_ := Aside0.mk (Kd.R_elder' (kR HO130) (Kd.R_base ho0) hb); have n1_ := Aside0.mk (Kd.R_lower (Kd.R_new' ho0 (Kd.R_lt (kR HO130))) (below_size bA)); have n2_ := Aside0.mk (below_step bA hb); clear HO130; clear HB; have HO130 := n0_; have HO133 := n1_; have HB := n2_; clear n0_ n1_ n2_; (try clear hb); (try clear hb2); (try clear hk); (try clear hi); (try clear ho0); obtain ⟨Ao7, co7, eo7⟩ := Kd.R_slice HO133.out; subst eo7))
 go_loopg [11] k (fun kq v11 w' => ∃ (x3_1 : List (S44)) (x11_1 : Int), v11 = .int .i64 x11_1 ∧ Aside0 (plain_Normal.l0 kq x3_1 (t131.length : Int) x11_1 = some r) ∧ Aside0 (kq ≤ k) ∧ Aside0 (Kd.R k44 44 w' w.heap.size (fun _ => True) (.slice Ao7 t131.length co7) x3_1) ∧ Aside0 (Below w.heap.size w w'))
 case atStart => exact ⟨(t131), (0), sA, H', ⟨Nat.le_refl _⟩, ⟨by (with_reducible repeat (first | apply Kd.R_alloc | apply Kd.R_drewN | apply Kd.R_drew)); exact Kd.R_mono HO133.out (fun _ hk => trivial)⟩, ⟨bA⟩⟩
 case round =>
  clear H'
  try clear p2
  try clear c3
  try clear c5
  obtain ⟨x3_1, x11_1, rfl, HA, HK1, HO_3, HB⟩ := hrel
  have hl3_1 := (Kd.R_reads' HO_3.out).1
  rw [hl3_1] at HO_3
  (try simp only [hl3_1])
  cases gk with
  | zero => exact absurd HA.out (by simp [plain_Normal.l0])
  | succ k1 =>
   have H := HA.out
   clear HA
   simp only [plain_Normal.l0] at H
   by_cases c8 : x11_1 < (t131.length : Int)
   ·rw [if_pos c8] at H
    have c8b0 : decide (x11_1 < (t131.length : Int)) = true := decide_eq_true c8
    (try (have c8b0h := c8b0; simp only [hl3_1] at c8b0h))
    clear c8
    by_cases c9 : 0 ≤ x11_1
    ·rw [if_pos c9] at H
     have c9b0 : decide (0 ≤ x11_1) = true := decide_eq_true c9
     (try (have c9b0h := c9b0; simp only [hl3_1] at c9b0h))
     clear c9
     by_cases c10 : x11_1 < (x3_1.length : Int)
     ·rw [if_pos c10] at H
      have c10b0 : decide (x11_1 < (x3_1.length : Int)) = true := decide_eq_true c10
      (try (have c10b0h := c10b0; simp only [hl3_1] at c10b0h))
      clear c10
      by_cases c11 : ((rd_T44 x3_1 x11_1).f0) = 32
      ·rw [if_pos c11] at H
       have c11b0 : (((rd_T44 x3_1 x11_1).f0) == 32) = true := beq_iff_eq.mpr c11
       have c11b1 : (((rd_T44 x3_1 x11_1).f0) != 32) = false := bne_eq_false_iff_eq.mpr c11
       clear c11
       obtain ⟨y136, hy136⟩ : ∃ y_ : List (S44), y_ = (x3_1.set (x11_1 : Int).toNat (⟨(rd_T44 x3_1 x11_1).f0, 0⟩ : S44)) := ⟨_, rfl⟩
       replace H : (plain_Normal.l0 k1 y136 (t131.length : Int) (wrap64 (x11_1 + 1))) = some r := hyA hy136 H
       have Ny136 := Aside0.mk hy136
       clear hy136
       have H' := Aside0.mk H
       clear H
       have p134 : 0 ≤ (x11_1 : Int) := of_decide_eq_true asA
       have q134 : x11_1 < (x3_1.length : Int) := of_decide_eq_true asA
       obtain ⟨ad134, e134, hx134_0, hx134_1⟩ := at_T44 (Kd.R_reads' HO_3.out).2.2 x11_1 p134 q134
       cases e134
       replace p134 := eq_true p134
       replace q134 := eq_true q134
       go_wp2_with (first | ((with_reducible refine gate_dst (N := 5) rfl ?_); refine box_event ?hg (N := 5) ?hd (cs := #[.int .i32 0, .int .u8 0]) (t := 44) ?hr ?_; (case hd => rfl); (case hg => rfl); (case hr => first | (go_simp; done) | (go_simp; rfl)); intro gb135 hg w13 hbox hb; replace HO_3 := Aside0.mk (Kd.R_below (Kd.R_elderB (kR HO_3) gb135 (Nat.le_of_eq hg.symm)) hb); have BK135 := Aside0.mk (hbox); have GW135 := Aside0.mk ((geA hg : w.heap.size ≤ gb135)); have GE135 := Aside0.mk ((geA hg : w.heap.size ≤ gb135)); replace HB := Aside0.mk (below_step bA hb); clear hb hbox hg; have hcz14_0 : w13.cell? ⟨gb135, 0, none⟩ = some (.int .i32 0) := (blk_cell BK135.out 0).trans rfl; have hcz14_1 : w13.cell? ⟨gb135, 1, none⟩ = some (.int .u8 0) := (blk_cell BK135.out 1).trans rfl; have hfz14_0 := blk_frozen BK135.out 0; have hfz14_1 := blk_frozen BK135.out 1) | ((with_reducible refine gate_store (t := 44) (p := 5) rfl ?_); refine store_event (t := 44) (p := 5) (v := ?vo_w15) (w1 := ((w13.setCell ⟨gb135, 0, none⟩ (.int .i32 ((rd_T44 x3_1 x11_1).f0))).setCell ⟨gb135, 1, none⟩ (.int .u8 ((rd_T44 x3_1 x11_1).f1)))) ?hg ?ho ?hn ?hr ?_; (case ho => rfl); (case hg => rfl); (case hn => rfl); (case hr => first | (go_simp; done) | (go_simp; rfl)); intro w15 hw; have n0_ : Aside0 (Kd.R k44 44 w15 w.heap.size (fun k_ => k_ ≠ gb135) (.slice (some ad134) x3_1.length co7) x3_1) := ⟨(by rw [hw]; exact (by (with_reducible repeat (first | apply Kd.R_alloc | apply Kd.R_drewN | apply Kd.R_drew)); exact Kd.R_mono (Kd.R_far (p := ⟨gb135, 1, none⟩) (Kd.R_far (p := ⟨gb135, 0, none⟩) (Kd.R_mono HO_3.out (fun k_ hk => (⟨hk, hk.2⟩ : _ ∧ k_ ≠ gb135))) (fun _ hk => hk.2) (.int .i32 ((rd_T44 x3_1 x11_1).f0))) (fun _ hk => hk.2) (.int .u8 ((rd_T44 x3_1 x11_1).f1))) (fun _ hk => hk.1.2)))⟩; have n1_ : Aside0 (w15.heap[gb135]? = some (.cells #[.int .i32 ((rd_T44 x3_1 x11_1).f0), .int .u8 ((rd_T44 x3_1 x11_1).f1)] 44 (0, 0))) := ⟨(by rw [hw]; exact (by (with_reducible repeat (first | refine blk_drewN ?_ _ | refine blk_drew ?_ | refine blk_alloc ?_ _)); refine blk_put (cs := #[.int .i32 ((rd_T44 x3_1 x11_1).f0), .int .u8 0]) ?_ 1 _ rfl; (with_reducible repeat (first | refine blk_drewN ?_ _ | refine blk_drew ?_ | refine blk_alloc ?_ _)); refine blk_put (cs := #[.int .i32 0, .int .u8 0]) ?_ 0 _ rfl; (with_reducible repeat (first | refine blk_drewN ?_ _ | refine blk_drew ?_ | refine blk_alloc ?_ _)); exact BK135.out))⟩; have n2_ : Aside0 (Below w.heap.size w w15) := ⟨(by rw [hw]; exact bG)⟩; clear hw; clear HO_3; clear BK135; clear HB; have HO_3 := n0_; have BK135 := n1_; have HB := n2_; clear n0_ n1_ n2_; have hcz16_0 : w15.cell? ⟨gb135, 0, none⟩ = some (.int .i32 ((rd_T44 x3_1 x11_1).f0)) := (blk_cell BK135.out 0).trans rfl; have hcz16_1 : w15.cell? ⟨gb135, 1, none⟩ = some (.int .u8 ((rd_T44 x3_1 x11_1).f1)) := (blk_cell BK135.out 1).trans rfl; have hfz16_0 := blk_frozen BK135.out 0; have hfz16_1 := blk_frozen BK135.out 1; have p12 : 0 ≤ (x11_1 : Int) := of_decide_eq_true asA; have q12 : (x11_1 : Int) < ((x3_1.length : Int) : Int) := of_decide_eq_true asA; obtain ⟨go12, co12, eo12, gb12, gl12, cl12, HG12⟩ := Kd.R_form HO_3.out (by omega); (first | cases eo12 | (injection eo12 with ea_ en_ ec_; (first | subst ea_ | (injection ea_ with ea_; subst ea_)); subst ec_; clear en_)); have GB12 := Aside0.mk gb12; have GG12 := Aside0.mk HG12; clear gb12 gl12 HG12; (first | simp only [add_plain] at hx134_0 | skip); (first | simp only [add_plain] at hx134_1 | skip); obtain ⟨ce12, hcl12, hM12, hcc12, hfr12⟩ := Kd.R_elem HO_3.out z44 (x11_1 : Int) p12 q12; obtain rfl := k44_openM hM12; have hx12_0 : w15.cell? ⟨go12, (x11_1 : Int).toNat * 2, none⟩ = some (.int .i32 ((rd_T44 x3_1 x11_1).f0)) := hcc12 0 _ rfl; have hx12_1 : w15.cell? ⟨go12, (x11_1 : Int).toNat * 2 + 1, none⟩ = some (.int .u8 ((rd_T44 x3_1 x11_1).f1)) := hcc12 1 _ rfl; have hf12_0 : w15.frozen? ⟨go12, (x11_1 : Int).toNat * 2, none⟩ = false := hfr12 0; have hf12_1 : w15.frozen? ⟨go12, (x11_1 : Int).toNat * 2 + 1, none⟩ = false := hfr12 1; clear hcl12 hcc12 hfr12 hM12; replace p12 := eq_true p12; replace q12 := eq_true q12; have HX17 := Aside0.mk (show Kd.R k44 44 w15 w.heap.size (fun k_ => k_ ≠ gb135) (.slice (some ⟨go12, 0, none⟩) x3_1.length co7) x3_1 from (kR HO_3)); obtain ⟨ce17, hcl17, hM17, hcc17, hfr17⟩ := Kd.R_elem HX17.out z44 (x11_1 : Int) (of_decide_eq_true asA) (by have h_ : (x11_1 : Int) < ((x3_1.length : Int) : Int) := of_decide_eq_true asA; first | exact h_ | (have e_ := (Kd.R_reads' HO_3.out).1; omega) | simpa using h_); obtain rfl := k44_openM hM17; have HP17 := Kd.R_seg HX17.out (x11_1 : Int) (of_decide_eq_true asA) (by have h_ : (x11_1 : Int) < ((x3_1.length : Int) : Int) := of_decide_eq_true asA; first | exact h_ | (have e_ := (Kd.R_reads' HO_3.out).1; omega) | simpa using h_) (seg := [.int .u8 0]) (j := 1) hcl17 hcc17 (show 2 ≤ 2 from by decide) (x' := (⟨(rd_T44 x3_1 x11_1).f0, 0⟩ : S44)) (k44_mkM _ _ _ (⟨(rd_T44 x3_1 x11_1).f0, 0⟩ : S44) ) (fun _ hk => hk); have hx17_1 := hcc17 1 _ rfl; (try simp only [show (k44).sz = 2 from rfl, Nat.mul_one, Nat.add_zero] at hx17_1); have hf17_1 := hfr17 1; (try simp only [show (k44).sz = 2 from rfl, Nat.mul_one, Nat.add_zero] at hf17_1); clear hcl17 hcc17 hfr17 hM17) | ((with_reducible refine gate_store (t := 5) (p := 32) rfl ?_); refine store_event (t := 5) (p := 32) (v := ?vo_w18) (w1 := (w15.setCell ⟨go12, (x11_1 : Int).toNat * 2 + 1, none⟩ (.int .u8 0))) ?hg ?ho ?hn ?hr ?_; (case ho => rfl); (case hg => rfl); (case hn => rfl); (case hr => first | (go_simp; done) | (go_simp; rfl)); intro w18 hw; have hg : w15.grownBy w18 (some go12) := (by rw [hw]; exact HP17.2); have hp_ : Kd.R k44 44 w18 w.heap.size (fun k_ => k_ ≠ gb135) (.slice (some ⟨go12, 0, none⟩) x3_1.length co7) y136 := (by rw [hw, Ny136.out]; exact HP17.1); clear HP17; have n0_ := Aside0.mk (hp_); have n1_ := Aside0.mk (blk_grown (g := gb135) (o := .cells #[.int .i32 ((rd_T44 x3_1 x11_1).f0), .int .u8 ((rd_T44 x3_1 x11_1).f1)] 44 (0, 0)) (kB BK135) hg (Kd.R_away HO_3.out (fun _ hk => hk))); have n2_ := Aside0.mk ((by rw [hw]; exact below_set (HB.out) GB12.out : Below w.heap.size w w18)); clear HO_3; clear BK135; clear HB; have HO_3 := n0_; have BK135 := n1_; have HB := n2_; clear n0_ n1_ n2_; clear hg hw hp_))
       (try simp only [← hl3_1])
       go_roundg k1
       case measure => have := HK1.out; omega
       case rel => exact ⟨(y136), (wrap64 (x11_1 + 1)), sA, H', ⟨by have := HK1.out; omega⟩, ⟨by (try simp only [hl3_1]); (with_reducible repeat (first | apply Kd.R_alloc | apply Kd.R_drewN | apply Kd.R_drew)); exact Kd.R_mono HO_3.out (fun _ hk => trivial)⟩, ⟨bG⟩⟩
      ·rw [if_neg c11] at H
       have c11b0 : (((rd_T44 x3_1 x11_1).f0) == 32) = false := beq_eq_false_iff_ne.mpr c11
       have c11b1 : (((rd_T44 x3_1 x11_1).f0) != 32) = true := bne_iff_ne.mpr c11
       by_cases c19 : x11_1 > 0
       ·rw [if_pos c19] at H
        have c19b0 : decide (0 < x11_1) = true := decide_eq_true c19
        (try (have c19b0h := c19b0; simp only [hl3_1] at c19b0h))
        clear c19
        replace H := Option.bind_eq_some_iff.mp H
        obtain ⟨t137, A200, H⟩ := H
        replace H : (if t137 = 0 then (if 0 ≤ (wrap64 (x11_1 - 1)) then (if (wrap64 (x11_1 - 1)) < (x3_1.length : Int) then (plain_Normal.l0 k1 (x3_1.set (x11_1 : Int).toNat (⟨(rd_T44 x3_1 x11_1).f0, (rd_T44 x3_1 (wrap64 (x11_1 - 1))).f1⟩ : S44)) (t131.length : Int) (wrap64 (x11_1 + 1))) else (none)) else (none)) else (plain_Normal.l0 k1 x3_1 (t131.length : Int) (wrap64 (x11_1 + 1)))) = some r := H
        have A20 := Aside0.mk A200
        clear A200
        by_cases c21 : t137 = 0
        ·rw [if_pos c21] at H
         have c21b0 : (t137 == 0) = true := beq_iff_eq.mpr c21
         have c21b1 : (t137 != 0) = false := bne_eq_false_iff_eq.mpr c21
         clear c21
         obtain ⟨ji22, hji22⟩ : ∃ j_ : Int, (wrap64 (x11_1 - 1)) = j_ := ⟨_, rfl⟩
         replace H : (if 0 ≤ (ji22) then (if (ji22) < (x3_1.length : Int) then (plain_Normal.l0 k1 (x3_1.set (x11_1 : Int).toNat (⟨(rd_T44 x3_1 x11_1).f0, (rd_T44 x3_1 (ji22)).f1⟩ : S44)) (t131.length : Int) (wrap64 (x11_1 + 1))) else (none)) else (none)) = some r := by first | (rw [hji22] at H; exact H) | (simp only [hji22] at H ⊢; exact H)
         (try rw [hji22] at A20)
         have hji22w : (IntKind.i64.wrap (x11_1 - 1)) = ji22 := (i64_w _).trans hji22
         by_cases c23 : 0 ≤ (ji22)
         ·rw [if_pos c23] at H
          have c23b0 : decide (0 ≤ (ji22)) = true := decide_eq_true c23
          (try (have c23b0h := c23b0; simp only [hl3_1] at c23b0h))
          clear c23
          by_cases c24 : (ji22) < (x3_1.length : Int)
          ·rw [if_pos c24] at H
           have c24b0 : decide ((ji22) < (x3_1.length : Int)) = true := decide_eq_true c24
           (try (have c24b0h := c24b0; simp only [hl3_1] at c24b0h))
           clear c24
           obtain ⟨y139, hy139⟩ : ∃ y_ : List (S44), y_ = (x3_1.set (x11_1 : Int).toNat (⟨(rd_T44 x3_1 x11_1).f0, (rd_T44 x3_1 (ji22)).f1⟩ : S44)) := ⟨_, rfl⟩
           replace H : (plain_Normal.l0 k1 y139 (t131.length : Int) (wrap64 (x11_1 + 1))) = some r := hyA hy139 H
           have Ny139 := Aside0.mk hy139
           clear hy139
           have H' := Aside0.mk H
           clear H
           have p134 : 0 ≤ (x11_1 : Int) := of_decide_eq_true asA
           have q134 : x11_1 < (x3_1.length : Int) := of_decide_eq_true asA
           obtain ⟨ad134, e134, hx134_0, hx134_1⟩ := at_T44 (Kd.R_reads' HO_3.out).2.2 x11_1 p134 q134
           cases e134
           replace p134 := eq_true p134
           replace q134 := eq_true q134
           go_wp2_with (first | ((with_reducible refine gate_dst (N := 5) rfl ?_); refine box_event ?hg (N := 5) ?hd (cs := #[.int .i32 0, .int .u8 0]) (t := 44) ?hr ?_; (case hd => rfl); (case hg => rfl); (case hr => first | (go_simp; done) | (go_simp; rfl)); intro gb135 hg w26 hbox hb; replace HO_3 := Aside0.mk (Kd.R_below (Kd.R_elderB (kR HO_3) gb135 (Nat.le_of_eq hg.symm)) hb); have BK135 := Aside0.mk (hbox); have GW135 := Aside0.mk ((geA hg : w.heap.size ≤ gb135)); have GE135 := Aside0.mk ((geA hg : w.heap.size ≤ gb135)); replace HB := Aside0.mk (below_step bA hb); clear hb hbox hg; have hcz27_0 : w26.cell? ⟨gb135, 0, none⟩ = some (.int .i32 0) := (blk_cell BK135.out 0).trans rfl; have hcz27_1 : w26.cell? ⟨gb135, 1, none⟩ = some (.int .u8 0) := (blk_cell BK135.out 1).trans rfl; have hfz27_0 := blk_frozen BK135.out 0; have hfz27_1 := blk_frozen BK135.out 1) | ((with_reducible refine gate_store (t := 44) (p := 5) rfl ?_); refine store_event (t := 44) (p := 5) (v := ?vo_w28) (w1 := ((w26.setCell ⟨gb135, 0, none⟩ (.int .i32 ((rd_T44 x3_1 x11_1).f0))).setCell ⟨gb135, 1, none⟩ (.int .u8 ((rd_T44 x3_1 x11_1).f1)))) ?hg ?ho ?hn ?hr ?_; (case ho => rfl); (case hg => rfl); (case hn => rfl); (case hr => first | (go_simp; done) | (go_simp; rfl)); intro w28 hw; have n0_ : Aside0 (Kd.R k44 44 w28 w.heap.size (fun k_ => k_ ≠ gb135) (.slice (some ad134) x3_1.length co7) x3_1) := ⟨(by rw [hw]; exact (by (with_reducible repeat (first | apply Kd.R_alloc | apply Kd.R_drewN | apply Kd.R_drew)); exact Kd.R_mono (Kd.R_far (p := ⟨gb135, 1, none⟩) (Kd.R_far (p := ⟨gb135, 0, none⟩) (Kd.R_mono HO_3.out (fun k_ hk => (⟨hk, hk.2⟩ : _ ∧ k_ ≠ gb135))) (fun _ hk => hk.2) (.int .i32 ((rd_T44 x3_1 x11_1).f0))) (fun _ hk => hk.2) (.int .u8 ((rd_T44 x3_1 x11_1).f1))) (fun _ hk => hk.1.2)))⟩; have n1_ : Aside0 (w28.heap[gb135]? = some (.cells #[.int .i32 ((rd_T44 x3_1 x11_1).f0), .int .u8 ((rd_T44 x3_1 x11_1).f1)] 44 (0, 0))) := ⟨(by rw [hw]; exact (by (with_reducible repeat (first | refine blk_drewN ?_ _ | refine blk_drew ?_ | refine blk_alloc ?_ _)); refine blk_put (cs := #[.int .i32 ((rd_T44 x3_1 x11_1).f0), .int .u8 0]) ?_ 1 _ rfl; (with_reducible repeat (first | refine blk_drewN ?_ _ | refine blk_drew ?_ | refine blk_alloc ?_ _)); refine blk_put (cs := #[.int .i32 0, .int .u8 0]) ?_ 0 _ rfl; (with_reducible repeat (first | refine blk_drewN ?_ _ | refine blk_drew ?_ | refine blk_alloc ?_ _)); exact BK135.out))⟩; have n2_ : Aside0 (Below w.heap.size w w28) := ⟨(by rw [hw]; exact bG)⟩; clear hw; clear HO_3; clear BK135; clear HB; have HO_3 := n0_; have BK135 := n1_; have HB := n2_; clear n0_ n1_ n2_; have hcz29_0 : w28.cell? ⟨gb135, 0, none⟩ = some (.int .i32 ((rd_T44 x3_1 x11_1).f0)) := (blk_cell BK135.out 0).trans rfl; have hcz29_1 : w28.cell? ⟨gb135, 1, none⟩ = some (.int .u8 ((rd_T44 x3_1 x11_1).f1)) := (blk_cell BK135.out 1).trans rfl; have hfz29_0 := blk_frozen BK135.out 0; have hfz29_1 := blk_frozen BK135.out 1) | (go_at_call 53; (with_reducible refine (runes_Width.calls ((rd_T44 x3_1 x11_1).f0) t137 _ ?side1 A20.out).mono ?_); (case side1 => exact GOK.of_below (GOK.sub HG.out rfl) bG); rintro e w' ⟨rfl, ⟨nd, rfl⟩⟩; (try (rw [drewN_self w28]; generalize hq_ : World.drewN w28 _ = w28; have n0_ : Aside0 (Kd.R k44 44 w28 w.heap.size (fun k_ => k_ ≠ gb135) (.slice (some ad134) x3_1.length co7) x3_1) := ⟨by rw [← hq_]; exact (kR HO_3)⟩; have n1_ : Aside0 (w28.heap[gb135]? = some (.cells #[.int .i32 ((rd_T44 x3_1 x11_1).f0), .int .u8 ((rd_T44 x3_1 x11_1).f1)] 44 (0, 0))) := ⟨by rw [← hq_]; exact (kB BK135)⟩; have n2_ : Aside0 (Below w.heap.size w w28) := ⟨by rw [← hq_]; exact bG⟩; clear HO_3 BK135 HB hq_; have HO_3 := n0_; have BK135 := n1_; have HB := n2_; clear n0_ n1_ n2_)); (try (have hcz30_0 : w28.cell? ⟨gb135, 0, none⟩ = some (.int .i32 ((rd_T44 x3_1 x11_1).f0)) := (blk_cell BK135.out 0).trans rfl; have hcz30_1 : w28.cell? ⟨gb135, 1, none⟩ = some (.int .u8 ((rd_T44 x3_1 x11_1).f1)) := (blk_cell BK135.out 1).trans rfl; have hfz30_0 := blk_frozen BK135.out 0; have hfz30_1 := blk_frozen BK135.out 1)); have p138 : 0 ≤ ((ji22) : Int) := of_decide_eq_true asA; have q138 : (ji22) < (x3_1.length : Int) := of_decide_eq_true asA; obtain ⟨ad138, e138, hx138_0, hx138_1⟩ := at_T44 (Kd.R_reads' HO_3.out).2.2 (ji22) p138 q138; obtain rfl : ad134 = ad138 := (by injection e138); replace p138 := eq_true p138; replace q138 := eq_true q138; have p25 : 0 ≤ (x11_1 : Int) := of_decide_eq_true asA; have q25 : (x11_1 : Int) < ((x3_1.length : Int) : Int) := of_decide_eq_true asA; obtain ⟨go25, co25, eo25, gb25, gl25, cl25, HG25⟩ := Kd.R_form HO_3.out (by omega); (first | cases eo25 | (injection eo25 with ea_ en_ ec_; (first | subst ea_ | (injection ea_ with ea_; subst ea_)); subst ec_; clear en_)); have GB25 := Aside0.mk gb25; have GG25 := Aside0.mk HG25; clear gb25 gl25 HG25; (first | simp only [add_plain] at hx134_0 | skip); (first | simp only [add_plain] at hx134_1 | skip); (first | simp only [add_plain] at hx138_0 | skip); (first | simp only [add_plain] at hx138_1 | skip); obtain ⟨ce25, hcl25, hM25, hcc25, hfr25⟩ := Kd.R_elem HO_3.out z44 (x11_1 : Int) p25 q25; obtain rfl := k44_openM hM25; have hx25_0 : w28.cell? ⟨go25, (x11_1 : Int).toNat * 2, none⟩ = some (.int .i32 ((rd_T44 x3_1 x11_1).f0)) := hcc25 0 _ rfl; have hx25_1 : w28.cell? ⟨go25, (x11_1 : Int).toNat * 2 + 1, none⟩ = some (.int .u8 ((rd_T44 x3_1 x11_1).f1)) := hcc25 1 _ rfl; have hf25_0 : w28.frozen? ⟨go25, (x11_1 : Int).toNat * 2, none⟩ = false := hfr25 0; have hf25_1 : w28.frozen? ⟨go25, (x11_1 : Int).toNat * 2 + 1, none⟩ = false := hfr25 1; clear hcl25 hcc25 hfr25 hM25; replace p25 := eq_true p25; replace q25 := eq_true q25; have HX31 := Aside0.mk (show Kd.R k44 44 w28 w.heap.size (fun k_ => k_ ≠ gb135) (.slice (some ⟨go25, 0, none⟩) x3_1.length co7) x3_1 from (kR HO_3)); obtain ⟨ce31, hcl31, hM31, hcc31, hfr31⟩ := Kd.R_elem HX31.out z44 (x11_1 : Int) (of_decide_eq_true asA) (by have h_ : (x11_1 : Int) < ((x3_1.length : Int) : Int) := of_decide_eq_true asA; first | exact h_ | (have e_ := (Kd.R_reads' HO_3.out).1; omega) | simpa using h_); obtain rfl := k44_openM hM31; have HP31 := Kd.R_seg HX31.out (x11_1 : Int) (of_decide_eq_true asA) (by have h_ : (x11_1 : Int) < ((x3_1.length : Int) : Int) := of_decide_eq_true asA; first | exact h_ | (have e_ := (Kd.R_reads' HO_3.out).1; omega) | simpa using h_) (seg := [.int .u8 ((rd_T44 x3_1 (ji22)).f1)]) (j := 1) hcl31 hcc31 (show 2 ≤ 2 from by decide) (x' := (⟨(rd_T44 x3_1 x11_1).f0, (rd_T44 x3_1 (ji22)).f1⟩ : S44)) (k44_mkM _ _ _ (⟨(rd_T44 x3_1 x11_1).f0, (rd_T44 x3_1 (ji22)).f1⟩ : S44) ) (fun _ hk => hk); have hx31_1 := hcc31 1 _ rfl; (try simp only [show (k44).sz = 2 from rfl, Nat.mul_one, Nat.add_zero] at hx31_1); have hf31_1 := hfr31 1; (try simp only [show (k44).sz = 2 from rfl, Nat.mul_one, Nat.add_zero] at hf31_1); clear hcl31 hcc31 hfr31 hM31) | ((with_reducible refine gate_store (t := 5) (p := 42) rfl ?_); refine store_event (t := 5) (p := 42) (v := ?vo_w32) (w1 := (w28.setCell ⟨go25, (x11_1 : Int).toNat * 2 + 1, none⟩ (.int .u8 ((rd_T44 x3_1 (ji22)).f1)))) ?hg ?ho ?hn ?hr ?_; (case ho => rfl); (case hg => rfl); (case hn => rfl); (case hr => first | (go_simp; done) | (go_simp; rfl)); intro w32 hw; have hg : w28.grownBy w32 (some go25) := (by rw [hw]; exact HP31.2); have hp_ : Kd.R k44 44 w32 w.heap.size (fun k_ => k_ ≠ gb135) (.slice (some ⟨go25, 0, none⟩) x3_1.length co7) y139 := (by rw [hw, Ny139.out]; exact HP31.1); clear HP31; have n0_ := Aside0.mk (hp_); have n1_ := Aside0.mk (blk_grown (g := gb135) (o := .cells #[.int .i32 ((rd_T44 x3_1 x11_1).f0), .int .u8 ((rd_T44 x3_1 x11_1).f1)] 44 (0, 0)) (kB BK135) hg (Kd.R_away HO_3.out (fun _ hk => hk))); have n2_ := Aside0.mk ((by rw [hw]; exact below_set (HB.out) GB25.out : Below w.heap.size w w32)); clear HO_3; clear BK135; clear HB; have HO_3 := n0_; have BK135 := n1_; have HB := n2_; clear n0_ n1_ n2_; clear hg hw hp_))
           (try simp only [← hl3_1])
           go_roundg k1
           case measure => have := HK1.out; omega
           case rel => exact ⟨(y139), (wrap64 (x11_1 + 1)), sA, H', ⟨by have := HK1.out; omega⟩, ⟨by (try simp only [hl3_1]); (with_reducible repeat (first | apply Kd.R_alloc | apply Kd.R_drewN | apply Kd.R_drew)); exact Kd.R_mono HO_3.out (fun _ hk => trivial)⟩, ⟨bG⟩⟩
          ·rw [if_neg c24] at H
           exact absurd H (by simp)
         ·rw [if_neg c23] at H
          exact absurd H (by simp)
        ·rw [if_neg c21] at H
         have c21b0 : (t137 == 0) = false := beq_eq_false_iff_ne.mpr c21
         have c21b1 : (t137 != 0) = true := bne_iff_ne.mpr c21
         have H' := Aside0.mk H
         clear H
         have p134 : 0 ≤ (x11_1 : Int) := of_decide_eq_true asA
         have q134 : x11_1 < (x3_1.length : Int) := of_decide_eq_true asA
         obtain ⟨ad134, e134, hx134_0, hx134_1⟩ := at_T44 (Kd.R_reads' HO_3.out).2.2 x11_1 p134 q134
         cases e134
         replace p134 := eq_true p134
         replace q134 := eq_true q134
         go_wp2_with (first | ((with_reducible refine gate_dst (N := 5) rfl ?_); refine box_event ?hg (N := 5) ?hd (cs := #[.int .i32 0, .int .u8 0]) (t := 44) ?hr ?_; (case hd => rfl); (case hg => rfl); (case hr => first | (go_simp; done) | (go_simp; rfl)); intro gb135 hg w33 hbox hb; replace HO_3 := Aside0.mk (Kd.R_below (Kd.R_elderB (kR HO_3) gb135 (Nat.le_of_eq hg.symm)) hb); have BK135 := Aside0.mk (hbox); have GW135 := Aside0.mk ((geA hg : w.heap.size ≤ gb135)); have GE135 := Aside0.mk ((geA hg : w.heap.size ≤ gb135)); replace HB := Aside0.mk (below_step bA hb); clear hb hbox hg; have hcz34_0 : w33.cell? ⟨gb135, 0, none⟩ = some (.int .i32 0) := (blk_cell BK135.out 0).trans rfl; have hcz34_1 : w33.cell? ⟨gb135, 1, none⟩ = some (.int .u8 0) := (blk_cell BK135.out 1).trans rfl; have hfz34_0 := blk_frozen BK135.out 0; have hfz34_1 := blk_frozen BK135.out 1) | (go_at_call 53; (with_reducible refine (runes_Width.calls ((rd_T44 x3_1 x11_1).f0) t137 _ ?side1 A20.out).mono ?_); (case side1 => exact GOK.of_below (GOK.sub HG.out rfl) bG); rintro e w' ⟨rfl, ⟨nd, rfl⟩⟩))
         (try simp only [← hl3_1])
         go_roundg k1
         case measure => have := HK1.out; omega
         case rel => exact ⟨(x3_1), (wrap64 (x11_1 + 1)), sA, H', ⟨by have := HK1.out; omega⟩, ⟨by (try simp only [hl3_1]); (with_reducible repeat (first | apply Kd.R_alloc | apply Kd.R_drewN | apply Kd.R_drew)); exact Kd.R_mono (Kd.R_far (p := ⟨gb135, 1, none⟩) (Kd.R_far (p := ⟨gb135, 0, none⟩) (Kd.R_mono HO_3.out (fun k_ hk => (⟨hk, hk.2⟩ : _ ∧ k_ ≠ gb135))) (fun _ hk => hk.2) (.int .i32 ((rd_T44 x3_1 x11_1).f0))) (fun _ hk => hk.2) (.int .u8 ((rd_T44 x3_1 x11_1).f1))) (fun _ hk => trivial)⟩, ⟨bG⟩⟩
       ·rw [if_neg c19] at H
        have c19b0 : decide (0 < x11_1) = false := decide_eq_false c19
        (try (have c19b0h := c19b0; simp only [hl3_1] at c19b0h))
        clear c19
        have H' := Aside0.mk H
        clear H
        have p134 : 0 ≤ (x11_1 : Int) := of_decide_eq_true asA
        have q134 : x11_1 < (x3_1.length : Int) := of_decide_eq_true asA
        obtain ⟨ad134, e134, hx134_0, hx134_1⟩ := at_T44 (Kd.R_reads' HO_3.out).2.2 x11_1 p134 q134
        cases e134
        replace p134 := eq_true p134
        replace q134 := eq_true q134
        go_wp2_with (first | ((with_reducible refine gate_dst (N := 5) rfl ?_); refine box_event ?hg (N := 5) ?hd (cs := #[.int .i32 0, .int .u8 0]) (t := 44) ?hr ?_; (case hd => rfl); (case hg => rfl); (case hr => first | (go_simp; done) | (go_simp; rfl)); intro gb135 hg w35 hbox hb; replace HO_3 := Aside0.mk (Kd.R_below (Kd.R_elderB (kR HO_3) gb135 (Nat.le_of_eq hg.symm)) hb); have BK135 := Aside0.mk (hbox); have GW135 := Aside0.mk ((geA hg : w.heap.size ≤ gb135)); have GE135 := Aside0.mk ((geA hg : w.heap.size ≤ gb135)); replace HB := Aside0.mk (below_step bA hb); clear hb hbox hg; have hcz36_0 : w35.cell? ⟨gb135, 0, none⟩ = some (.int .i32 0) := (blk_cell BK135.out 0).trans rfl; have hcz36_1 : w35.cell? ⟨gb135, 1, none⟩ = some (.int .u8 0) := (blk_cell BK135.out 1).trans rfl; have hfz36_0 := blk_frozen BK135.out 0; have hfz36_1 := blk_frozen BK135.out 1))
        (try simp only [← hl3_1])
        go_roundg k1
        case measure => have := HK1.out; omega
        case rel => exact ⟨(x3_1), (wrap64 (x11_1 + 1)), sA, H', ⟨by have := HK1.out; omega⟩, ⟨by (try simp only [hl3_1]); (with_reducible repeat (first | apply Kd.R_alloc | apply Kd.R_drewN | apply Kd.R_drew)); exact Kd.R_mono (Kd.R_far (p := ⟨gb135, 1, none⟩) (Kd.R_far (p := ⟨gb135, 0, none⟩) (Kd.R_mono HO_3.out (fun k_ hk => (⟨hk, hk.2⟩ : _ ∧ k_ ≠ gb135))) (fun _ hk => hk.2) (.int .i32 ((rd_T44 x3_1 x11_1).f0))) (fun _ hk => hk.2) (.int .u8 ((rd_T44 x3_1 x11_1).f1))) (fun _ hk => trivial)⟩, ⟨bG⟩⟩
     ·rw [if_neg c10] at H
      exact absurd H (by simp)
    ·rw [if_neg c9] at H
     exact absurd H (by simp)
   ·rw [if_neg c8] at H
    have c8b0 : decide (x11_1 < (t131.length : Int)) = false := decide_eq_false c8
    (try (have c8b0h := c8b0; simp only [hl3_1] at c8b0h))
    clear c8
    obtain rfl := Option.some.inj H
    go_wp2
    go_ret
    exact ⟨_, eW, kR HO_3, bA⟩

/-! ### runes_size: function 80 -/
def runes_size.f (a0 : Int) : Option (Int) := if a0 < 128 then (some 1) else (if a0 < 2048 then (some 2) else (if a0 < 65536 then (some 3) else (some 4)))
theorem runes_size.calls (a0 : Int) (r : Int) (w : World) (h : runes_size.f a0 = some r) :
  Calls Tryd.prog 80 #[.int .i32 a0] w fun e w' => e = .returned (.int .i64 r) ∧ Drawn0 w w' := by
 have H : (if a0 < 128 then (some 1) else (if a0 < 2048 then (some 2) else (if a0 < 65536 then (some 3) else (some 4)))) = some r := h
 clear h
 by_cases c2 : a0 < 128
 ·rw [if_pos c2] at H
  have c2b0 : decide (a0 < 128) = true := decide_eq_true c2
  clear c2
  obtain rfl := Option.some.inj H
  go_enter Tryd.func80, Tryd.ntmps80
  go_wp2
  go_ret
  exact ⟨sA, by repeat (first | exact Drawn0.refl _ | apply Drawn0.step)⟩
 ·rw [if_neg c2] at H
  have c2b0 : decide (a0 < 128) = false := decide_eq_false c2
  clear c2
  by_cases c3 : a0 < 2048
  ·rw [if_pos c3] at H
   have c3b0 : decide (a0 < 2048) = true := decide_eq_true c3
   clear c3
   obtain rfl := Option.some.inj H
   go_enter Tryd.func80, Tryd.ntmps80
   go_wp2
   go_ret
   exact ⟨sA, by repeat (first | exact Drawn0.refl _ | apply Drawn0.step)⟩
  ·rw [if_neg c3] at H
   have c3b0 : decide (a0 < 2048) = false := decide_eq_false c3
   clear c3
   by_cases c4 : a0 < 65536
   ·rw [if_pos c4] at H
    have c4b0 : decide (a0 < 65536) = true := decide_eq_true c4
    clear c4
    obtain rfl := Option.some.inj H
    go_enter Tryd.func80, Tryd.ntmps80
    go_wp2
    go_ret
    exact ⟨sA, by repeat (first | exact Drawn0.refl _ | apply Drawn0.step)⟩
   ·rw [if_neg c4] at H
    have c4b0 : decide (a0 < 65536) = false := decide_eq_false c4
    clear c4
    obtain rfl := Option.some.inj H
    go_enter Tryd.func80, Tryd.ntmps80
    go_wp2
    go_ret
    exact ⟨sA, by repeat (first | exact Drawn0.refl _ | apply Drawn0.step)⟩

/-! ### runes_one: function 71 -/
mutual
def runes_one.j0 : Nat → Int → Option (List Int)
 | 0, _ => none
 | k + 1, x0 => (runes_size.f x0).bind fun t141 => (if t141 = 1 then (some (([(x0) % 256] : List Int))) else (if 0 ≤ t141 then (if (t141 : Int).toNat ≤ 281474976710656 then (runes_one.l0 k x0 t141 (List.replicate (t141 : Int).toNat 0) (wrap64 (t141 - 1))) else (none)) else (none)))
def runes_one.l0 : Nat → Int → Int → List Int → Int → Option (List Int)
 | 0, _, _, _, _ => none
 | k + 1, x0, x3, x4, x5 => if x5 > 0 then (if 0 ≤ x5 then (if x5 < (x4.length : Int) then (runes_one.l0 k (x0 / 64) x3 (x4.set (x5 : Int).toNat (Go.bits .or .u8 128 ((Go.bits .and .i32 x0 63) % 256))) (wrap64 (x5 - 1))) else (none)) else (none)) else (if 0 ≤ x3 then (if 0 < (x4.length : Int) then (some (x4.set (0 : Int).toNat (Go.bits .or .u8 ((shr .i64 3840 x3) % 256) ((x0) % 256)))) else (none)) else (none))
end
def runes_one.f (k : Nat) (a0 : Int) : Option (List Int) := (runes_Valid.f a0).bind fun t140 => (if t140 = true then (runes_one.j0 k a0) else (runes_one.j0 k 65533))
theorem runes_one.mono_l : ∀ k, (∀ y0, LeO (runes_one.j0 k y0) (runes_one.j0 (k + 1) y0)) ∧ (∀ y0 y1 y2 y3, LeO (runes_one.l0 k y0 y1 y2 y3) (runes_one.l0 (k + 1) y0 y1 y2 y3))
 | 0 => ⟨fun _ r h => by simp [runes_one.j0] at h, fun _ _ _ _ r h => by simp [runes_one.l0] at h⟩
 | k + 1 => by
  obtain ⟨ih0, ih1⟩ := runes_one.mono_l k
  refine ⟨?_, ?_⟩
  ·intro y0
   unfold runes_one.j0
   repeat' first
   | (with_reducible exact ih0 _)
   | (with_reducible exact ih1 _ _ _ _)
   | (with_reducible exact LeO.refl _)
   | (with_reducible exact LeO.none _)
   | (with_reducible refine LeO.ite ?_ ?_)
   | (with_reducible refine LeO.bind ?_ (fun _ => ?_))
  ·intro y0 y1 y2 y3
   unfold runes_one.l0
   repeat' first
   | (with_reducible exact ih0 _)
   | (with_reducible exact ih1 _ _ _ _)
   | (with_reducible exact LeO.refl _)
   | (with_reducible exact LeO.none _)
   | (with_reducible refine LeO.ite ?_ ?_)
   | (with_reducible refine LeO.bind ?_ (fun _ => ?_))
theorem runes_one.mono : ∀ a0 k, LeO (runes_one.f k a0) (runes_one.f (k + 1) a0) := by
 intro a0 k
 obtain ⟨ih0, ih1⟩ := runes_one.mono_l k
 unfold runes_one.f
 repeat' first
   | (with_reducible exact ih0 _)
   | (with_reducible exact ih1 _ _ _ _)
   | (with_reducible exact LeO.refl _)
   | (with_reducible exact LeO.none _)
   | (with_reducible refine LeO.ite ?_ ?_)
   | (with_reducible refine LeO.bind ?_ (fun _ => ?_))
theorem runes_one.calls (k : Nat) (a0 : Int) (r : List Int) (w : World) (h : runes_one.f k a0 = some r) :
  Calls Tryd.prog 71 #[.int .i32 a0] w fun e w' => ∃ v0_ : Value, e = .returned (v0_) ∧ Kd.R (Kd.int .u8) 5 w' w.heap.size (fun _ => True) v0_ r ∧ Below w.heap.size w w' := by
 have HB := Aside0.mk (Below.refl w.heap.size w)
 have H : ((runes_Valid.f a0).bind fun t140 => (if t140 = true then (runes_one.j0 k a0) else (runes_one.j0 k 65533))) = some r := h
 clear h
 replace H := Option.bind_eq_some_iff.mp H
 obtain ⟨t140, A20, H⟩ := H
 replace H : (if t140 = true then (runes_one.j0 k a0) else (runes_one.j0 k 65533)) = some r := H
 have A2 := Aside0.mk A20
 clear A20
 have HC3 := Aside0.mk H
 clear H
 go_enter Tryd.func71, Tryd.ntmps71
 go_upto_if 8 with (first | ((with_reducible refine gate_callee (f := 68) rfl ?_); refine goesL_ (some 7) rfl rfl Tryd.func68 (by kernel_rfl) rfl #[.int .i32 a0] rfl aP ?_; (with_reducible refine (runes_Valid.calls a0 t140 _ A2.out).mono ?_); rintro e w' ⟨rfl, ⟨nd, rfl⟩⟩; refine ⟨_, rfl, ?_⟩))
 (try simp only [Act.put, List.setIfInBounds_toArray, List.set_cons_zero, List.set_cons_succ])
 go_cut [0] (fun v0 wc => ∃ (kq : Nat) (x0_2 : Int), v0 = .int .i32 x0_2 ∧ Aside0 (runes_one.j0 kq x0_2 = some r) ∧ Aside0 (kq ≤ k) ∧ Aside0 (Below w.heap.size w wc))
 case first =>
  have H := HC3.out
  clear HC3
  by_cases c4 : t140 = true
  ·subst c4
   have H1 : (runes_one.j0 k a0) = some r := by rw [if_pos rfl] at H; exact H
   clear H
   have H := H1
   clear H1
   have H' := Aside0.mk H
   clear H
   go_wp2
   go_meet
   case rel => exact ⟨_, (a0), sA, H', ⟨by first | omega | exact Nat.le_refl _⟩, ⟨bA⟩⟩
  ·replace c4 := Bool.eq_false_iff.mpr c4
   subst c4
   have H1 : (runes_one.j0 k 65533) = some r := by rw [if_neg (show ¬ (false = true) by decide)] at H; exact H
   clear H
   have H := H1
   clear H1
   have H' := Aside0.mk H
   clear H
   go_wp2
   go_meet
   case rel => exact ⟨_, (65533), sA, H', ⟨by first | omega | exact Nat.le_refl _⟩, ⟨bA⟩⟩
 case rest =>
  clear HC3
  try clear p2
  try clear c4
  obtain ⟨kq, x0_2, rfl, HA, HJ2, HB⟩ := hcut
  cases kq with
  | zero => exact absurd HA.out (by simp [runes_one.j0])
  | succ kj2 =>
   have H := HA.out
   clear HA
   simp only [runes_one.j0] at H
   replace H := Option.bind_eq_some_iff.mp H
   obtain ⟨t141, A50, H⟩ := H
   replace H : (if t141 = 1 then (some (([(x0_2) % 256] : List Int))) else (if 0 ≤ t141 then (if (t141 : Int).toNat ≤ 281474976710656 then (runes_one.l0 kj2 x0_2 t141 (List.replicate (t141 : Int).toNat 0) (wrap64 (t141 - 1))) else (none)) else (none))) = some r := H
   have A5 := Aside0.mk A50
   clear A50
   by_cases c6 : t141 = 1
   ·rw [if_pos c6] at H
    have c6b0 : (t141 == 1) = true := beq_iff_eq.mpr c6
    have c6b1 : (t141 != 1) = false := bne_eq_false_iff_eq.mpr c6
    clear c6
    obtain ⟨y142, hy142⟩ : ∃ y_ : List Int, y_ = (([(x0_2) % 256] : List Int)) := ⟨_, rfl⟩
    replace H : (some y142) = some r := hyA hy142 H
    have Ny142 := Aside0.mk hy142
    clear hy142
    obtain rfl := Option.some.inj H
    go_wp2_with (first | ((with_reducible refine gate_callee (f := 80) rfl ?_); refine goesL_ (some 10) rfl rfl Tryd.func80 (by kernel_rfl) rfl #[.int .i32 x0_2] rfl aP ?_; (with_reducible refine (runes_size.calls x0_2 t141 _ A5.out).mono ?_); rintro e w' ⟨rfl, ⟨nd, rfl⟩⟩; refine ⟨_, rfl, ?_⟩) | ((with_reducible refine gate_dst (N := 15) rfl ?_); refine Kd.R_lit (Kd.int .u8) _ 5 ?hg (N := 15) ?hd (xs := ([(x0_2) % 256] : List Int)) (inner := [.int .u8 ((x0_2) % 256)]) (ok := fun _ => True) (okp := fun _ => True) ?hr ?hp (fun _ hk => hk) trivial (Below.refl _ _) (Nat.le_refl _) (by simp) ?_; (case hd => rfl); (case hg => rfl); (case hr => first | (go_simp; done) | (go_simp; rfl)); (case hp => exact (Reps.one (show Kd.M (Kd.int .u8) _ _ _ ((x0_2) % 256) [.int .u8 ((x0_2) % 256)] from rfl) (Reps.none _ _))); intro v143 w7 ho8 hb hg_ hnew_; clear hg_ hnew_; (first | rw [← Ny142.out] at ho8 | (simp only [Int.reduceToNat] at ho8; rw [← Ny142.out] at ho8)); have HO144 := Aside0.mk (Kd.R_lower ho8 (below_size bA)); replace HB := Aside0.mk (below_step bA hb); clear hb ho8))
    go_ret
    exact ⟨_, eW, kR HO144, bA⟩
   ·rw [if_neg c6] at H
    have c6b0 : (t141 == 1) = false := beq_eq_false_iff_ne.mpr c6
    have c6b1 : (t141 != 1) = true := bne_iff_ne.mpr c6
    by_cases c9 : 0 ≤ t141
    ·rw [if_pos c9] at H
     have c9b0 := eq_true c9
     have c9b1 : decide (0 ≤ t141) = true := decide_eq_true c9
     clear c9
     by_cases c10 : (t141 : Int).toNat ≤ 281474976710656
     ·rw [if_pos c10] at H
      have c10b0 := eq_true c10
      have c10b1 : decide ((t141 : Int).toNat ≤ 281474976710656) = true := decide_eq_true c10
      clear c10
      obtain ⟨y145, hy145⟩ : ∃ y_ : List Int, y_ = (List.replicate (t141 : Int).toNat 0) := ⟨_, rfl⟩
      replace H : (runes_one.l0 kj2 x0_2 t141 y145 (wrap64 (t141 - 1))) = some r := hyA hy145 H
      have Ny145 := Aside0.mk hy145
      clear hy145
      have H' := Aside0.mk H
      clear H
      go_wp2_with (first | ((with_reducible refine gate_callee (f := 80) rfl ?_); refine goesL_ (some 10) rfl rfl Tryd.func80 (by kernel_rfl) rfl #[.int .i32 x0_2] rfl aP ?_; (with_reducible refine (runes_size.calls x0_2 t141 _ A5.out).mono ?_); rintro e w' ⟨rfl, ⟨nd, rfl⟩⟩; refine ⟨_, rfl, ?_⟩) | ((with_reducible refine gate_dst (N := 17) rfl ?_); refine Kd.R_make (Kd.int .u8) _ 5 rfl (N := 17) rfl 22 _ _ rfl t141 rfl rfl Tryd.underlying22 (.int .u8 0) 1 info5 rfl (by decide) (by omega) 0 (ok := fun _ => True) (okp := fun _ => True) rfl (fun _ hk => hk) trivial (of_decide_eq_true asA) (Nat.le_trans (Nat.mul_le_mul_right _ (of_decide_eq_true asA : t141.toNat ≤ 281474976710656)) (by omega)) (Below.refl _ _) (Nat.le_refl _) ?_; intro v146 w11 ho12 hb hg_ hnew_; clear hg_ hnew_; (first | rw [← Ny145.out] at ho12 | (simp only [Int.reduceToNat] at ho12; rw [← Ny145.out] at ho12)); have HO147 := Aside0.mk (Kd.R_lower ho12 (below_size bA)); replace HB := Aside0.mk (below_step bA hb); clear hb ho12))
      go_loopg [0, 5] kj2 (fun kq v0 v5 w' => ∃ (x0_2 : Int) (x4_2 : List Int) (x5_2 : Int), v0 = .int .i32 x0_2 ∧ v5 = .int .i64 x5_2 ∧ Aside0 (runes_one.l0 kq x0_2 t141 x4_2 x5_2 = some r) ∧ Aside0 (kq ≤ kj2) ∧ Aside0 (Kd.R (Kd.int .u8) 5 w' w.heap.size (fun _ => True) v146 x4_2) ∧ Aside0 (Below w.heap.size w w'))
      case atStart => exact ⟨(x0_2), (y145), (wrap64 (t141 - 1)), sA, sA, H', ⟨Nat.le_refl _⟩, ⟨kR HO147⟩, ⟨bA⟩⟩
      case round =>
       clear H'
       try clear c1
       try clear p2
       try clear c4
       try clear c6
       try clear c6b0
       try clear c6b1
       try clear p6
       try clear c7
       try clear c8
       try clear c9
       try clear c9b0
       try clear c9b1
       try clear c10
       try clear c10b0
       try clear c10b1
       try clear p2
       obtain ⟨x0_2, x4_2, x5_2, rfl, rfl, HA, HK2, HO_4, HB⟩ := hrel
       cases gk with
       | zero => exact absurd HA.out (by simp [runes_one.l0])
       | succ k2 =>
        have H := HA.out
        clear HA
        simp only [runes_one.l0] at H
        by_cases c13 : x5_2 > 0
        ·rw [if_pos c13] at H
         have c13b0 : decide (0 < x5_2) = true := decide_eq_true c13
         clear c13
         by_cases c14 : 0 ≤ x5_2
         ·rw [if_pos c14] at H
          have c14b0 : decide (0 ≤ x5_2) = true := decide_eq_true c14
          clear c14
          by_cases c15 : x5_2 < (x4_2.length : Int)
          ·rw [if_pos c15] at H
           have c15b0 : decide (x5_2 < (x4_2.length : Int)) = true := decide_eq_true c15
           clear c15
           obtain ⟨y148, hy148⟩ : ∃ y_ : List Int, y_ = (x4_2.set (x5_2 : Int).toNat (Go.bits .or .u8 128 ((Go.bits .and .i32 x0_2 63) % 256))) := ⟨_, rfl⟩
           replace H : (runes_one.l0 k2 (x0_2 / 64) t141 y148 (wrap64 (x5_2 - 1))) = some r := hyA hy148 H
           have Ny148 := Aside0.mk hy148
           clear hy148
           have H' := Aside0.mk H
           clear H
           have p16 : 0 ≤ (x5_2 : Int) := of_decide_eq_true asA
           have q16 : (x5_2 : Int) < ((x4_2.length : Int) : Int) := of_decide_eq_true asA
           obtain ⟨go16, co16, eo16, gb16, gl16, cl16, HG16⟩ := Kd.R_form HO_4.out (by omega)
           (first | cases eo16 | (injection eo16 with ea_ en_ ec_; (first | subst ea_ | (injection ea_ with ea_; subst ea_)); subst ec_; clear en_))
           have GB16 := Aside0.mk gb16
           have GG16 := Aside0.mk HG16
           clear gb16 gl16 HG16
           obtain ⟨hx16_0, hf16_0⟩ := Kd.R_celln 0 HO_4.out (x5_2 : Int) p16 q16
           replace p16 := eq_true p16
           replace q16 := eq_true q16
           have HP17 := Kd.R_putg HO_4.out (x5_2 : Int) (Go.bits .or .u8 128 ((Go.bits .and .i32 x0_2 63) % 256))
           go_wp2_with (first | ((with_reducible refine gate_store (t := 5) (p := 30) rfl ?_); refine store_event (t := 5) (p := 30) (v := ?vo_w18) (w1 := (wr.setCell ⟨go16, (x5_2 : Int).toNat, none⟩ (.int .u8 (Go.bits .or .u8 128 ((Go.bits .and .i32 x0_2 63) % 256))))) ?hg ?ho ?hn ?hr ?_; (case ho => rfl); (case hg => rfl); (case hn => rfl); (case hr => first | (go_simp; done) | (go_simp; rfl)); intro w18 hw; have hg : wr.grownBy w18 (some go16) := (by rw [hw]; exact HP17.2); have hp_ : Kd.R (Kd.int .u8) 5 w18 w.heap.size (fun _ => True) (.slice (some ⟨go16, 0, none⟩) x4_2.length co16) y148 := (by rw [hw, Ny148.out]; exact HP17.1); clear HP17; have n0_ := Aside0.mk (hp_); have n1_ := Aside0.mk ((by rw [hw]; exact below_set (HB.out) GB16.out : Below w.heap.size w w18)); clear HO_4; clear HB; have HO_4 := n0_; have HB := n1_; clear n0_ n1_; clear hg hw hp_))
           go_roundg k2
           case measure => have := HJ2.out; have := HK2.out; omega
           case rel => exact ⟨(x0_2 / 64), (y148), (wrap64 (x5_2 - 1)), sA, sA, H', ⟨by have := HJ2.out; have := HK2.out; omega⟩, ⟨kR HO_4⟩, ⟨bA⟩⟩
          ·rw [if_neg c15] at H
           exact absurd H (by simp)
         ·rw [if_neg c14] at H
          exact absurd H (by simp)
        ·rw [if_neg c13] at H
         have c13b0 : decide (0 < x5_2) = false := decide_eq_false c13
         clear c13
         by_cases c19 : 0 ≤ t141
         ·rw [if_pos c19] at H
          have c19b0 := eq_true c19
          have c19b1 : decide (0 ≤ t141) = true := decide_eq_true c19
          clear c19
          obtain ⟨ji20, hji20⟩ : ∃ j_ : Int, (shr .i64 3840 t141) = j_ := ⟨_, rfl⟩
          replace H : (if 0 < (x4_2.length : Int) then (some (x4_2.set (0 : Int).toNat (Go.bits .or .u8 ((ji20) % 256) ((x0_2) % 256)))) else (none)) = some r := by first | (rw [hji20] at H; exact H) | (simp only [hji20] at H ⊢; exact H)
          have hji20_ : (3840 / 2 ^ min t141.toNat 64) = ji20 := hji20
          have hji20z : t141 ≤ 64 → (3840 / 2 ^ t141.toNat) = ji20 := shr_small hji20
          by_cases c21 : 0 < (x4_2.length : Int)
          ·rw [if_pos c21] at H
           have c21b0 : decide (0 < (x4_2.length : Int)) = true := decide_eq_true c21
           have c21b1 : decide (0 < x4_2.length) = true := decide_eq_true (by omega)
           clear c21
           obtain ⟨y149, hy149⟩ : ∃ y_ : List Int, y_ = (x4_2.set (0 : Int).toNat (Go.bits .or .u8 ((ji20) % 256) ((x0_2) % 256))) := ⟨_, rfl⟩
           replace H : (some y149) = some r := hyA hy149 H
           have Ny149 := Aside0.mk hy149
           clear hy149
           obtain rfl := Option.some.inj H
           have p22 : 0 ≤ (0 : Int) := (by omega)
           have q22 : (0 : Int) < ((x4_2.length : Int) : Int) := of_decide_eq_true asA
           have qi22 : (0 < x4_2.length) = True := eq_true (by omega)
           obtain ⟨go22, co22, eo22, gb22, gl22, cl22, HG22⟩ := Kd.R_form HO_4.out (by omega)
           (first | cases eo22 | (injection eo22 with ea_ en_ ec_; (first | subst ea_ | (injection ea_ with ea_; subst ea_)); subst ec_; clear en_))
           have GB22 := Aside0.mk gb22
           have GG22 := Aside0.mk HG22
           clear gb22 gl22 HG22
           obtain ⟨hx22_0, hf22_0⟩ := Kd.R_celln 0 HO_4.out (0 : Int) p22 q22
           (try rw [show ((0 : Int)).toNat = 0 from rfl] at hx22_0)
           (try simp only [Nat.reduceMul, Nat.zero_mul, Nat.zero_add, Nat.reduceAdd] at hx22_0)
           (try rw [show ((0 : Int)).toNat = 0 from rfl] at hf22_0)
           (try simp only [Nat.reduceMul, Nat.zero_mul, Nat.zero_add, Nat.reduceAdd] at hf22_0)
           replace p22 := eq_true p22
           replace q22 := eq_true q22
           have HP23 := Kd.R_putg HO_4.out (0 : Int) (Go.bits .or .u8 ((ji20) % 256) ((x0_2) % 256))
           go_wp2_with (first | ((with_reducible refine gate_store (t := 5) (p := 40) rfl ?_); refine store_event (t := 5) (p := 40) (v := ?vo_w24) (w1 := (wr.setCell ⟨go22, (0 : Int).toNat, none⟩ (.int .u8 (Go.bits .or .u8 ((ji20) % 256) ((x0_2) % 256))))) ?hg ?ho ?hn ?hr ?_; (case ho => rfl); (case hg => rfl); (case hn => rfl); (case hr => first | (go_simp; done) | (go_simp; rfl)); intro w24 hw; have hg : wr.grownBy w24 (some go22) := (by rw [hw]; exact HP23.2); have hp_ : Kd.R (Kd.int .u8) 5 w24 w.heap.size (fun _ => True) (.slice (some ⟨go22, 0, none⟩) x4_2.length co22) y149 := (by rw [hw, Ny149.out]; exact HP23.1); clear HP23; have n0_ := Aside0.mk (hp_); have n1_ := Aside0.mk ((by rw [hw]; exact below_set (HB.out) GB22.out : Below w.heap.size w w24)); clear HO_4; clear HB; have HO_4 := n0_; have HB := n1_; clear n0_ n1_; clear hg hw hp_))
           go_ret
           exact ⟨_, by first | rfl | (simp [errW_none, errW_some] <;> rfl) | (simp only [← hji20]; first | rfl | (simp [errW_none, errW_some] <;> rfl)) | (simp [*, errW_none, errW_some] <;> rfl), kR HO_4, bA⟩
          ·rw [if_neg c21] at H
           exact absurd H (by simp)
         ·rw [if_neg c19] at H
          exact absurd H (by simp)
     ·rw [if_neg c10] at H
      exact absurd H (by simp)
    ·rw [if_neg c9] at H
     exact absurd H (by simp)

/-! ### runes_Encode: function 54 -/
def runes_Encode.l0 : Nat → List Int → List Int → Int → Int → Option (List Int)
 | 0, _, _, _, _ => none
 | k + 1, x3, x6, x7, x8 => if x8 < x7 then (if 0 ≤ x8 then (if x8 < (x6.length : Int) then ((runes_one.f k (rd x6 x8)).bind fun t151 => (if x3.length + t151.length < 140737488355328 then (runes_Encode.l0 k (x3 ++ t151) x6 x7 (wrap64 (x8 + 1))) else (none))) else (none)) else (none)) else (some x3)
def runes_Encode.f (k : Nat) (l0 : List Int) : Option (List Int) := runes_Encode.l0 k ([] : List Int) l0 (l0.length : Int) 0
theorem runes_Encode.mono_l : ∀ k, (∀ y0 y1 y2 y3, LeO (runes_Encode.l0 k y0 y1 y2 y3) (runes_Encode.l0 (k + 1) y0 y1 y2 y3))
 | 0 => fun _ _ _ _ r h => by simp [runes_Encode.l0] at h
 | k + 1 => by
  have ih0 := runes_Encode.mono_l k
  ·intro y0 y1 y2 y3
   unfold runes_Encode.l0
   repeat' first
   | (with_reducible exact ih0 _ _ _ _)
   | (with_reducible exact runes_one.mono _ _)
   | (with_reducible exact LeO.refl _)
   | (with_reducible exact LeO.none _)
   | (with_reducible refine LeO.ite ?_ ?_)
   | (with_reducible refine LeO.bind ?_ (fun _ => ?_))
theorem runes_Encode.mono : ∀ a0 k, LeO (runes_Encode.f k a0) (runes_Encode.f (k + 1) a0) := by
 intro a0 k
 have ih0 := runes_Encode.mono_l k
 unfold runes_Encode.f
 repeat' first
   | (with_reducible exact ih0 _ _ _ _)
   | (with_reducible exact runes_one.mono _ _)
   | (with_reducible exact LeO.refl _)
   | (with_reducible exact LeO.none _)
   | (with_reducible refine LeO.ite ?_ ?_)
   | (with_reducible refine LeO.bind ?_ (fun _ => ?_))
theorem runes_Encode.calls (k : Nat) (A0 : Option Addr) (c0 : Nat) (l0 : List Int) (r : List Int) (w : World) (hr0 : Kd.C (Kd.int .i32) w A0 l0.length l0) (hc0 : l0.length ≤ c0) (h : runes_Encode.f k l0 = some r) :
  Calls Tryd.prog 54 #[.slice A0 l0.length c0] w fun e w' => ∃ v0_ : Value, e = .returned (v0_) ∧ Kd.R (Kd.int .u8) 5 w' w.heap.size (fun _ => True) v0_ r ∧ Below w.heap.size w w' := by
 have HR0 := Aside0.mk hr0
 have HC0 := Aside0.mk hc0
 clear hr0 hc0
 have HB := Aside0.mk (Below.refl w.heap.size w)
 have H : (runes_Encode.l0 k ([] : List Int) l0 (l0.length : Int) 0) = some r := h
 clear h
 have H' := Aside0.mk H
 clear H
 go_enter Tryd.func54, Tryd.ntmps54
 go_wp2
 go_loopg [3, 8] k (fun kq v3 v8 w' => ∃ (x3_1 : List Int) (x8_1 : Int), v8 = .int .i64 x8_1 ∧ Aside0 (runes_Encode.l0 kq x3_1 l0 (l0.length : Int) x8_1 = some r) ∧ Aside0 (kq ≤ k) ∧ Aside0 (Kd.R (Kd.int .u8) 5 w' w.heap.size (fun _ => True) v3 x3_1) ∧ Aside0 (Below w.heap.size w w'))
 case atStart => exact ⟨(([] : List Int)), (0), sA, H', ⟨Nat.le_refl _⟩, ⟨by first | exact Kd.R_nil _ _ _ _ _ | exact Kd.N_nil _ _ _ _ _ | exact Kd.V_nil _ _ _ _ _ | exact Kd.Q_nil _ _ _ _ _ | exact Kd.S_nil _ _ _ _ _⟩, ⟨bA⟩⟩
 case round =>
  clear H'
  obtain ⟨x3_1, x8_1, rfl, HA, HK1, HO_3, HB⟩ := hrel
  cases gk with
  | zero => exact absurd HA.out (by simp [runes_Encode.l0])
  | succ k1 =>
   have H := HA.out
   clear HA
   simp only [runes_Encode.l0] at H
   by_cases c2 : x8_1 < (l0.length : Int)
   ·rw [if_pos c2] at H
    have c2b0 : decide (x8_1 < (l0.length : Int)) = true := decide_eq_true c2
    clear c2
    by_cases c3 : 0 ≤ x8_1
    ·rw [if_pos c3] at H
     have c3b0 : decide (0 ≤ x8_1) = true := decide_eq_true c3
     clear c3
     by_cases c4 : x8_1 < (l0.length : Int)
     ·rw [if_pos c4] at H
      have c4b0 : decide (x8_1 < (l0.length : Int)) = true := decide_eq_true c4
      clear c4
      replace H := Option.bind_eq_some_iff.mp H
      obtain ⟨t151, A50, H⟩ := H
      replace H : (if x3_1.length + t151.length < 140737488355328 then (runes_Encode.l0 k1 (x3_1 ++ t151) l0 (l0.length : Int) (wrap64 (x8_1 + 1))) else (none)) = some r := H
      have A5 := Aside0.mk A50
      clear A50
      by_cases c6 : x3_1.length + t151.length < 140737488355328
      ·rw [if_pos c6] at H
       have LMc6 := Aside0.mk c6
       clear c6
       obtain ⟨y154, hy154⟩ : ∃ y_ : List Int, y_ = (x3_1 ++ t151) := ⟨_, rfl⟩
       replace H : (runes_Encode.l0 k1 y154 l0 (l0.length : Int) (wrap64 (x8_1 + 1))) = some r := hyA hy154 H
       have Ny154 := Aside0.mk hy154
       clear hy154
       have H' := Aside0.mk H
       clear H
       have p150 : 0 ≤ (x8_1 : Int) := of_decide_eq_true asA
       have q150 : x8_1 < (l0.length : Int) := of_decide_eq_true asA
       obtain ⟨ad150, e150, hx150_0⟩ := Kd.at_int HR0.out x8_1 p150 q150
       cases e150
       replace hx150_0 := (HB.out.cell (World.block_lt_of_cell? w _ hx150_0)).trans hx150_0
       replace p150 := eq_true p150
       replace q150 := eq_true q150
       go_wp2_with (first | ((with_reducible refine gate_callee (f := 71) rfl ?_); refine goesL_ (some 14) rfl rfl Tryd.func71 (by kernel_rfl) rfl #[.int .i32 (rd l0 x8_1)] rfl aP ?_; (with_reducible refine (runes_one.calls k1 (rd l0 x8_1) t151 _ A5.out).mono ?_); rintro e w7 ⟨v152, rfl, ho0, hb⟩; refine ⟨_, rfl, ?_⟩; have n0_ := Aside0.mk (Kd.R_elder' (kR HO_3) (Kd.R_base ho0) hb); have n1_ := Aside0.mk (Kd.R_lower (Kd.R_new' ho0 (Kd.R_lt (kR HO_3))) (below_size bA)); have n2_ := Aside0.mk (below_step bA hb); clear HO_3; clear HB; have HO_3 := n0_; have HO153 := n1_; have HB := n2_; clear n0_ n1_ n2_; (try clear hb); (try clear hb2); (try clear hk); (try clear hi); (try clear ho0); obtain ⟨Ao9, co9, eo9⟩ := Kd.R_slice HO153.out; subst eo9) | ((with_reducible refine gate_builtin (b := .append) (xs := #[.tmp 12, .tmp 14]) rfl ?_); at_builtin; refine Kd.R_append_rows (Kd.int .u8) (w0 := w) w.heap.size rfl (.tmp 12) (.tmp 14) 22 5 (.int .u8 0) 1 rfl Tryd.underlying22 info5 rfl (by decide) (by omega) u3 x3_1 t151 _ _ _ (fun k_ => some k_ ≠ (.slice Ao9 t151.length co9 : Value).ownBlock) (fun _ => False) rfl rfl ?aO ?aR (fun _ _ h => h) (fun _ h => h.elim) ?aF ?aB ?aS ?aL ?_; (case aR => repeat (first | exact (Kd.R_reads' HO153.out).2.2 | (with_reducible refine Kd.C_alloc ?_ _) | (with_reducible refine Kd.C_drewN ?_ _) | (with_reducible refine Kd.C_drew ?_))); (case aB => exact bA); (case aF => exact (fun k_ hk => Kd.fresh' (Kd.R_lt (kR HO153)) k_ hk)); (case aO => exact (by (with_reducible repeat (first | apply Kd.R_alloc | apply Kd.R_drewN | apply Kd.R_drew)); exact Kd.R_mono HO_3.out (fun _ hk => hk.2))); (case aS => exact (below_size bA)); (case aL => have := LMc6.out; omega); intro v155 w8 ho hb hg hat; rw [← Ny154.out] at ho; have n0_ := Aside0.mk (Kd.R_after (ok := (fun _ => True)) (kR HO153) hg hat); have n1_ := Aside0.mk (hb); have n2_ := Aside0.mk (ho); clear HO153; clear HB; clear HO_3; have HO153 := n0_; have HB := n1_; have HO156 := n2_; clear n0_ n1_ n2_; clear ho hb hg hat))
       go_roundg k1
       case measure => have := HK1.out; omega
       case rel => exact ⟨(y154), (wrap64 (x8_1 + 1)), sA, H', ⟨by have := HK1.out; omega⟩, ⟨by (with_reducible repeat (first | apply Kd.R_alloc | apply Kd.R_drewN | apply Kd.R_drew)); exact Kd.R_mono HO156.out (fun _ hk => trivial)⟩, ⟨bA⟩⟩
      ·rw [if_neg c6] at H
       exact absurd H (by simp)
     ·rw [if_neg c4] at H
      exact absurd H (by simp)
    ·rw [if_neg c3] at H
     exact absurd H (by simp)
   ·rw [if_neg c2] at H
    have c2b0 : decide (x8_1 < (l0.length : Int)) = false := decide_eq_false c2
    clear c2
    obtain rfl := Option.some.inj H
    go_wp2
    go_ret
    exact ⟨_, eW, kR HO_3, bA⟩

/-! ### cells_Text: function 37 -/
def cells_Text.l0 : Nat → List Int → List (S44) → Int → Int → Option (ByteArray)
 | 0, _, _, _, _ => none
 | k + 1, x3, x6, x7, x8 => if x8 < x7 then (if 0 ≤ x8 then (if x8 < (x6.length : Int) then (if x3.length < 35184372088832 then (cells_Text.l0 k (x3 ++ [(rd_T44 x6 x8).f0]) x6 x7 (wrap64 (x8 + 1))) else (none)) else (none)) else (none)) else ((runes_Encode.f k x3).bind fun t162 => (some (strOfNums t162)))
def cells_Text.f (k : Nat) (l0 : List (S44)) : Option (ByteArray) := cells_Text.l0 k ([] : List Int) l0 (l0.length : Int) 0
theorem cells_Text.mono_l : ∀ k, (∀ y0 y1 y2 y3, LeO (cells_Text.l0 k y0 y1 y2 y3) (cells_Text.l0 (k + 1) y0 y1 y2 y3))
 | 0 => fun _ _ _ _ r h => by simp [cells_Text.l0] at h
 | k + 1 => by
  have ih0 := cells_Text.mono_l k
  ·intro y0 y1 y2 y3
   unfold cells_Text.l0
   repeat' first
   | (with_reducible exact ih0 _ _ _ _)
   | (with_reducible exact runes_Encode.mono _ _)
   | (with_reducible exact LeO.refl _)
   | (with_reducible exact LeO.none _)
   | (with_reducible refine LeO.ite ?_ ?_)
   | (with_reducible refine LeO.bind ?_ (fun _ => ?_))
theorem cells_Text.mono : ∀ a0 k, LeO (cells_Text.f k a0) (cells_Text.f (k + 1) a0) := by
 intro a0 k
 have ih0 := cells_Text.mono_l k
 unfold cells_Text.f
 repeat' first
   | (with_reducible exact ih0 _ _ _ _)
   | (with_reducible exact runes_Encode.mono _ _)
   | (with_reducible exact LeO.refl _)
   | (with_reducible exact LeO.none _)
   | (with_reducible refine LeO.ite ?_ ?_)
   | (with_reducible refine LeO.bind ?_ (fun _ => ?_))
theorem cells_Text.calls (k : Nat) (A0 : Option Addr) (c0 : Nat) (l0 : List (S44)) (r : ByteArray) (w : World) (hr0 : Kd.C k44 w A0 l0.length l0) (hc0 : l0.length ≤ c0) (h : cells_Text.f k l0 = some r) :
  Calls Tryd.prog 37 #[.slice A0 l0.length c0] w fun e w' => e = .returned (.string r) ∧ Below w.heap.size w w' := by
 have hu44 := Tryd.underlying44
 have HR0 := Aside0.mk hr0
 have HC0 := Aside0.mk hc0
 clear hr0 hc0
 have HB := Aside0.mk (Below.refl w.heap.size w)
 have H : (cells_Text.l0 k ([] : List Int) l0 (l0.length : Int) 0) = some r := h
 clear h
 have H' := Aside0.mk H
 clear H
 go_enter Tryd.func37, Tryd.ntmps37
 go_wp2
 go_loopg [3, 8] k (fun kq v3 v8 w' => ∃ (x3_1 : List Int) (x8_1 : Int), v8 = .int .i64 x8_1 ∧ Aside0 (cells_Text.l0 kq x3_1 l0 (l0.length : Int) x8_1 = some r) ∧ Aside0 (kq ≤ k) ∧ Aside0 (Kd.R (Kd.int .i32) 21 w' w.heap.size (fun _ => True) v3 x3_1) ∧ Aside0 (Below w.heap.size w w'))
 case atStart => exact ⟨(([] : List Int)), (0), sA, H', ⟨Nat.le_refl _⟩, ⟨by first | exact Kd.R_nil _ _ _ _ _ | exact Kd.N_nil _ _ _ _ _ | exact Kd.V_nil _ _ _ _ _ | exact Kd.Q_nil _ _ _ _ _ | exact Kd.S_nil _ _ _ _ _⟩, ⟨bA⟩⟩
 case round =>
  clear H'
  obtain ⟨x3_1, x8_1, rfl, HA, HK1, HO_3, HB⟩ := hrel
  cases gk with
  | zero => exact absurd HA.out (by simp [cells_Text.l0])
  | succ k1 =>
   have H := HA.out
   clear HA
   simp only [cells_Text.l0] at H
   by_cases c2 : x8_1 < (l0.length : Int)
   ·rw [if_pos c2] at H
    have c2b0 : decide (x8_1 < (l0.length : Int)) = true := decide_eq_true c2
    clear c2
    by_cases c3 : 0 ≤ x8_1
    ·rw [if_pos c3] at H
     have c3b0 : decide (0 ≤ x8_1) = true := decide_eq_true c3
     clear c3
     by_cases c4 : x8_1 < (l0.length : Int)
     ·rw [if_pos c4] at H
      have c4b0 : decide (x8_1 < (l0.length : Int)) = true := decide_eq_true c4
      clear c4
      by_cases c5 : x3_1.length < 35184372088832
      ·rw [if_pos c5] at H
       have LMc5 := Aside0.mk c5
       clear c5
       obtain ⟨y159, hy159⟩ : ∃ y_ : List Int, y_ = (x3_1 ++ [(rd_T44 l0 x8_1).f0]) := ⟨_, rfl⟩
       replace H : (cells_Text.l0 k1 y159 l0 (l0.length : Int) (wrap64 (x8_1 + 1))) = some r := hyA hy159 H
       have Ny159 := Aside0.mk hy159
       clear hy159
       have H' := Aside0.mk H
       clear H
       have p157 : 0 ≤ (x8_1 : Int) := of_decide_eq_true asA
       have q157 : x8_1 < (l0.length : Int) := of_decide_eq_true asA
       obtain ⟨ad157, e157, hx157_0, hx157_1⟩ := at_T44 HR0.out x8_1 p157 q157
       cases e157
       replace hx157_0 := (HB.out.cell (World.block_lt_of_cell? w _ hx157_0)).trans hx157_0
       replace hx157_1 := (HB.out.cell (World.block_lt_of_cell? w _ hx157_1)).trans hx157_1
       replace p157 := eq_true p157
       replace q157 := eq_true q157
       go_wp2_with (first | ((with_reducible refine gate_dst (N := 5) rfl ?_); refine box_event ?hg (N := 5) ?hd (cs := #[.int .i32 0, .int .u8 0]) (t := 44) ?hr ?_; (case hd => rfl); (case hg => rfl); (case hr => first | (go_simp; done) | (go_simp; rfl)); intro gb158 hg w6 hbox hb; replace HO_3 := Aside0.mk (Kd.R_below (kR HO_3) hb); have BK158 := Aside0.mk (hbox); have GW158 := Aside0.mk ((geA hg : w.heap.size ≤ gb158)); have GE158 := Aside0.mk ((geA hg : w.heap.size ≤ gb158)); replace HB := Aside0.mk (below_step bA hb); clear hb hbox hg; have hcz7_0 : w6.cell? ⟨gb158, 0, none⟩ = some (.int .i32 0) := (blk_cell BK158.out 0).trans rfl; have hcz7_1 : w6.cell? ⟨gb158, 1, none⟩ = some (.int .u8 0) := (blk_cell BK158.out 1).trans rfl; have hfz7_0 := blk_frozen BK158.out 0; have hfz7_1 := blk_frozen BK158.out 1) | ((with_reducible refine gate_builtin (b := .append) (xs := #[.tmp 12, .tmp 15]) rfl ?_); at_builtin; refine Kd.R_append (Kd.int .i32) (w0 := w) w.heap.size rfl (.tmp 12) (.tmp 15) 72 21 (.int .i32 0) 4 rfl Tryd.underlying72 info21 rfl (by decide) (by omega) u3 x3_1 ((rd_T44 l0 x8_1).f0) [.int .i32 ((rd_T44 l0 x8_1).f0)] (fun _ => True) (fun _ => False) rfl (by first | (go_simp; done) | (go_simp; rfl)) ?aP (fun _ hk => hk.elim) ?aF ?aO ?aB ?aS ?aL ?_; (case aP => exact rfl); (case aB => exact bG); (case aF => exact (fun _ _ => trivial)); (case aO => exact (by (with_reducible repeat (first | apply Kd.R_alloc | apply Kd.R_drewN | apply Kd.R_drew)); exact Kd.R_mono (Kd.R_far (p := ⟨gb158, 1, none⟩) (Kd.R_far (p := ⟨gb158, 0, none⟩) (Kd.R_types HO_3.out BK158.out (by decide)) (fun _ hk => hk.2) (.int .i32 ((rd_T44 l0 x8_1).f0))) (fun _ hk => hk.2) (.int .u8 ((rd_T44 l0 x8_1).f1))) (fun _ hk => trivial))); (case aS => exact (below_size bG)); (case aL => have := LMc5.out; omega); intro v160 w8 ho hb hg hat; rw [← Ny159.out] at ho; have n0_ := Aside0.mk (blk_grown (g := gb158) (o := .cells #[.int .i32 ((rd_T44 l0 x8_1).f0), .int .u8 ((rd_T44 l0 x8_1).f1)] 44 (0, 0)) (by (with_reducible repeat (first | refine blk_drewN ?_ _ | refine blk_drew ?_ | refine blk_alloc ?_ _)); refine blk_put (cs := #[.int .i32 ((rd_T44 l0 x8_1).f0), .int .u8 0]) ?_ 1 _ rfl; (with_reducible repeat (first | refine blk_drewN ?_ _ | refine blk_drew ?_ | refine blk_alloc ?_ _)); refine blk_put (cs := #[.int .i32 0, .int .u8 0]) ?_ 0 _ rfl; (with_reducible repeat (first | refine blk_drewN ?_ _ | refine blk_drew ?_ | refine blk_alloc ?_ _)); exact BK158.out) hg (by first | exact Kd.R_ne HO_3.out BK158.out (by decide) | (intro e_; have h_ := HO_3.out.1 _ e_.symm; simp at h_))); have n1_ := Aside0.mk (hb); have n2_ := Aside0.mk (ho); clear BK158; clear HB; clear HO_3; have BK158 := n0_; have HB := n1_; have HO161 := n2_; clear n0_ n1_ n2_; clear ho hb hg hat))
       go_roundg k1
       case measure => have := HK1.out; omega
       case rel => exact ⟨(y159), (wrap64 (x8_1 + 1)), sA, H', ⟨by have := HK1.out; omega⟩, ⟨kR HO161⟩, ⟨bG⟩⟩
      ·rw [if_neg c5] at H
       exact absurd H (by simp)
     ·rw [if_neg c4] at H
      exact absurd H (by simp)
    ·rw [if_neg c3] at H
     exact absurd H (by simp)
   ·rw [if_neg c2] at H
    have c2b0 : decide (x8_1 < (l0.length : Int)) = false := decide_eq_false c2
    clear c2
    replace H := Option.bind_eq_some_iff.mp H
    obtain ⟨t162, A90, H⟩ := H
    replace H : (some (strOfNums t162)) = some r := H
    have A9 := Aside0.mk A90
    clear A90
    obtain rfl := Option.some.inj H
    obtain ⟨Ao10, co10, eo10⟩ := Kd.R_slice HO_3.out
    subst eo10
    go_wp2_with (first | ((with_reducible refine gate_callee (f := 54) rfl ?_); refine goesL_ (some 19) rfl rfl Tryd.func54 (by kernel_rfl) rfl #[.slice Ao10 x3_1.length co10] rfl aP ?_; (with_reducible refine (runes_Encode.calls k1 _ _ x3_1 t162 _ ?side1 ?side2 A9.out).mono ?_); (case side1 => repeat (first | exact (Kd.R_reads' HO_3.out).2.2 | (with_reducible refine Kd.C_alloc ?_ _) | (with_reducible refine Kd.C_drewN ?_ _) | (with_reducible refine Kd.C_drew ?_))); (case side2 => exact (Kd.R_reads' HO_3.out).2.1); rintro e w11 ⟨v163, rfl, ho0, hb⟩; refine ⟨_, rfl, ?_⟩; replace HO_3 := Aside0.mk (Kd.R_below (kR HO_3) hb); have HO164 := Aside0.mk (Kd.R_lower ho0 (below_size bA)); replace HB := Aside0.mk (below_step bA hb); (try clear hb); (try clear hb2); (try clear hk); (try clear hi); (try clear ho0); have hcv12 := own_string (P := Tryd.prog) Tryd.underlying22 Tryd.underlying5 Tryd.underlying9 (Kd.own_of_R HO164.out)))
    go_ret
    exact ⟨eW, bA⟩

end Go.Proofs.YtdjepocklmlnbaaDoor.X
