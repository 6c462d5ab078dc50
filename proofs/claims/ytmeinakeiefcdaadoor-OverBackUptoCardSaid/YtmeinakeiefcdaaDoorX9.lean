-- Written by this session's xprint.py (a variant of the kit's printer). Not trusted: Lean checks it.
import Derived.Test.YtmeinakeiefcdaaDoorX0
import Derived.Test.YtmeinakeiefcdaaDoorSlim
import Derived.Test.YtmeinakeiefcdaaDoorX2
import Derived.Test.YtmeinakeiefcdaaDoorX3
import Derived.Test.YtmeinakeiefcdaaDoorX4
import Derived.Test.YtmeinakeiefcdaaDoorX7
import Derived.Test.YtmeinakeiefcdaaDoorX8
import Derived.Test.YtmeinakeiefcdaaDoorHandA
namespace Go.Proofs.YtmeinakeiefcdaaDoor.X
open Go.Proofs.YtmeinakeiefcdaaDoor.Hand
open Go.RowKit Go.Proofs.YtmeinakeiefcdaaDoorW.PrintWords Go.Proofs.YtmeinakeiefcdaaDoorW.PrintLast Go.Proofs.YtmeinakeiefcdaaDoorW.PrintMore
attribute [local go_sem] max2_int min2_int max_two min_two max_three min_three max_four min_four   -- for this text's walks alone
set_option linter.unusedVariables false
set_option maxHeartbeats 8000000
set_option maxRecDepth 100000
set_option linter.unusedSimpArgs false

/-! ### flonglaw18_OverBack: function 6 -/
def flonglaw18_OverBack.j0 : Nat → List (S30) → Bool → Option (Bool)
 | 0, _, _ => none
 | k + 1, x0, x10 => if x10 = true then ((flonglaw18_known.f k).bind fun t441 => (some t441)) else ((over_Write.f k x0).bind fun t442 => ((over_Read.f k t442).bind fun bt445 => (if bt445.2 = 0 then ((flongref17_Rows.f k x0).bind fun t449 => ((flongref03_SameRows.f k bt445.1 t449).bind fun t452 => (if t452 = true then ((flonglaw18_known.f k).bind fun t453 => (some t453)) else (some false)))) else (some false))))
def flonglaw18_OverBack.f (k : Nat) (l0 : List (S30)) : Option (Bool) := (flongref17_Long.f k l0).bind fun t439 => (if t439 = true then (flonglaw18_OverBack.j0 k l0 true) else ((flonglaw18_strikes.f k l0).bind fun t440 => (flonglaw18_OverBack.j0 k l0 t440)))
theorem flonglaw18_OverBack.mono_l : ∀ k, (∀ y0 y1, LeO (flonglaw18_OverBack.j0 k y0 y1) (flonglaw18_OverBack.j0 (k + 1) y0 y1))
 | 0 => fun _ _ r h => by simp [flonglaw18_OverBack.j0] at h
 | k + 1 => by
  have ih0 := flonglaw18_OverBack.mono_l k
  ·intro y0 y1
   unfold flonglaw18_OverBack.j0
   repeat' first
   | (with_reducible exact ih0 _ _)
   | (with_reducible exact flonglaw18_known.mono _)
   | (with_reducible exact flonglaw18_strikes.mono _ _)
   | (with_reducible exact flongref03_SameRows.mono _ _ _)
   | (with_reducible exact flongref17_Long.mono _ _)
   | (with_reducible exact flongref17_Rows.mono _ _)
   | (with_reducible exact over_Read.mono _ _)
   | (with_reducible exact over_Write.mono _ _)
   | (with_reducible exact LeO.refl _)
   | (with_reducible exact LeO.none _)
   | (with_reducible refine LeO.ite ?_ ?_)
   | (with_reducible refine LeO.bind ?_ (fun _ => ?_))
theorem flonglaw18_OverBack.mono : ∀ a0 k, LeO (flonglaw18_OverBack.f k a0) (flonglaw18_OverBack.f (k + 1) a0) := by
 intro a0 k
 have ih0 := flonglaw18_OverBack.mono_l k
 unfold flonglaw18_OverBack.f
 repeat' first
   | (with_reducible exact ih0 _ _)
   | (with_reducible exact flonglaw18_known.mono _)
   | (with_reducible exact flonglaw18_strikes.mono _ _)
   | (with_reducible exact flongref03_SameRows.mono _ _ _)
   | (with_reducible exact flongref17_Long.mono _ _)
   | (with_reducible exact flongref17_Rows.mono _ _)
   | (with_reducible exact over_Read.mono _ _)
   | (with_reducible exact over_Write.mono _ _)
   | (with_reducible exact LeO.refl _)
   | (with_reducible exact LeO.none _)
   | (with_reducible refine LeO.ite ?_ ?_)
   | (with_reducible refine LeO.bind ?_ (fun _ => ?_))
theorem flonglaw18_OverBack.calls (k : Nat) (A0 : Option Addr) (c0 : Nat) (l0 : List (S30)) (r : Bool) (w : World) (hr0 : Kd.C k30 w A0 l0.length l0) (hc0 : l0.length ≤ c0) (hG : GOK [0,1,2] w) (h : flonglaw18_OverBack.f k l0 = some r) :
  Calls Tryd.prog 6 #[.slice A0 l0.length c0] w fun e w' => e = .returned (.bool r) ∧ Below w.heap.size w w' := by
 have HG := Aside0.mk hG
 clear hG
 have HR0 := Aside0.mk hr0
 have HC0 := Aside0.mk hc0
 clear hr0 hc0
 have HB := Aside0.mk (Below.refl w.heap.size w)
 have H : ((flongref17_Long.f k l0).bind fun t439 => (if t439 = true then (flonglaw18_OverBack.j0 k l0 true) else ((flonglaw18_strikes.f k l0).bind fun t440 => (flonglaw18_OverBack.j0 k l0 t440)))) = some r := h
 clear h
 have HC2 := Aside0.mk H
 clear H
 go_enter Tryd.func6, Tryd.ntmps6
 go_upto_region 1 with (fail)
 go_cut [10] (fun v10 wc => ∃ (kq : Nat) (x10_1 : Bool), v10 = .bool x10_1 ∧ Aside0 (flonglaw18_OverBack.j0 kq l0 x10_1 = some r) ∧ Aside0 (kq ≤ k) ∧ Aside0 (Below w.heap.size w wc))
 case first =>
  have H := HC2.out
  clear HC2
  replace H := Option.bind_eq_some_iff.mp H
  obtain ⟨t439, A30, H⟩ := H
  replace H : (if t439 = true then (flonglaw18_OverBack.j0 k l0 true) else ((flonglaw18_strikes.f k l0).bind fun t440 => (flonglaw18_OverBack.j0 k l0 t440))) = some r := H
  have A3 := Aside0.mk A30
  clear A30
  by_cases c4 : t439 = true
  ·subst c4
   have H1 : (flonglaw18_OverBack.j0 k l0 true) = some r := by rw [if_pos rfl] at H; exact H
   clear H
   have H := H1
   clear H1
   have H' := Aside0.mk H
   clear H
   go_wp2_with (first | ((with_reducible refine gate_callee (f := 8) rfl ?_); refine goesL_ (some 6) rfl rfl Tryd.func8 (by kernel_rfl) rfl #[.slice A0 l0.length c0] rfl aP ?_; (with_reducible refine (flongref17_Long.calls k _ _ l0 true _ ?side1 ?side2 A3.out).mono ?_); (case side1 => repeat (first | exact (Kd.C_below HR0.out HB.out) | (with_reducible refine Kd.C_alloc ?_ _) | (with_reducible refine Kd.C_drewN ?_ _) | (with_reducible refine Kd.C_drew ?_))); (case side2 => exact HC0.out); rintro e w' ⟨rfl, ⟨nd, rfl⟩⟩; refine ⟨_, rfl, ?_⟩))
   go_meet
   case rel => exact ⟨_, (true), sA, H', ⟨by first | omega | exact Nat.le_refl _⟩, ⟨bA⟩⟩
  ·replace c4 := Bool.eq_false_iff.mpr c4
   subst c4
   have H1 : ((flonglaw18_strikes.f k l0).bind fun t440 => (flonglaw18_OverBack.j0 k l0 t440)) = some r := by rw [if_neg (show ¬ (false = true) by decide)] at H; exact H
   clear H
   have H := H1
   clear H1
   replace H := Option.bind_eq_some_iff.mp H
   obtain ⟨t440, A50, H⟩ := H
   replace H : (flonglaw18_OverBack.j0 k l0 t440) = some r := H
   have A5 := Aside0.mk A50
   clear A50
   have H' := Aside0.mk H
   clear H
   go_wp2_with (first | ((with_reducible refine gate_callee (f := 8) rfl ?_); refine goesL_ (some 6) rfl rfl Tryd.func8 (by kernel_rfl) rfl #[.slice A0 l0.length c0] rfl aP ?_; (with_reducible refine (flongref17_Long.calls k _ _ l0 false _ ?side1 ?side2 A3.out).mono ?_); (case side1 => repeat (first | exact (Kd.C_below HR0.out HB.out) | (with_reducible refine Kd.C_alloc ?_ _) | (with_reducible refine Kd.C_drewN ?_ _) | (with_reducible refine Kd.C_drew ?_))); (case side2 => exact HC0.out); rintro e w' ⟨rfl, ⟨nd, rfl⟩⟩; refine ⟨_, rfl, ?_⟩) | (go_at_call 23; (with_reducible refine (flonglaw18_strikes.calls k _ _ l0 t440 _ ?side1 ?side2 A5.out).mono ?_); (case side1 => repeat (first | exact (Kd.C_below HR0.out bA) | (with_reducible refine Kd.C_alloc ?_ _) | (with_reducible refine Kd.C_drewN ?_ _) | (with_reducible refine Kd.C_drew ?_))); (case side2 => exact HC0.out); rintro e w' ⟨rfl, ⟨nd, rfl⟩⟩))
   go_meet
   case rel => exact ⟨_, (t440), sA, H', ⟨by first | omega | exact Nat.le_refl _⟩, ⟨bA⟩⟩
 case rest =>
  clear HC2
  try clear p2
  try clear c4
  obtain ⟨kq, x10_1, rfl, HA, HJ1, HB⟩ := hcut
  cases kq with
  | zero => exact absurd HA.out (by simp [flonglaw18_OverBack.j0])
  | succ kj1 =>
   have H := HA.out
   clear HA
   simp only [flonglaw18_OverBack.j0] at H
   by_cases c6 : x10_1 = true
   ·subst c6
    have H1 : ((flonglaw18_known.f kj1).bind fun t441 => (some t441)) = some r := by rw [if_pos rfl] at H; exact H
    clear H
    have H := H1
    clear H1
    replace H := Option.bind_eq_some_iff.mp H
    obtain ⟨t441, A70, H⟩ := H
    replace H : (some t441) = some r := H
    have A7 := Aside0.mk A70
    clear A70
    obtain rfl := Option.some.inj H
    go_wp2_with (first | ((with_reducible refine gate_callee (f := 9) rfl ?_); refine goesL_ (some 11) rfl rfl Tryd.func9 (by kernel_rfl) rfl #[] rfl aP ?_; (with_reducible refine (flonglaw18_known.calls kj1  t441 _ ?side1 A7.out).mono ?_); (case side1 => exact GOK.of_below (GOK.sub HG.out rfl) bA); rintro e w8 ⟨rfl, hb⟩; refine ⟨_, rfl, ?_⟩; replace HB := Aside0.mk (below_step bA hb); (try clear hb); (try clear hb2); (try clear hk); (try clear hi)))
    go_ret
    exact ⟨eW, bA⟩
   ·replace c6 := Bool.eq_false_iff.mpr c6
    subst c6
    have H1 : ((over_Write.f kj1 l0).bind fun t442 => ((over_Read.f kj1 t442).bind fun bt445 => (if bt445.2 = 0 then ((flongref17_Rows.f kj1 l0).bind fun t449 => ((flongref03_SameRows.f kj1 bt445.1 t449).bind fun t452 => (if t452 = true then ((flonglaw18_known.f kj1).bind fun t453 => (some t453)) else (some false)))) else (some false)))) = some r := by rw [if_neg (show ¬ (false = true) by decide)] at H; exact H
    clear H
    have H := H1
    clear H1
    replace H := Option.bind_eq_some_iff.mp H
    obtain ⟨t442, A90, H⟩ := H
    replace H : ((over_Read.f kj1 t442).bind fun bt445 => (if bt445.2 = 0 then ((flongref17_Rows.f kj1 l0).bind fun t449 => ((flongref03_SameRows.f kj1 bt445.1 t449).bind fun t452 => (if t452 = true then ((flonglaw18_known.f kj1).bind fun t453 => (some t453)) else (some false)))) else (some false))) = some r := H
    have A9 := Aside0.mk A90
    clear A90
    replace H := Option.bind_eq_some_iff.mp H
    obtain ⟨⟨t445, t446⟩, A100, H⟩ := H
    replace H : (if t446 = 0 then ((flongref17_Rows.f kj1 l0).bind fun t449 => ((flongref03_SameRows.f kj1 t445 t449).bind fun t452 => (if t452 = true then ((flonglaw18_known.f kj1).bind fun t453 => (some t453)) else (some false)))) else (some false)) = some r := H
    have A10 := Aside0.mk A100
    clear A100
    by_cases c11 : t446 = 0
    ·rw [if_pos c11] at H
     have c11b0 : (t446 == 0) = true := beq_iff_eq.mpr c11
     have c11b1 : (t446 != 0) = false := bne_eq_false_iff_eq.mpr c11
     clear c11
     replace H := Option.bind_eq_some_iff.mp H
     obtain ⟨t449, A120, H⟩ := H
     replace H : ((flongref03_SameRows.f kj1 t445 t449).bind fun t452 => (if t452 = true then ((flonglaw18_known.f kj1).bind fun t453 => (some t453)) else (some false))) = some r := H
     have A12 := Aside0.mk A120
     clear A120
     replace H := Option.bind_eq_some_iff.mp H
     obtain ⟨t452, A130, H⟩ := H
     replace H : (if t452 = true then ((flonglaw18_known.f kj1).bind fun t453 => (some t453)) else (some false)) = some r := H
     have A13 := Aside0.mk A130
     clear A130
     by_cases c14 : t452 = true
     ·subst c14
      have H1 : ((flonglaw18_known.f kj1).bind fun t453 => (some t453)) = some r := by rw [if_pos rfl] at H; exact H
      clear H
      have H := H1
      clear H1
      replace H := Option.bind_eq_some_iff.mp H
      obtain ⟨t453, A150, H⟩ := H
      replace H : (some t453) = some r := H
      have A15 := Aside0.mk A150
      clear A150
      obtain rfl := Option.some.inj H
      go_wp2_with (first | ((with_reducible refine gate_callee (f := 10) rfl ?_); refine goesL_ (some 14) rfl rfl Tryd.func10 (by kernel_rfl) rfl #[.slice A0 l0.length c0] rfl aP ?_; (with_reducible refine (over_Write.calls kj1 _ _ l0 t442 _ ?side1 ?side2 ?side3 A9.out).mono ?_); (case side1 => repeat (first | exact (Kd.C_below HR0.out HB.out) | (with_reducible refine Kd.C_alloc ?_ _) | (with_reducible refine Kd.C_drewN ?_ _) | (with_reducible refine Kd.C_drew ?_))); (case side2 => exact HC0.out); (case side3 => exact GOK.of_below (GOK.sub HG.out rfl) bA); rintro e w16 ⟨v443, rfl, ho0, hb⟩; refine ⟨_, rfl, ?_⟩; have HO444 := Aside0.mk (Kd.R_lower ho0 (below_size bA)); replace HB := Aside0.mk (below_step bA hb); (try clear hb); (try clear hb2); (try clear hk); (try clear hi); (try clear ho0); obtain ⟨Ao17, co17, eo17⟩ := Kd.R_slice HO444.out; subst eo17) | ((with_reducible refine gate_callee (f := 18) rfl ?_); refine goesL_ (some 15) rfl rfl Tryd.func18 (by kernel_rfl) rfl #[.slice Ao17 t442.length co17] rfl aP ?_; (with_reducible refine (over_Read.calls kj1 _ _ t442 t445 t446 _ ?side1 ?side2 ?side3 A10.out).mono ?_); (case side1 => repeat (first | exact (Kd.R_reads' HO444.out).2.2 | (with_reducible refine Kd.C_alloc ?_ _) | (with_reducible refine Kd.C_drewN ?_ _) | (with_reducible refine Kd.C_drew ?_))); (case side2 => exact (Kd.R_reads' HO444.out).2.1); (case side3 => exact GOK.of_below (GOK.sub HG.out rfl) bA); rintro e w18 ⟨v447, rfl, ho0, hb⟩; refine ⟨_, rfl, ?_⟩; replace HO444 := Aside0.mk (Kd.R_below (kR HO444) hb); have HO448 := Aside0.mk (Kd.S_lower ho0 (below_size bA)); replace HB := Aside0.mk (below_step bA hb); (try clear hb); (try clear hb2); (try clear hk); (try clear hi); (try clear ho0)) | (go_at_call 24; (with_reducible refine (flongref17_Rows.calls kj1 _ _ l0 t449 _ ?side1 ?side2 A12.out).mono ?_); (case side1 => repeat (first | exact (Kd.C_below HR0.out HB.out) | (with_reducible refine Kd.C_alloc ?_ _) | (with_reducible refine Kd.C_drewN ?_ _) | (with_reducible refine Kd.C_drew ?_))); (case side2 => exact HC0.out); rintro e w19 ⟨v450, rfl, ho0, hb⟩; have n0_ := Aside0.mk (Kd.R_below (kR HO444) hb); have n1_ := Aside0.mk (Kd.S_elder' (kS HO448) (Kd.S_base ho0) hb); have n2_ := Aside0.mk (Kd.S_lower (Kd.S_new' ho0 (Kd.S_lt (kS HO448))) (below_size bA)); have n3_ := Aside0.mk (below_step bA hb); clear HO444; clear HO448; clear HB; have HO444 := n0_; have HO448 := n1_; have HO451 := n2_; have HB := n3_; clear n0_ n1_ n2_ n3_; (try clear hb); (try clear hb2); (try clear hk); (try clear hi); (try clear ho0); obtain ⟨Ao20, co20, eo20⟩ := Kd.S_slice HO448.out; subst eo20; obtain ⟨Ao21, co21, eo21⟩ := Kd.S_slice HO451.out; subst eo21) | (go_at_call 22; (with_reducible refine (flongref03_SameRows.calls kj1 _ _ t445 _ _ t449 true _ ?side1 ?side2 ?side3 ?side4 A13.out).mono ?_); (case side1 => repeat (first | exact (Kd.S_reads' HO448.out).2.2 | (with_reducible refine Kd.C_alloc ?_ _) | (with_reducible refine Kd.C_drewN ?_ _) | (with_reducible refine Kd.C_drew ?_))); (case side2 => exact (Kd.S_reads' HO448.out).2.1); (case side3 => repeat (first | exact (Kd.S_reads' HO451.out).2.2 | (with_reducible refine Kd.C_alloc ?_ _) | (with_reducible refine Kd.C_drewN ?_ _) | (with_reducible refine Kd.C_drew ?_))); (case side4 => exact (Kd.S_reads' HO451.out).2.1); rintro e w' ⟨rfl, ⟨nd, rfl⟩⟩) | (go_at_call 9; (with_reducible refine (flonglaw18_known.calls kj1  t453 _ ?side1 A15.out).mono ?_); (case side1 => exact GOK.of_below (GOK.sub HG.out rfl) bA); rintro e w22 ⟨rfl, hb⟩; replace HO444 := Aside0.mk (Kd.R_below (kR HO444) hb); replace HO448 := Aside0.mk (Kd.S_below (kS HO448) hb); replace HO451 := Aside0.mk (Kd.S_below (kS HO451) hb); replace HB := Aside0.mk (below_step bA hb); (try clear hb); (try clear hb2); (try clear hk); (try clear hi)))
      go_ret
      exact ⟨eW, bA⟩
     ·replace c14 := Bool.eq_false_iff.mpr c14
      subst c14
      have H1 : (some false) = some r := by rw [if_neg (show ¬ (false = true) by decide)] at H; exact H
      clear H
      have H := H1
      clear H1
      obtain rfl := Option.some.inj H
      go_wp2_with (first | ((with_reducible refine gate_callee (f := 10) rfl ?_); refine goesL_ (some 14) rfl rfl Tryd.func10 (by kernel_rfl) rfl #[.slice A0 l0.length c0] rfl aP ?_; (with_reducible refine (over_Write.calls kj1 _ _ l0 t442 _ ?side1 ?side2 ?side3 A9.out).mono ?_); (case side1 => repeat (first | exact (Kd.C_below HR0.out HB.out) | (with_reducible refine Kd.C_alloc ?_ _) | (with_reducible refine Kd.C_drewN ?_ _) | (with_reducible refine Kd.C_drew ?_))); (case side2 => exact HC0.out); (case side3 => exact GOK.of_below (GOK.sub HG.out rfl) bA); rintro e w23 ⟨v443, rfl, ho0, hb⟩; refine ⟨_, rfl, ?_⟩; have HO444 := Aside0.mk (Kd.R_lower ho0 (below_size bA)); replace HB := Aside0.mk (below_step bA hb); (try clear hb); (try clear hb2); (try clear hk); (try clear hi); (try clear ho0); obtain ⟨Ao24, co24, eo24⟩ := Kd.R_slice HO444.out; subst eo24) | ((with_reducible refine gate_callee (f := 18) rfl ?_); refine goesL_ (some 15) rfl rfl Tryd.func18 (by kernel_rfl) rfl #[.slice Ao24 t442.length co24] rfl aP ?_; (with_reducible refine (over_Read.calls kj1 _ _ t442 t445 t446 _ ?side1 ?side2 ?side3 A10.out).mono ?_); (case side1 => repeat (first | exact (Kd.R_reads' HO444.out).2.2 | (with_reducible refine Kd.C_alloc ?_ _) | (with_reducible refine Kd.C_drewN ?_ _) | (with_reducible refine Kd.C_drew ?_))); (case side2 => exact (Kd.R_reads' HO444.out).2.1); (case side3 => exact GOK.of_below (GOK.sub HG.out rfl) bA); rintro e w25 ⟨v447, rfl, ho0, hb⟩; refine ⟨_, rfl, ?_⟩; replace HO444 := Aside0.mk (Kd.R_below (kR HO444) hb); have HO448 := Aside0.mk (Kd.S_lower ho0 (below_size bA)); replace HB := Aside0.mk (below_step bA hb); (try clear hb); (try clear hb2); (try clear hk); (try clear hi); (try clear ho0)) | (go_at_call 24; (with_reducible refine (flongref17_Rows.calls kj1 _ _ l0 t449 _ ?side1 ?side2 A12.out).mono ?_); (case side1 => repeat (first | exact (Kd.C_below HR0.out HB.out) | (with_reducible refine Kd.C_alloc ?_ _) | (with_reducible refine Kd.C_drewN ?_ _) | (with_reducible refine Kd.C_drew ?_))); (case side2 => exact HC0.out); rintro e w26 ⟨v450, rfl, ho0, hb⟩; have n0_ := Aside0.mk (Kd.R_below (kR HO444) hb); have n1_ := Aside0.mk (Kd.S_elder' (kS HO448) (Kd.S_base ho0) hb); have n2_ := Aside0.mk (Kd.S_lower (Kd.S_new' ho0 (Kd.S_lt (kS HO448))) (below_size bA)); have n3_ := Aside0.mk (below_step bA hb); clear HO444; clear HO448; clear HB; have HO444 := n0_; have HO448 := n1_; have HO451 := n2_; have HB := n3_; clear n0_ n1_ n2_ n3_; (try clear hb); (try clear hb2); (try clear hk); (try clear hi); (try clear ho0); obtain ⟨Ao27, co27, eo27⟩ := Kd.S_slice HO448.out; subst eo27; obtain ⟨Ao28, co28, eo28⟩ := Kd.S_slice HO451.out; subst eo28) | (go_at_call 22; (with_reducible refine (flongref03_SameRows.calls kj1 _ _ t445 _ _ t449 false _ ?side1 ?side2 ?side3 ?side4 A13.out).mono ?_); (case side1 => repeat (first | exact (Kd.S_reads' HO448.out).2.2 | (with_reducible refine Kd.C_alloc ?_ _) | (with_reducible refine Kd.C_drewN ?_ _) | (with_reducible refine Kd.C_drew ?_))); (case side2 => exact (Kd.S_reads' HO448.out).2.1); (case side3 => repeat (first | exact (Kd.S_reads' HO451.out).2.2 | (with_reducible refine Kd.C_alloc ?_ _) | (with_reducible refine Kd.C_drewN ?_ _) | (with_reducible refine Kd.C_drew ?_))); (case side4 => exact (Kd.S_reads' HO451.out).2.1); rintro e w' ⟨rfl, ⟨nd, rfl⟩⟩))
      go_ret
      exact ⟨eW, bA⟩
    ·rw [if_neg c11] at H
     have c11b0 : (t446 == 0) = false := beq_eq_false_iff_ne.mpr c11
     have c11b1 : (t446 != 0) = true := bne_iff_ne.mpr c11
     obtain rfl := Option.some.inj H
     go_wp2_with (first | ((with_reducible refine gate_callee (f := 10) rfl ?_); refine goesL_ (some 14) rfl rfl Tryd.func10 (by kernel_rfl) rfl #[.slice A0 l0.length c0] rfl aP ?_; (with_reducible refine (over_Write.calls kj1 _ _ l0 t442 _ ?side1 ?side2 ?side3 A9.out).mono ?_); (case side1 => repeat (first | exact (Kd.C_below HR0.out HB.out) | (with_reducible refine Kd.C_alloc ?_ _) | (with_reducible refine Kd.C_drewN ?_ _) | (with_reducible refine Kd.C_drew ?_))); (case side2 => exact HC0.out); (case side3 => exact GOK.of_below (GOK.sub HG.out rfl) bA); rintro e w29 ⟨v443, rfl, ho0, hb⟩; refine ⟨_, rfl, ?_⟩; have HO444 := Aside0.mk (Kd.R_lower ho0 (below_size bA)); replace HB := Aside0.mk (below_step bA hb); (try clear hb); (try clear hb2); (try clear hk); (try clear hi); (try clear ho0); obtain ⟨Ao30, co30, eo30⟩ := Kd.R_slice HO444.out; subst eo30) | ((with_reducible refine gate_callee (f := 18) rfl ?_); refine goesL_ (some 15) rfl rfl Tryd.func18 (by kernel_rfl) rfl #[.slice Ao30 t442.length co30] rfl aP ?_; (with_reducible refine (over_Read.calls kj1 _ _ t442 t445 t446 _ ?side1 ?side2 ?side3 A10.out).mono ?_); (case side1 => repeat (first | exact (Kd.R_reads' HO444.out).2.2 | (with_reducible refine Kd.C_alloc ?_ _) | (with_reducible refine Kd.C_drewN ?_ _) | (with_reducible refine Kd.C_drew ?_))); (case side2 => exact (Kd.R_reads' HO444.out).2.1); (case side3 => exact GOK.of_below (GOK.sub HG.out rfl) bA); rintro e w31 ⟨v447, rfl, ho0, hb⟩; refine ⟨_, rfl, ?_⟩; replace HO444 := Aside0.mk (Kd.R_below (kR HO444) hb); have HO448 := Aside0.mk (Kd.S_lower ho0 (below_size bA)); replace HB := Aside0.mk (below_step bA hb); (try clear hb); (try clear hb2); (try clear hk); (try clear hi); (try clear ho0)))
     go_ret
     exact ⟨eW, bA⟩

end Go.Proofs.YtmeinakeiefcdaaDoor.X
