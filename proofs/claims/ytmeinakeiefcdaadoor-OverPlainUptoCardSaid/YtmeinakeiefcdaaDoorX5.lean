-- Written by this session's xprint.py (a variant of the kit's printer). Not trusted: Lean checks it.
import Derived.Test.YtmeinakeiefcdaaDoorX0
import Derived.Test.YtmeinakeiefcdaaDoorX1
import Derived.Test.YtmeinakeiefcdaaDoorX2
import Derived.Test.YtmeinakeiefcdaaDoorX3
import Derived.Test.YtmeinakeiefcdaaDoorX4
import Derived.Test.YtmeinakeiefcdaaDoorHandA
namespace Go.Proofs.YtmeinakeiefcdaaDoor.X
open Go.Proofs.YtmeinakeiefcdaaDoor.Hand
open Go.RowKit Go.Proofs.YtmeinakeiefcdaaDoorW.PrintWords Go.Proofs.YtmeinakeiefcdaaDoorW.PrintLast Go.Proofs.YtmeinakeiefcdaaDoorW.PrintMore
attribute [local go_sem] max2_int min2_int max_two min_two max_three min_three max_four min_four   -- for this text's walks alone
set_option linter.unusedVariables false
set_option maxHeartbeats 8000000
set_option maxRecDepth 100000
set_option linter.unusedSimpArgs false

/-! ### flonglaw18_OverPlain: function 3 -/
mutual
def flonglaw18_OverPlain.l0 : Nat → List (S30) → List Int → Int → Option (Bool)
 | 0, _, _, _ => none
 | k + 1, x0, x3, x4 => if x4 < (x3.length : Int) then (if 0 ≤ x4 then (if (rd x3 x4) < 32 then (if (rd x3 x4) = 8 then (if (rd x3 x4) = 127 then (some false) else (flonglaw18_OverPlain.l0 k x0 x3 (wrap64 (x4 + 1)))) else (if (rd x3 x4) = 10 then (if (rd x3 x4) = 127 then (some false) else (flonglaw18_OverPlain.l0 k x0 x3 (wrap64 (x4 + 1)))) else (some false))) else (if (rd x3 x4) = 127 then (some false) else (flonglaw18_OverPlain.l0 k x0 x3 (wrap64 (x4 + 1))))) else (none)) else (flonglaw18_OverPlain.l1 k x0 0)
def flonglaw18_OverPlain.l1 : Nat → List (S30) → Int → Option (Bool)
 | 0, _, _ => none
 | k + 1, x0, x5 => if x5 < (x0.length : Int) then (if 0 ≤ x5 then ((flongref17_Erase.f k ((rd_T30 x0 x5).f1)).bind fun t332 => ((over_Row.f k t332).bind fun t335 => ((flongref17_Normal.f k t332).bind fun t338 => ((flongref03_Text.f k t338).bind fun t341 => (if (strOfNums t335).toList = t341.toList then (flonglaw18_OverPlain.l1 k x0 (wrap64 (x5 + 1))) else (some false)))))) else (none)) else ((flonglaw18_known.f k).bind fun t330 => (some t330))
end
def flonglaw18_OverPlain.f (k : Nat) (l0 : List (S30)) : Option (Bool) := (flongref17_Long.f k l0).bind fun t319 => (if t319 = true then ((flonglaw18_known.f k).bind fun t320 => (some t320)) else ((over_Write.f k l0).bind fun t321 => (flonglaw18_OverPlain.l0 k l0 t321 0)))
theorem flonglaw18_OverPlain.mono_l : ∀ k, (∀ y0 y1 y2, LeO (flonglaw18_OverPlain.l0 k y0 y1 y2) (flonglaw18_OverPlain.l0 (k + 1) y0 y1 y2)) ∧ (∀ y0 y1, LeO (flonglaw18_OverPlain.l1 k y0 y1) (flonglaw18_OverPlain.l1 (k + 1) y0 y1))
 | 0 => ⟨fun _ _ _ r h => by simp [flonglaw18_OverPlain.l0] at h, fun _ _ r h => by simp [flonglaw18_OverPlain.l1] at h⟩
 | k + 1 => by
  obtain ⟨ih0, ih1⟩ := flonglaw18_OverPlain.mono_l k
  refine ⟨?_, ?_⟩
  ·intro y0 y1 y2
   unfold flonglaw18_OverPlain.l0
   repeat' first
   | (with_reducible exact ih0 _ _ _)
   | (with_reducible exact ih1 _ _)
   | (with_reducible exact flonglaw18_known.mono _)
   | (with_reducible exact flongref03_Text.mono _ _)
   | (with_reducible exact flongref17_Erase.mono _ _)
   | (with_reducible exact flongref17_Long.mono _ _)
   | (with_reducible exact flongref17_Normal.mono _ _)
   | (with_reducible exact over_Row.mono _ _)
   | (with_reducible exact over_Write.mono _ _)
   | (with_reducible exact LeO.refl _)
   | (with_reducible exact LeO.none _)
   | (with_reducible refine LeO.ite ?_ ?_)
   | (with_reducible refine LeO.bind ?_ (fun _ => ?_))
  ·intro y0 y1
   unfold flonglaw18_OverPlain.l1
   repeat' first
   | (with_reducible exact ih0 _ _ _)
   | (with_reducible exact ih1 _ _)
   | (with_reducible exact flonglaw18_known.mono _)
   | (with_reducible exact flongref03_Text.mono _ _)
   | (with_reducible exact flongref17_Erase.mono _ _)
   | (with_reducible exact flongref17_Long.mono _ _)
   | (with_reducible exact flongref17_Normal.mono _ _)
   | (with_reducible exact over_Row.mono _ _)
   | (with_reducible exact over_Write.mono _ _)
   | (with_reducible exact LeO.refl _)
   | (with_reducible exact LeO.none _)
   | (with_reducible refine LeO.ite ?_ ?_)
   | (with_reducible refine LeO.bind ?_ (fun _ => ?_))
theorem flonglaw18_OverPlain.mono : ∀ a0 k, LeO (flonglaw18_OverPlain.f k a0) (flonglaw18_OverPlain.f (k + 1) a0) := by
 intro a0 k
 obtain ⟨ih0, ih1⟩ := flonglaw18_OverPlain.mono_l k
 unfold flonglaw18_OverPlain.f
 repeat' first
   | (with_reducible exact ih0 _ _ _)
   | (with_reducible exact ih1 _ _)
   | (with_reducible exact flonglaw18_known.mono _)
   | (with_reducible exact flongref03_Text.mono _ _)
   | (with_reducible exact flongref17_Erase.mono _ _)
   | (with_reducible exact flongref17_Long.mono _ _)
   | (with_reducible exact flongref17_Normal.mono _ _)
   | (with_reducible exact over_Row.mono _ _)
   | (with_reducible exact over_Write.mono _ _)
   | (with_reducible exact LeO.refl _)
   | (with_reducible exact LeO.none _)
   | (with_reducible refine LeO.ite ?_ ?_)
   | (with_reducible refine LeO.bind ?_ (fun _ => ?_))
theorem flonglaw18_OverPlain.calls (k : Nat) (A0 : Option Addr) (c0 : Nat) (l0 : List (S30)) (r : Bool) (w : World) (hr0 : Kd.C k30 w A0 l0.length l0) (hc0 : l0.length ≤ c0) (hG : GOK [0,1] w) (h : flonglaw18_OverPlain.f k l0 = some r) :
  Calls Tryd.prog 3 #[.slice A0 l0.length c0] w fun e w' => e = .returned (.bool r) ∧ Below w.heap.size w w' := by
 have HG := Aside0.mk hG
 clear hG
 have HR0 := Aside0.mk hr0
 have HC0 := Aside0.mk hc0
 clear hr0 hc0
 have HB := Aside0.mk (Below.refl w.heap.size w)
 have H : ((flongref17_Long.f k l0).bind fun t319 => (if t319 = true then ((flonglaw18_known.f k).bind fun t320 => (some t320)) else ((over_Write.f k l0).bind fun t321 => (flonglaw18_OverPlain.l0 k l0 t321 0)))) = some r := h
 clear h
 replace H := Option.bind_eq_some_iff.mp H
 obtain ⟨t319, A20, H⟩ := H
 replace H : (if t319 = true then ((flonglaw18_known.f k).bind fun t320 => (some t320)) else ((over_Write.f k l0).bind fun t321 => (flonglaw18_OverPlain.l0 k l0 t321 0))) = some r := H
 have A2 := Aside0.mk A20
 clear A20
 by_cases c3 : t319 = true
 ·subst c3
  have H1 : ((flonglaw18_known.f k).bind fun t320 => (some t320)) = some r := by rw [if_pos rfl] at H; exact H
  clear H
  have H := H1
  clear H1
  replace H := Option.bind_eq_some_iff.mp H
  obtain ⟨t320, A40, H⟩ := H
  replace H : (some t320) = some r := H
  have A4 := Aside0.mk A40
  clear A40
  obtain rfl := Option.some.inj H
  go_enter Tryd.func3, Tryd.ntmps3
  go_wp2_with (first | ((with_reducible refine gate_callee (f := 8) rfl ?_); refine goesL_ (some 8) rfl rfl Tryd.func8 (by kernel_rfl) rfl #[.slice A0 l0.length c0] rfl (by (try simp only [List.map_toArray, List.map_cons, List.map_nil]); first | done | rfl | (simp only [List.length_drop, List.length_take]; rfl)) ?_; (with_reducible refine (flongref17_Long.calls k _ _ l0 true _ ?side1 ?side2 A2.out).mono ?_); (case side1 => repeat (first | exact HR0.out | (with_reducible refine Kd.C_alloc ?_ _) | (with_reducible refine Kd.C_drewN ?_ _) | (with_reducible refine Kd.C_drew ?_))); (case side2 => exact HC0.out); rintro e w' ⟨rfl, ⟨nd, rfl⟩⟩; refine ⟨_, rfl, ?_⟩) | ((with_reducible refine gate_callee (f := 9) rfl ?_); refine goesL_ (some 9) rfl rfl Tryd.func9 (by kernel_rfl) rfl #[] rfl (by (try simp only [List.map_toArray, List.map_cons, List.map_nil]); first | done | rfl | (simp only [List.length_drop, List.length_take]; rfl)) ?_; (with_reducible refine (flonglaw18_known.calls k  t320 _ ?side1 A4.out).mono ?_); (case side1 => exact GOK.of_below (GOK.sub HG.out rfl) (by repeat (first | (with_reducible first | exact HB.out | apply below_alloc | apply pw_below_drewN | apply below_drew1) | exact HB.out))); rintro e w5 ⟨rfl, hb⟩; refine ⟨_, rfl, ?_⟩; have n0_ := Aside0.mk (below_step (by repeat (first | (with_reducible first | exact HB.out | apply below_alloc | apply pw_below_drewN | apply below_drew1) | exact HB.out)) hb); clear HB; have HB := n0_; clear n0_; (try clear hb); (try clear hb2); (try clear hk); (try clear hi)))
  go_ret
  exact ⟨by first | rfl | (simp [errW_none, errW_some] <;> rfl) | (simp [*, errW_none, errW_some] <;> rfl), by repeat (first | (with_reducible first | exact HB.out | apply below_alloc | apply pw_below_drewN | apply below_drew1) | exact HB.out)⟩
 ·replace c3 := Bool.eq_false_iff.mpr c3
  subst c3
  have H1 : ((over_Write.f k l0).bind fun t321 => (flonglaw18_OverPlain.l0 k l0 t321 0)) = some r := by rw [if_neg (show ¬ (false = true) by decide)] at H; exact H
  clear H
  have H := H1
  clear H1
  replace H := Option.bind_eq_some_iff.mp H
  obtain ⟨t321, A60, H⟩ := H
  replace H : (flonglaw18_OverPlain.l0 k l0 t321 0) = some r := H
  have A6 := Aside0.mk A60
  clear A60
  have H' := Aside0.mk H
  clear H
  go_enter Tryd.func3, Tryd.ntmps3
  go_wp2_with (first | ((with_reducible refine gate_callee (f := 8) rfl ?_); refine goesL_ (some 8) rfl rfl Tryd.func8 (by kernel_rfl) rfl #[.slice A0 l0.length c0] rfl (by (try simp only [List.map_toArray, List.map_cons, List.map_nil]); first | done | rfl | (simp only [List.length_drop, List.length_take]; rfl)) ?_; (with_reducible refine (flongref17_Long.calls k _ _ l0 false _ ?side1 ?side2 A2.out).mono ?_); (case side1 => repeat (first | exact HR0.out | (with_reducible refine Kd.C_alloc ?_ _) | (with_reducible refine Kd.C_drewN ?_ _) | (with_reducible refine Kd.C_drew ?_))); (case side2 => exact HC0.out); rintro e w' ⟨rfl, ⟨nd, rfl⟩⟩; refine ⟨_, rfl, ?_⟩) | ((with_reducible refine gate_callee (f := 10) rfl ?_); refine goesL_ (some 11) rfl rfl Tryd.func10 (by kernel_rfl) rfl #[.slice A0 l0.length c0] rfl (by (try simp only [List.map_toArray, List.map_cons, List.map_nil]); first | done | rfl | (simp only [List.length_drop, List.length_take]; rfl)) ?_; (with_reducible refine (over_Write.calls k _ _ l0 t321 _ ?side1 ?side2 ?side3 A6.out).mono ?_); (case side1 => repeat (first | exact HR0.out | (with_reducible refine Kd.C_alloc ?_ _) | (with_reducible refine Kd.C_drewN ?_ _) | (with_reducible refine Kd.C_drew ?_))); (case side2 => exact HC0.out); (case side3 => exact GOK.of_below (GOK.sub HG.out rfl) (by repeat (first | (with_reducible first | exact HB.out | apply below_alloc | apply pw_below_drewN | apply below_drew1) | exact HB.out))); rintro e w7 ⟨v322, rfl, ho0, hb⟩; refine ⟨_, rfl, ?_⟩; have n0_ := Aside0.mk (Kd.R_lower ho0 (below_size (by repeat (first | (with_reducible first | exact HB.out | apply below_alloc | apply pw_below_drewN | apply below_drew1) | exact HB.out)))); have n1_ := Aside0.mk (below_step (by repeat (first | (with_reducible first | exact HB.out | apply below_alloc | apply pw_below_drewN | apply below_drew1) | exact HB.out)) hb); clear HB; have HO323 := n0_; have HB := n1_; clear n0_ n1_; (try clear hb); (try clear hb2); (try clear hk); (try clear hi); (try clear ho0)))
  go_loopg [4] k (fun kq v4 w' => ∃ (x4_1 : Int), v4 = .int .i64 x4_1 ∧ Aside0 (flonglaw18_OverPlain.l0 kq l0 t321 x4_1 = some r) ∧ Aside0 (kq ≤ k) ∧ Aside0 (Kd.R (Kd.int .u8) 5 w' w.heap.size (fun _ => True) v322 t321) ∧ Aside0 (Below w.heap.size w w'))
  case atStart => exact ⟨(0), (by first | rfl | (simp; done) | (simp [*]; done)), H', ⟨Nat.le_refl _⟩, ⟨by (with_reducible repeat (first | apply Kd.R_alloc | apply Kd.R_drewN | apply Kd.R_drew)); exact HO323.out⟩, ⟨by repeat (first | (with_reducible first | exact HB.out | apply below_alloc | apply pw_below_drewN | apply below_drew1) | exact HB.out)⟩⟩
  case round =>
   clear H'
   try clear c1
   try clear p2
   try clear c3
   obtain ⟨x4_1, rfl, HA, HK1, HO_3, HB⟩ := hrel
   cases gk with
   | zero => exact absurd HA.out (by simp [flonglaw18_OverPlain.l0])
   | succ k1 =>
    have H := HA.out
    clear HA
    simp only [flonglaw18_OverPlain.l0] at H
    by_cases c8 : x4_1 < (t321.length : Int)
    ·rw [if_pos c8] at H
     have c8b0 : decide (x4_1 < (t321.length : Int)) = true := decide_eq_true c8
     clear c8
     by_cases c9 : 0 ≤ x4_1
     ·rw [if_pos c9] at H
      have c9b0 : decide (0 ≤ x4_1) = true := decide_eq_true c9
      clear c9
      by_cases c10 : (rd t321 x4_1) < 32
      ·rw [if_pos c10] at H
       have c10b0 : decide ((rd t321 x4_1) < 32) = true := decide_eq_true c10
       clear c10
       by_cases c11 : (rd t321 x4_1) = 8
       ·rw [if_pos c11] at H
        have c11b0 : ((rd t321 x4_1) == 8) = true := beq_iff_eq.mpr c11
        have c11b1 : ((rd t321 x4_1) != 8) = false := bne_eq_false_iff_eq.mpr c11
        clear c11
        by_cases c12 : (rd t321 x4_1) = 127
        ·rw [if_pos c12] at H
         have c12b0 : ((rd t321 x4_1) == 127) = true := beq_iff_eq.mpr c12
         have c12b1 : ((rd t321 x4_1) != 127) = false := bne_eq_false_iff_eq.mpr c12
         clear c12
         obtain rfl := Option.some.inj H
         obtain ⟨Ao13, co13, eo13⟩ := Kd.R_slice HO_3.out
         subst eo13
         have p324 : 0 ≤ (x4_1 : Int) := of_decide_eq_true (by first | (with_reducible assumption) | assumption)
         have q324 : x4_1 < (t321.length : Int) := of_decide_eq_true (by first | (with_reducible assumption) | assumption)
         obtain ⟨ad324, e324, hx324_0⟩ := Kd.at_int (Kd.R_reads' HO_3.out).2.2 x4_1 p324 q324
         cases e324
         replace p324 := eq_true p324
         replace q324 := eq_true q324
         have p325 : 0 ≤ (x4_1 : Int) := of_decide_eq_true (by first | (with_reducible assumption) | assumption)
         have q325 : x4_1 < (t321.length : Int) := of_decide_eq_true (by first | (with_reducible assumption) | assumption)
         obtain ⟨ad325, e325, hx325_0⟩ := Kd.at_int (Kd.R_reads' HO_3.out).2.2 x4_1 p325 q325
         obtain rfl : ad324 = ad325 := (by injection e325)
         replace p325 := eq_true p325
         replace q325 := eq_true q325
         have p326 : 0 ≤ (x4_1 : Int) := of_decide_eq_true (by first | (with_reducible assumption) | assumption)
         have q326 : x4_1 < (t321.length : Int) := of_decide_eq_true (by first | (with_reducible assumption) | assumption)
         obtain ⟨ad326, e326, hx326_0⟩ := Kd.at_int (Kd.R_reads' HO_3.out).2.2 x4_1 p326 q326
         obtain rfl : ad324 = ad326 := (by injection e326)
         replace p326 := eq_true p326
         replace q326 := eq_true q326
         go_wp2
         go_ret
         exact ⟨by first | rfl | (simp [errW_none, errW_some] <;> rfl) | (simp [*, errW_none, errW_some] <;> rfl), by repeat (first | (with_reducible first | exact HB.out | apply below_alloc | apply pw_below_drewN | apply below_drew1) | exact HB.out)⟩
        ·rw [if_neg c12] at H
         have c12b0 : ((rd t321 x4_1) == 127) = false := beq_eq_false_iff_ne.mpr c12
         have c12b1 : ((rd t321 x4_1) != 127) = true := bne_iff_ne.mpr c12
         have H' := Aside0.mk H
         clear H
         obtain ⟨Ao14, co14, eo14⟩ := Kd.R_slice HO_3.out
         subst eo14
         have p324 : 0 ≤ (x4_1 : Int) := of_decide_eq_true (by first | (with_reducible assumption) | assumption)
         have q324 : x4_1 < (t321.length : Int) := of_decide_eq_true (by first | (with_reducible assumption) | assumption)
         obtain ⟨ad324, e324, hx324_0⟩ := Kd.at_int (Kd.R_reads' HO_3.out).2.2 x4_1 p324 q324
         cases e324
         replace p324 := eq_true p324
         replace q324 := eq_true q324
         have p325 : 0 ≤ (x4_1 : Int) := of_decide_eq_true (by first | (with_reducible assumption) | assumption)
         have q325 : x4_1 < (t321.length : Int) := of_decide_eq_true (by first | (with_reducible assumption) | assumption)
         obtain ⟨ad325, e325, hx325_0⟩ := Kd.at_int (Kd.R_reads' HO_3.out).2.2 x4_1 p325 q325
         obtain rfl : ad324 = ad325 := (by injection e325)
         replace p325 := eq_true p325
         replace q325 := eq_true q325
         have p326 : 0 ≤ (x4_1 : Int) := of_decide_eq_true (by first | (with_reducible assumption) | assumption)
         have q326 : x4_1 < (t321.length : Int) := of_decide_eq_true (by first | (with_reducible assumption) | assumption)
         obtain ⟨ad326, e326, hx326_0⟩ := Kd.at_int (Kd.R_reads' HO_3.out).2.2 x4_1 p326 q326
         obtain rfl : ad324 = ad326 := (by injection e326)
         replace p326 := eq_true p326
         replace q326 := eq_true q326
         go_wp2
         go_roundg k1
         case measure => have := HK1.out; omega
         case rel => exact ⟨(wrap64 (x4_1 + 1)), (by first | rfl | (simp; done) | (simp [*]; done)), H', ⟨by have := HK1.out; omega⟩, ⟨by (with_reducible repeat (first | apply Kd.R_alloc | apply Kd.R_drewN | apply Kd.R_drew)); exact HO_3.out⟩, ⟨by repeat (first | (with_reducible first | exact HB.out | apply below_alloc | apply pw_below_drewN | apply below_drew1) | exact HB.out)⟩⟩
       ·rw [if_neg c11] at H
        have c11b0 : ((rd t321 x4_1) == 8) = false := beq_eq_false_iff_ne.mpr c11
        have c11b1 : ((rd t321 x4_1) != 8) = true := bne_iff_ne.mpr c11
        by_cases c15 : (rd t321 x4_1) = 10
        ·rw [if_pos c15] at H
         have c15b0 : ((rd t321 x4_1) == 10) = true := beq_iff_eq.mpr c15
         have c15b1 : ((rd t321 x4_1) != 10) = false := bne_eq_false_iff_eq.mpr c15
         clear c15
         by_cases c16 : (rd t321 x4_1) = 127
         ·rw [if_pos c16] at H
          have c16b0 : ((rd t321 x4_1) == 127) = true := beq_iff_eq.mpr c16
          have c16b1 : ((rd t321 x4_1) != 127) = false := bne_eq_false_iff_eq.mpr c16
          clear c16
          obtain rfl := Option.some.inj H
          obtain ⟨Ao17, co17, eo17⟩ := Kd.R_slice HO_3.out
          subst eo17
          have p324 : 0 ≤ (x4_1 : Int) := of_decide_eq_true (by first | (with_reducible assumption) | assumption)
          have q324 : x4_1 < (t321.length : Int) := of_decide_eq_true (by first | (with_reducible assumption) | assumption)
          obtain ⟨ad324, e324, hx324_0⟩ := Kd.at_int (Kd.R_reads' HO_3.out).2.2 x4_1 p324 q324
          cases e324
          replace p324 := eq_true p324
          replace q324 := eq_true q324
          have p325 : 0 ≤ (x4_1 : Int) := of_decide_eq_true (by first | (with_reducible assumption) | assumption)
          have q325 : x4_1 < (t321.length : Int) := of_decide_eq_true (by first | (with_reducible assumption) | assumption)
          obtain ⟨ad325, e325, hx325_0⟩ := Kd.at_int (Kd.R_reads' HO_3.out).2.2 x4_1 p325 q325
          obtain rfl : ad324 = ad325 := (by injection e325)
          replace p325 := eq_true p325
          replace q325 := eq_true q325
          have p327 : 0 ≤ (x4_1 : Int) := of_decide_eq_true (by first | (with_reducible assumption) | assumption)
          have q327 : x4_1 < (t321.length : Int) := of_decide_eq_true (by first | (with_reducible assumption) | assumption)
          obtain ⟨ad327, e327, hx327_0⟩ := Kd.at_int (Kd.R_reads' HO_3.out).2.2 x4_1 p327 q327
          obtain rfl : ad324 = ad327 := (by injection e327)
          replace p327 := eq_true p327
          replace q327 := eq_true q327
          have p328 : 0 ≤ (x4_1 : Int) := of_decide_eq_true (by first | (with_reducible assumption) | assumption)
          have q328 : x4_1 < (t321.length : Int) := of_decide_eq_true (by first | (with_reducible assumption) | assumption)
          obtain ⟨ad328, e328, hx328_0⟩ := Kd.at_int (Kd.R_reads' HO_3.out).2.2 x4_1 p328 q328
          obtain rfl : ad324 = ad328 := (by injection e328)
          replace p328 := eq_true p328
          replace q328 := eq_true q328
          go_wp2
          go_ret
          exact ⟨by first | rfl | (simp [errW_none, errW_some] <;> rfl) | (simp [*, errW_none, errW_some] <;> rfl), by repeat (first | (with_reducible first | exact HB.out | apply below_alloc | apply pw_below_drewN | apply below_drew1) | exact HB.out)⟩
         ·rw [if_neg c16] at H
          have c16b0 : ((rd t321 x4_1) == 127) = false := beq_eq_false_iff_ne.mpr c16
          have c16b1 : ((rd t321 x4_1) != 127) = true := bne_iff_ne.mpr c16
          have H' := Aside0.mk H
          clear H
          obtain ⟨Ao18, co18, eo18⟩ := Kd.R_slice HO_3.out
          subst eo18
          have p324 : 0 ≤ (x4_1 : Int) := of_decide_eq_true (by first | (with_reducible assumption) | assumption)
          have q324 : x4_1 < (t321.length : Int) := of_decide_eq_true (by first | (with_reducible assumption) | assumption)
          obtain ⟨ad324, e324, hx324_0⟩ := Kd.at_int (Kd.R_reads' HO_3.out).2.2 x4_1 p324 q324
          cases e324
          replace p324 := eq_true p324
          replace q324 := eq_true q324
          have p325 : 0 ≤ (x4_1 : Int) := of_decide_eq_true (by first | (with_reducible assumption) | assumption)
          have q325 : x4_1 < (t321.length : Int) := of_decide_eq_true (by first | (with_reducible assumption) | assumption)
          obtain ⟨ad325, e325, hx325_0⟩ := Kd.at_int (Kd.R_reads' HO_3.out).2.2 x4_1 p325 q325
          obtain rfl : ad324 = ad325 := (by injection e325)
          replace p325 := eq_true p325
          replace q325 := eq_true q325
          have p327 : 0 ≤ (x4_1 : Int) := of_decide_eq_true (by first | (with_reducible assumption) | assumption)
          have q327 : x4_1 < (t321.length : Int) := of_decide_eq_true (by first | (with_reducible assumption) | assumption)
          obtain ⟨ad327, e327, hx327_0⟩ := Kd.at_int (Kd.R_reads' HO_3.out).2.2 x4_1 p327 q327
          obtain rfl : ad324 = ad327 := (by injection e327)
          replace p327 := eq_true p327
          replace q327 := eq_true q327
          have p328 : 0 ≤ (x4_1 : Int) := of_decide_eq_true (by first | (with_reducible assumption) | assumption)
          have q328 : x4_1 < (t321.length : Int) := of_decide_eq_true (by first | (with_reducible assumption) | assumption)
          obtain ⟨ad328, e328, hx328_0⟩ := Kd.at_int (Kd.R_reads' HO_3.out).2.2 x4_1 p328 q328
          obtain rfl : ad324 = ad328 := (by injection e328)
          replace p328 := eq_true p328
          replace q328 := eq_true q328
          go_wp2
          go_roundg k1
          case measure => have := HK1.out; omega
          case rel => exact ⟨(wrap64 (x4_1 + 1)), (by first | rfl | (simp; done) | (simp [*]; done)), H', ⟨by have := HK1.out; omega⟩, ⟨by (with_reducible repeat (first | apply Kd.R_alloc | apply Kd.R_drewN | apply Kd.R_drew)); exact HO_3.out⟩, ⟨by repeat (first | (with_reducible first | exact HB.out | apply below_alloc | apply pw_below_drewN | apply below_drew1) | exact HB.out)⟩⟩
        ·rw [if_neg c15] at H
         have c15b0 : ((rd t321 x4_1) == 10) = false := beq_eq_false_iff_ne.mpr c15
         have c15b1 : ((rd t321 x4_1) != 10) = true := bne_iff_ne.mpr c15
         obtain rfl := Option.some.inj H
         obtain ⟨Ao19, co19, eo19⟩ := Kd.R_slice HO_3.out
         subst eo19
         have p324 : 0 ≤ (x4_1 : Int) := of_decide_eq_true (by first | (with_reducible assumption) | assumption)
         have q324 : x4_1 < (t321.length : Int) := of_decide_eq_true (by first | (with_reducible assumption) | assumption)
         obtain ⟨ad324, e324, hx324_0⟩ := Kd.at_int (Kd.R_reads' HO_3.out).2.2 x4_1 p324 q324
         cases e324
         replace p324 := eq_true p324
         replace q324 := eq_true q324
         have p325 : 0 ≤ (x4_1 : Int) := of_decide_eq_true (by first | (with_reducible assumption) | assumption)
         have q325 : x4_1 < (t321.length : Int) := of_decide_eq_true (by first | (with_reducible assumption) | assumption)
         obtain ⟨ad325, e325, hx325_0⟩ := Kd.at_int (Kd.R_reads' HO_3.out).2.2 x4_1 p325 q325
         obtain rfl : ad324 = ad325 := (by injection e325)
         replace p325 := eq_true p325
         replace q325 := eq_true q325
         have p327 : 0 ≤ (x4_1 : Int) := of_decide_eq_true (by first | (with_reducible assumption) | assumption)
         have q327 : x4_1 < (t321.length : Int) := of_decide_eq_true (by first | (with_reducible assumption) | assumption)
         obtain ⟨ad327, e327, hx327_0⟩ := Kd.at_int (Kd.R_reads' HO_3.out).2.2 x4_1 p327 q327
         obtain rfl : ad324 = ad327 := (by injection e327)
         replace p327 := eq_true p327
         replace q327 := eq_true q327
         go_wp2
         go_ret
         exact ⟨by first | rfl | (simp [errW_none, errW_some] <;> rfl) | (simp [*, errW_none, errW_some] <;> rfl), by repeat (first | (with_reducible first | exact HB.out | apply below_alloc | apply pw_below_drewN | apply below_drew1) | exact HB.out)⟩
      ·rw [if_neg c10] at H
       have c10b0 : decide ((rd t321 x4_1) < 32) = false := decide_eq_false c10
       clear c10
       by_cases c20 : (rd t321 x4_1) = 127
       ·rw [if_pos c20] at H
        have c20b0 : ((rd t321 x4_1) == 127) = true := beq_iff_eq.mpr c20
        have c20b1 : ((rd t321 x4_1) != 127) = false := bne_eq_false_iff_eq.mpr c20
        clear c20
        obtain rfl := Option.some.inj H
        obtain ⟨Ao21, co21, eo21⟩ := Kd.R_slice HO_3.out
        subst eo21
        have p324 : 0 ≤ (x4_1 : Int) := of_decide_eq_true (by first | (with_reducible assumption) | assumption)
        have q324 : x4_1 < (t321.length : Int) := of_decide_eq_true (by first | (with_reducible assumption) | assumption)
        obtain ⟨ad324, e324, hx324_0⟩ := Kd.at_int (Kd.R_reads' HO_3.out).2.2 x4_1 p324 q324
        cases e324
        replace p324 := eq_true p324
        replace q324 := eq_true q324
        have p329 : 0 ≤ (x4_1 : Int) := of_decide_eq_true (by first | (with_reducible assumption) | assumption)
        have q329 : x4_1 < (t321.length : Int) := of_decide_eq_true (by first | (with_reducible assumption) | assumption)
        obtain ⟨ad329, e329, hx329_0⟩ := Kd.at_int (Kd.R_reads' HO_3.out).2.2 x4_1 p329 q329
        obtain rfl : ad324 = ad329 := (by injection e329)
        replace p329 := eq_true p329
        replace q329 := eq_true q329
        go_wp2
        go_ret
        exact ⟨by first | rfl | (simp [errW_none, errW_some] <;> rfl) | (simp [*, errW_none, errW_some] <;> rfl), by repeat (first | (with_reducible first | exact HB.out | apply below_alloc | apply pw_below_drewN | apply below_drew1) | exact HB.out)⟩
       ·rw [if_neg c20] at H
        have c20b0 : ((rd t321 x4_1) == 127) = false := beq_eq_false_iff_ne.mpr c20
        have c20b1 : ((rd t321 x4_1) != 127) = true := bne_iff_ne.mpr c20
        have H' := Aside0.mk H
        clear H
        obtain ⟨Ao22, co22, eo22⟩ := Kd.R_slice HO_3.out
        subst eo22
        have p324 : 0 ≤ (x4_1 : Int) := of_decide_eq_true (by first | (with_reducible assumption) | assumption)
        have q324 : x4_1 < (t321.length : Int) := of_decide_eq_true (by first | (with_reducible assumption) | assumption)
        obtain ⟨ad324, e324, hx324_0⟩ := Kd.at_int (Kd.R_reads' HO_3.out).2.2 x4_1 p324 q324
        cases e324
        replace p324 := eq_true p324
        replace q324 := eq_true q324
        have p329 : 0 ≤ (x4_1 : Int) := of_decide_eq_true (by first | (with_reducible assumption) | assumption)
        have q329 : x4_1 < (t321.length : Int) := of_decide_eq_true (by first | (with_reducible assumption) | assumption)
        obtain ⟨ad329, e329, hx329_0⟩ := Kd.at_int (Kd.R_reads' HO_3.out).2.2 x4_1 p329 q329
        obtain rfl : ad324 = ad329 := (by injection e329)
        replace p329 := eq_true p329
        replace q329 := eq_true q329
        go_wp2
        go_roundg k1
        case measure => have := HK1.out; omega
        case rel => exact ⟨(wrap64 (x4_1 + 1)), (by first | rfl | (simp; done) | (simp [*]; done)), H', ⟨by have := HK1.out; omega⟩, ⟨by (with_reducible repeat (first | apply Kd.R_alloc | apply Kd.R_drewN | apply Kd.R_drew)); exact HO_3.out⟩, ⟨by repeat (first | (with_reducible first | exact HB.out | apply below_alloc | apply pw_below_drewN | apply below_drew1) | exact HB.out)⟩⟩
     ·rw [if_neg c9] at H
      exact absurd H (by simp)
    ·rw [if_neg c8] at H
     have c8b0 : decide (x4_1 < (t321.length : Int)) = false := decide_eq_false c8
     clear c8
     have H' := Aside0.mk H
     clear H
     obtain ⟨Ao23, co23, eo23⟩ := Kd.R_slice HO_3.out
     subst eo23
     go_wp2
     go_loopg [5] k1 (fun kq v5 w' => ∃ (x5_2 : Int), v5 = .int .i64 x5_2 ∧ Aside0 (flonglaw18_OverPlain.l1 kq l0 x5_2 = some r) ∧ Aside0 (kq ≤ k1) ∧ Aside0 (Below w.heap.size w w'))
     case atStart => exact ⟨(0), (by first | rfl | (simp; done) | (simp [*]; done)), H', ⟨Nat.le_refl _⟩, ⟨by repeat (first | (with_reducible first | exact HB.out | apply below_alloc | apply pw_below_drewN | apply below_drew1) | exact HB.out)⟩⟩
     case round =>
      clear H'
      try clear c1
      try clear c2
      try clear p2
      try clear c3
      try clear p3
      try clear q3
      try clear hx3
      try clear p6
      try clear c8
      try clear c8b0
      try clear c9
      try clear c9b0
      try clear c10
      try clear c10b0
      try clear c11
      try clear c11b0
      try clear c11b1
      try clear c12
      try clear c12b0
      try clear c12b1
      try clear c15
      try clear c15b0
      try clear c15b1
      try clear c16
      try clear c16b0
      try clear c16b1
      try clear c20
      try clear c20b0
      try clear c20b1
      try clear hx324_0
      try clear hx325_0
      try clear hx326_0
      try clear hx327_0
      try clear hx328_0
      try clear hx329_0
      try clear p2
      try clear p324
      try clear p325
      try clear p326
      try clear p327
      try clear p328
      try clear p329
      try clear q324
      try clear q325
      try clear q326
      try clear q327
      try clear q328
      try clear q329
      obtain ⟨x5_2, rfl, HA, HK2, HB⟩ := hrel
      cases gk with
      | zero => exact absurd HA.out (by simp [flonglaw18_OverPlain.l1])
      | succ k2 =>
       have H := HA.out
       clear HA
       simp only [flonglaw18_OverPlain.l1] at H
       by_cases c24 : x5_2 < (l0.length : Int)
       ·rw [if_pos c24] at H
        have c24b0 : decide (x5_2 < (l0.length : Int)) = true := decide_eq_true c24
        clear c24
        by_cases c25 : 0 ≤ x5_2
        ·rw [if_pos c25] at H
         have c25b0 : decide (0 ≤ x5_2) = true := decide_eq_true c25
         clear c25
         replace H := Option.bind_eq_some_iff.mp H
         obtain ⟨t332, A260, H⟩ := H
         replace H : ((over_Row.f k2 t332).bind fun t335 => ((flongref17_Normal.f k2 t332).bind fun t338 => ((flongref03_Text.f k2 t338).bind fun t341 => (if (strOfNums t335).toList = t341.toList then (flonglaw18_OverPlain.l1 k2 l0 (wrap64 (x5_2 + 1))) else (some false))))) = some r := H
         have A26 := Aside0.mk A260
         clear A260
         replace H := Option.bind_eq_some_iff.mp H
         obtain ⟨t335, A270, H⟩ := H
         replace H : ((flongref17_Normal.f k2 t332).bind fun t338 => ((flongref03_Text.f k2 t338).bind fun t341 => (if (strOfNums t335).toList = t341.toList then (flonglaw18_OverPlain.l1 k2 l0 (wrap64 (x5_2 + 1))) else (some false)))) = some r := H
         have A27 := Aside0.mk A270
         clear A270
         replace H := Option.bind_eq_some_iff.mp H
         obtain ⟨t338, A280, H⟩ := H
         replace H : ((flongref03_Text.f k2 t338).bind fun t341 => (if (strOfNums t335).toList = t341.toList then (flonglaw18_OverPlain.l1 k2 l0 (wrap64 (x5_2 + 1))) else (some false))) = some r := H
         have A28 := Aside0.mk A280
         clear A280
         replace H := Option.bind_eq_some_iff.mp H
         obtain ⟨t341, A290, H⟩ := H
         replace H : (if (strOfNums t335).toList = t341.toList then (flonglaw18_OverPlain.l1 k2 l0 (wrap64 (x5_2 + 1))) else (some false)) = some r := H
         have A29 := Aside0.mk A290
         clear A290
         by_cases c30 : (strOfNums t335).toList = t341.toList
         ·rw [if_pos c30] at H
          have c30b0 : ((strOfNums t335).toList == t341.toList) = true := beq_iff_eq.mpr c30
          have c30b1 : ((strOfNums t335).toList != t341.toList) = false := bne_eq_false_iff_eq.mpr c30
          clear c30
          have H' := Aside0.mk H
          clear H
          have p331 : 0 ≤ (x5_2 : Int) := of_decide_eq_true (by first | (with_reducible assumption) | assumption)
          have q331 : x5_2 < (l0.length : Int) := of_decide_eq_true (by first | (with_reducible assumption) | assumption)
          obtain ⟨ad331, A331_1, c331_1, e331, hx331_0, hx331_1, hx331_2, hl331_1, hi331_1⟩ := at_T30 HR0.out x5_2 p331 q331
          cases e331
          replace hx331_0 := (HB.out.cell (World.block_lt_of_cell? w _ hx331_0)).trans hx331_0
          replace hx331_1 := (HB.out.cell (World.block_lt_of_cell? w _ hx331_1)).trans hx331_1
          replace hx331_2 := (HB.out.cell (World.block_lt_of_cell? w _ hx331_2)).trans hx331_2
          have HR331_1 := Aside0.mk hi331_1
          have HC331_1 := Aside0.mk hl331_1
          clear hi331_1 hl331_1
          replace p331 := eq_true p331
          replace q331 := eq_true q331
          try go_wp2_with (first | ((with_reducible refine gate_callee (f := 11) rfl ?_); refine goesL_ (some 55) rfl rfl Tryd.func11 (by kernel_rfl) rfl #[.slice A331_1 ((rd_T30 l0 x5_2).f1).length c331_1] rfl (by (try simp only [List.map_toArray, List.map_cons, List.map_nil]); first | done | rfl | (simp only [List.length_drop, List.length_take]; rfl)) ?_; (with_reducible refine (flongref17_Erase.calls k2 _ _ ((rd_T30 l0 x5_2).f1) t332 _ ?side1 ?side2 A26.out).mono ?_); (case side1 => repeat (first | exact (Kd.C_below HR331_1.out HB.out) | (with_reducible refine Kd.C_alloc ?_ _) | (with_reducible refine Kd.C_drewN ?_ _) | (with_reducible refine Kd.C_drew ?_))); (case side2 => exact HC331_1.out); rintro e w31 ⟨v333, rfl, ho0, hb⟩; refine ⟨_, rfl, ?_⟩; have n0_ := Aside0.mk (Kd.R_lower ho0 (below_size (by repeat (first | (with_reducible first | exact HB.out | apply below_alloc | apply pw_below_drewN | apply below_drew1) | exact HB.out)))); have n1_ := Aside0.mk (below_step (by repeat (first | (with_reducible first | exact HB.out | apply below_alloc | apply pw_below_drewN | apply below_drew1) | exact HB.out)) hb); clear HB; have HO334 := n0_; have HB := n1_; clear n0_ n1_; (try clear hb); (try clear hb2); (try clear hk); (try clear hi); (try clear ho0); obtain ⟨Ao32, co32, eo32⟩ := Kd.R_slice HO334.out; subst eo32))
          have n0_ := Aside0.mk (Kd.R_drew HO334.out)
          have n1_ := Aside0.mk (below_drew1 HB.out)
          clear HO334
          clear HB
          have HO334 := n0_
          have HB := n1_
          clear n0_ n1_
          refine start_ (n := 7) (S := fun w' => True) (ds := []) #[false, false, false, false, false, false, false] (by kernel_rfl) rfl rfl trivial (fun hHeld => ?_)
          generalize w31.drew = w33 at HO334 HB hHeld ⊢
          refine pure_ (i := 0) (N := some 56) (v := ?_) (a' := ?_) #[true, false, false, false, false, false, false] rfl rfl (by kernel_rfl) (fun _ _ _ h => h) (Or.inl ⟨by rfl, ?_⟩) ?_ ?_
          rotate_left
          ·intro w'
           go_simp
           with_reducible rfl
          rotate_left
          ·simp only [Act.put, List.setIfInBounds_toArray, List.set_cons_zero, List.set_cons_succ, i64_w, i32_w]
           rfl
          refine pure_ (i := 3) (N := some 59) (v := ?_) (a' := ?_) #[true, false, false, true, false, false, false] rfl rfl (by kernel_rfl) (fun _ _ _ h => h) (Or.inl ⟨by rfl, ?_⟩) ?_ ?_
          rotate_left
          ·intro w'
           go_simp
           with_reducible rfl
          rotate_left
          ·simp only [Act.put, List.setIfInBounds_toArray, List.set_cons_zero, List.set_cons_succ, i64_w, i32_w]
           rfl
          refine one_ (i := 1) (N := some 57) #[true, true, false, true, false, false, false] rfl rfl (by kernel_rfl) (by decide) (fun K hK => ?_)
          refine goes_ Tryd.func12 (by kernel_rfl) rfl #[.slice Ao32 t332.length co32] (by rfl) rfl rfl (by (try simp only [List.map_toArray, List.map_cons, List.map_nil]); first | done | rfl | (simp only [List.length_drop, List.length_take]; rfl)) ?_
          with_reducible refine (over_Row.calls k2 _ _ t332 t335 _ ?side1 ?side2 ?side3 A27.out).mono ?_
          (case side1 => repeat (first | exact (Kd.R_reads' HO334.out).2.2 | (with_reducible refine Kd.C_alloc ?_ _) | (with_reducible refine Kd.C_drewN ?_ _) | (with_reducible refine Kd.C_drew ?_)))
          (case side2 => exact (Kd.R_reads' HO334.out).2.1)
          (case side3 => exact GOK.of_below (GOK.sub HG.out rfl) (by repeat (first | (with_reducible first | exact HB.out | apply below_alloc | apply pw_below_drewN | apply below_drew1) | exact HB.out)))
          rintro e w34 ⟨v336, rfl, ho0, hb⟩
          refine ⟨_, rfl, ?_⟩
          have n0_ := Aside0.mk (Kd.R_below (by (with_reducible repeat (first | apply Kd.R_alloc | apply Kd.R_drewN | apply Kd.R_drew)); exact HO334.out) hb)
          have n1_ := Aside0.mk (Kd.R_lower ho0 (below_size (by repeat (first | (with_reducible first | exact HB.out | apply below_alloc | apply pw_below_drewN | apply below_drew1) | exact HB.out))))
          have n2_ := Aside0.mk (below_step (by repeat (first | (with_reducible first | exact HB.out | apply below_alloc | apply pw_below_drewN | apply below_drew1) | exact HB.out)) hb)
          clear HO334
          clear HB
          have HO334 := n0_
          have HO337 := n1_
          have HB := n2_
          clear n0_ n1_ n2_
          try have HR331_1 := Aside0.mk (Kd.C_below HR331_1.out hb)
          (try clear hb)
          (try clear hb2)
          (try clear hk)
          (try clear hi)
          (try clear ho0)
          refine hK.out _ _ trivial (fun hHeld => ?_)
          clear hK K
          refine norm_ (a' := ?_) ?_ ?_
          rotate_left
          ·show Act.put _ (some 57) _ = _
           simp only [Act.put, List.setIfInBounds_toArray, List.set_cons_zero, List.set_cons_succ, i64_w, i32_w]
           rfl
          refine join_ (σ := Value) 1 #[true, true, true, true, true, true, false] (fun s_ => [(58, .string (strOfNums t335)), (60, s_), (61, .string t341)]) (fun s_ w' => (Kd.R k35 35 w' w.heap.size (fun k_ => some k_ ≠ (s_ : Value).ownBlock) (.slice Ao32 t332.length co32) t332) ∧ (Kd.R (Kd.int .u8) 5 w' w.heap.size (fun _ => True) v336 t335) ∧ (Kd.R k35 35 w' w.heap.size (fun k_ => some k_ ≠ (.slice Ao32 t332.length co32 : Value).ownBlock) s_ t338) ∧ (Below w.heap.size w w')) ?_ ?_
          rotate_left
          ·intro hCont
           refine two_ (i := 2) (j := 4) (Ni := some 58) (Nj := some 60) #[true, true, true, true, false, false, false] #[true, true, false, true, true, false, false] rfl rfl rfl rfl (by kernel_rfl) (by decide) (by decide) (fun K hK => ?_) (fun K hK => ?_)
           ·skip
            have hcv35 := own_string (P := Tryd.prog) Tryd.underlying25 Tryd.underlying5 Tryd.underlying9 (Kd.own_of_R HO337.out)
            refine value_ (w1 := ?_) (v := ?_) (by rfl) rfl ?_ ?_
            rotate_left 2
            ·go_simp
             constructor
             ·rfl
             ·rfl
            clear hcv35
            refine hK.out _ _ trivial (fun hHeld => ?_)
            clear hK K
            refine norm_ (a' := ?_) ?_ ?_
            rotate_left
            ·show Act.put _ (some 58) _ = _
             simp only [Act.put, List.setIfInBounds_toArray, List.set_cons_zero, List.set_cons_succ, i64_w, i32_w]
             rfl
            refine one_ (i := 4) (N := some 60) #[true, true, true, true, true, false, false] rfl rfl (by kernel_rfl) (by decide) (fun K hK => ?_)
            refine goes_ Tryd.func14 (by kernel_rfl) rfl #[.slice Ao32 t332.length co32] (by rfl) rfl rfl (by (try simp only [List.map_toArray, List.map_cons, List.map_nil]); first | done | rfl | (simp only [List.length_drop, List.length_take]; rfl)) ?_
            with_reducible refine (flongref17_Normal.calls k2 _ _ t332 t338 _ ?side1 ?side2 A28.out).mono ?_
            (case side1 => repeat (first | exact (Kd.R_reads' HO334.out).2.2 | (with_reducible refine Kd.C_alloc ?_ _) | (with_reducible refine Kd.C_drewN ?_ _) | (with_reducible refine Kd.C_drew ?_)))
            (case side2 => exact (Kd.R_reads' HO334.out).2.1)
            rintro e w36 ⟨v339, rfl, ho0, hb⟩
            refine ⟨_, rfl, ?_⟩
            have n0_ := Aside0.mk (Kd.R_elder' (by (with_reducible repeat (first | apply Kd.R_alloc | apply Kd.R_drewN | apply Kd.R_drew)); exact HO334.out) (Kd.R_base ho0) hb)
            have n1_ := Aside0.mk (Kd.R_below (by (with_reducible repeat (first | apply Kd.R_alloc | apply Kd.R_drewN | apply Kd.R_drew)); exact HO337.out) hb)
            have n2_ := Aside0.mk (Kd.R_lower (Kd.R_new' ho0 (Kd.R_lt (by (with_reducible repeat (first | apply Kd.R_alloc | apply Kd.R_drewN | apply Kd.R_drew)); exact HO334.out))) (below_size (by repeat (first | (with_reducible first | exact HB.out | apply below_alloc | apply pw_below_drewN | apply below_drew1) | exact HB.out))))
            have n3_ := Aside0.mk (below_step (by repeat (first | (with_reducible first | exact HB.out | apply below_alloc | apply pw_below_drewN | apply below_drew1) | exact HB.out)) hb)
            clear HO334
            clear HO337
            clear HB
            have HO334 := n0_
            have HO337 := n1_
            have HO340 := n2_
            have HB := n3_
            clear n0_ n1_ n2_ n3_
            try have HR331_1 := Aside0.mk (Kd.C_below HR331_1.out hb)
            (try clear hb)
            (try clear hb2)
            (try clear hk)
            (try clear hi)
            (try clear ho0)
            obtain ⟨Ao37, co37, eo37⟩ := Kd.R_slice HO340.out
            (first | subst eo37 | (injection eo37 with f1_ f2_ f3_; have f4_ := f1_.symm; have f5_ := f3_.symm; clear f1_ f2_ f3_; subst f4_; subst f5_))
            refine hK.out _ _ trivial (fun hHeld => ?_)
            clear hK K
            refine norm_ (a' := ?_) ?_ ?_
            rotate_left
            ·show Act.put _ (some 60) _ = _
             simp only [Act.put, List.setIfInBounds_toArray, List.set_cons_zero, List.set_cons_succ, i64_w, i32_w]
             rfl
            refine one_ (i := 5) (N := some 61) #[true, true, true, true, true, true, false] rfl rfl (by kernel_rfl) (by decide) (fun K hK => ?_)
            refine goes_ Tryd.func13 (by kernel_rfl) rfl #[.slice Ao37 t338.length co37] (by rfl) rfl rfl (by (try simp only [List.map_toArray, List.map_cons, List.map_nil]); first | done | rfl | (simp only [List.length_drop, List.length_take]; rfl)) ?_
            with_reducible refine (flongref03_Text.calls k2 _ _ t338 t341 _ ?side1 ?side2 A29.out).mono ?_
            (case side1 => repeat (first | exact (Kd.R_reads' HO340.out).2.2 | (with_reducible refine Kd.C_alloc ?_ _) | (with_reducible refine Kd.C_drewN ?_ _) | (with_reducible refine Kd.C_drew ?_)))
            (case side2 => exact (Kd.R_reads' HO340.out).2.1)
            rintro e w38 ⟨rfl, hb⟩
            refine ⟨_, rfl, ?_⟩
            have n0_ := Aside0.mk (Kd.R_below (by (with_reducible repeat (first | apply Kd.R_alloc | apply Kd.R_drewN | apply Kd.R_drew)); exact HO334.out) hb)
            have n1_ := Aside0.mk (Kd.R_below (by (with_reducible repeat (first | apply Kd.R_alloc | apply Kd.R_drewN | apply Kd.R_drew)); exact HO337.out) hb)
            have n2_ := Aside0.mk (Kd.R_below (by (with_reducible repeat (first | apply Kd.R_alloc | apply Kd.R_drewN | apply Kd.R_drew)); exact HO340.out) hb)
            have n3_ := Aside0.mk (below_step (by repeat (first | (with_reducible first | exact HB.out | apply below_alloc | apply pw_below_drewN | apply below_drew1) | exact HB.out)) hb)
            clear HO334
            clear HO337
            clear HO340
            clear HB
            have HO334 := n0_
            have HO337 := n1_
            have HO340 := n2_
            have HB := n3_
            clear n0_ n1_ n2_ n3_
            try have HR331_1 := Aside0.mk (Kd.C_below HR331_1.out hb)
            (try clear hb)
            (try clear hb2)
            (try clear hk)
            (try clear hi)
            refine hK.out _ _ trivial (fun hHeld => ?_)
            clear hK K
            refine norm_ (a' := ?_) ?_ ?_
            rotate_left
            ·show Act.put _ (some 61) _ = _
             simp only [Act.put, List.setIfInBounds_toArray, List.set_cons_zero, List.set_cons_succ, i64_w, i32_w]
             rfl
            exact norm_ (by simp only [putAll, Act.put, List.setIfInBounds_toArray, List.set_cons_zero, List.set_cons_succ]) (hCont (.slice Ao37 t338.length co37) _ ⟨(by (with_reducible repeat (first | apply Kd.R_alloc | apply Kd.R_drewN | apply Kd.R_drew)); exact Kd.R_mono HO334.out (fun _ hk => hk.2)), (by (with_reducible repeat (first | apply Kd.R_alloc | apply Kd.R_drewN | apply Kd.R_drew)); exact HO337.out), (by (with_reducible repeat (first | apply Kd.R_alloc | apply Kd.R_drewN | apply Kd.R_drew)); exact Kd.R_mono HO340.out (fun _ hk => hk.2)), (by repeat (first | (with_reducible first | exact HB.out | apply below_alloc | apply pw_below_drewN | apply below_drew1) | exact HB.out))⟩)
           ·skip
            refine goes_ Tryd.func14 (by kernel_rfl) rfl #[.slice Ao32 t332.length co32] (by rfl) rfl rfl (by (try simp only [List.map_toArray, List.map_cons, List.map_nil]); first | done | rfl | (simp only [List.length_drop, List.length_take]; rfl)) ?_
            with_reducible refine (flongref17_Normal.calls k2 _ _ t332 t338 _ ?side1 ?side2 A28.out).mono ?_
            (case side1 => repeat (first | exact (Kd.R_reads' HO334.out).2.2 | (with_reducible refine Kd.C_alloc ?_ _) | (with_reducible refine Kd.C_drewN ?_ _) | (with_reducible refine Kd.C_drew ?_)))
            (case side2 => exact (Kd.R_reads' HO334.out).2.1)
            rintro e w35 ⟨v339, rfl, ho0, hb⟩
            refine ⟨_, rfl, ?_⟩
            have n0_ := Aside0.mk (Kd.R_elder' (by (with_reducible repeat (first | apply Kd.R_alloc | apply Kd.R_drewN | apply Kd.R_drew)); exact HO334.out) (Kd.R_base ho0) hb)
            have n1_ := Aside0.mk (Kd.R_below (by (with_reducible repeat (first | apply Kd.R_alloc | apply Kd.R_drewN | apply Kd.R_drew)); exact HO337.out) hb)
            have n2_ := Aside0.mk (Kd.R_lower (Kd.R_new' ho0 (Kd.R_lt (by (with_reducible repeat (first | apply Kd.R_alloc | apply Kd.R_drewN | apply Kd.R_drew)); exact HO334.out))) (below_size (by repeat (first | (with_reducible first | exact HB.out | apply below_alloc | apply pw_below_drewN | apply below_drew1) | exact HB.out))))
            have n3_ := Aside0.mk (below_step (by repeat (first | (with_reducible first | exact HB.out | apply below_alloc | apply pw_below_drewN | apply below_drew1) | exact HB.out)) hb)
            clear HO334
            clear HO337
            clear HB
            have HO334 := n0_
            have HO337 := n1_
            have HO340 := n2_
            have HB := n3_
            clear n0_ n1_ n2_ n3_
            try have HR331_1 := Aside0.mk (Kd.C_below HR331_1.out hb)
            (try clear hb)
            (try clear hb2)
            (try clear hk)
            (try clear hi)
            (try clear ho0)
            obtain ⟨Ao37, co37, eo37⟩ := Kd.R_slice HO340.out
            (first | subst eo37 | (injection eo37 with f1_ f2_ f3_; have f4_ := f1_.symm; have f5_ := f3_.symm; clear f1_ f2_ f3_; subst f4_; subst f5_))
            refine hK.out _ _ trivial (fun hHeld => ?_)
            clear hK K
            refine norm_ (a' := ?_) ?_ ?_
            rotate_left
            ·show Act.put _ (some 60) _ = _
             simp only [Act.put, List.setIfInBounds_toArray, List.set_cons_zero, List.set_cons_succ, i64_w, i32_w]
             rfl
            refine two_ (i := 2) (j := 5) (Ni := some 58) (Nj := some 61) #[true, true, true, true, true, false, false] #[true, true, false, true, true, true, false] rfl rfl rfl rfl (by kernel_rfl) (by decide) (by decide) (fun K hK => ?_) (fun K hK => ?_)
            ·skip
             have hcv36 := own_string (P := Tryd.prog) Tryd.underlying25 Tryd.underlying5 Tryd.underlying9 (Kd.own_of_R HO337.out)
             refine value_ (w1 := ?_) (v := ?_) (by rfl) rfl ?_ ?_
             rotate_left 2
             ·go_simp
              constructor
              ·rfl
              ·rfl
             clear hcv36
             refine hK.out _ _ trivial (fun hHeld => ?_)
             clear hK K
             refine norm_ (a' := ?_) ?_ ?_
             rotate_left
             ·show Act.put _ (some 58) _ = _
              simp only [Act.put, List.setIfInBounds_toArray, List.set_cons_zero, List.set_cons_succ, i64_w, i32_w]
              rfl
             refine one_ (i := 5) (N := some 61) #[true, true, true, true, true, true, false] rfl rfl (by kernel_rfl) (by decide) (fun K hK => ?_)
             refine goes_ Tryd.func13 (by kernel_rfl) rfl #[.slice Ao37 t338.length co37] (by rfl) rfl rfl (by (try simp only [List.map_toArray, List.map_cons, List.map_nil]); first | done | rfl | (simp only [List.length_drop, List.length_take]; rfl)) ?_
             with_reducible refine (flongref03_Text.calls k2 _ _ t338 t341 _ ?side1 ?side2 A29.out).mono ?_
             (case side1 => repeat (first | exact (Kd.R_reads' HO340.out).2.2 | (with_reducible refine Kd.C_alloc ?_ _) | (with_reducible refine Kd.C_drewN ?_ _) | (with_reducible refine Kd.C_drew ?_)))
             (case side2 => exact (Kd.R_reads' HO340.out).2.1)
             rintro e w38 ⟨rfl, hb⟩
             refine ⟨_, rfl, ?_⟩
             have n0_ := Aside0.mk (Kd.R_below (by (with_reducible repeat (first | apply Kd.R_alloc | apply Kd.R_drewN | apply Kd.R_drew)); exact HO334.out) hb)
             have n1_ := Aside0.mk (Kd.R_below (by (with_reducible repeat (first | apply Kd.R_alloc | apply Kd.R_drewN | apply Kd.R_drew)); exact HO337.out) hb)
             have n2_ := Aside0.mk (Kd.R_below (by (with_reducible repeat (first | apply Kd.R_alloc | apply Kd.R_drewN | apply Kd.R_drew)); exact HO340.out) hb)
             have n3_ := Aside0.mk (below_step (by repeat (first | (with_reducible first | exact HB.out | apply below_alloc | apply pw_below_drewN | apply below_drew1) | exact HB.out)) hb)
             clear HO334
             clear HO337
             clear HO340
             clear HB
             have HO334 := n0_
             have HO337 := n1_
             have HO340 := n2_
             have HB := n3_
             clear n0_ n1_ n2_ n3_
             try have HR331_1 := Aside0.mk (Kd.C_below HR331_1.out hb)
             (try clear hb)
             (try clear hb2)
             (try clear hk)
             (try clear hi)
             refine hK.out _ _ trivial (fun hHeld => ?_)
             clear hK K
             refine norm_ (a' := ?_) ?_ ?_
             rotate_left
             ·show Act.put _ (some 61) _ = _
              simp only [Act.put, List.setIfInBounds_toArray, List.set_cons_zero, List.set_cons_succ, i64_w, i32_w]
              rfl
             exact norm_ (by simp only [putAll, Act.put, List.setIfInBounds_toArray, List.set_cons_zero, List.set_cons_succ]) (hCont (.slice Ao37 t338.length co37) _ ⟨(by (with_reducible repeat (first | apply Kd.R_alloc | apply Kd.R_drewN | apply Kd.R_drew)); exact Kd.R_mono HO334.out (fun _ hk => hk.2)), (by (with_reducible repeat (first | apply Kd.R_alloc | apply Kd.R_drewN | apply Kd.R_drew)); exact HO337.out), (by (with_reducible repeat (first | apply Kd.R_alloc | apply Kd.R_drewN | apply Kd.R_drew)); exact Kd.R_mono HO340.out (fun _ hk => hk.2)), (by repeat (first | (with_reducible first | exact HB.out | apply below_alloc | apply pw_below_drewN | apply below_drew1) | exact HB.out))⟩)
            ·skip
             refine goes_ Tryd.func13 (by kernel_rfl) rfl #[.slice Ao37 t338.length co37] (by rfl) rfl rfl (by (try simp only [List.map_toArray, List.map_cons, List.map_nil]); first | done | rfl | (simp only [List.length_drop, List.length_take]; rfl)) ?_
             with_reducible refine (flongref03_Text.calls k2 _ _ t338 t341 _ ?side1 ?side2 A29.out).mono ?_
             (case side1 => repeat (first | exact (Kd.R_reads' HO340.out).2.2 | (with_reducible refine Kd.C_alloc ?_ _) | (with_reducible refine Kd.C_drewN ?_ _) | (with_reducible refine Kd.C_drew ?_)))
             (case side2 => exact (Kd.R_reads' HO340.out).2.1)
             rintro e w37 ⟨rfl, hb⟩
             refine ⟨_, rfl, ?_⟩
             have n0_ := Aside0.mk (Kd.R_below (by (with_reducible repeat (first | apply Kd.R_alloc | apply Kd.R_drewN | apply Kd.R_drew)); exact HO334.out) hb)
             have n1_ := Aside0.mk (Kd.R_below (by (with_reducible repeat (first | apply Kd.R_alloc | apply Kd.R_drewN | apply Kd.R_drew)); exact HO337.out) hb)
             have n2_ := Aside0.mk (Kd.R_below (by (with_reducible repeat (first | apply Kd.R_alloc | apply Kd.R_drewN | apply Kd.R_drew)); exact HO340.out) hb)
             have n3_ := Aside0.mk (below_step (by repeat (first | (with_reducible first | exact HB.out | apply below_alloc | apply pw_below_drewN | apply below_drew1) | exact HB.out)) hb)
             clear HO334
             clear HO337
             clear HO340
             clear HB
             have HO334 := n0_
             have HO337 := n1_
             have HO340 := n2_
             have HB := n3_
             clear n0_ n1_ n2_ n3_
             try have HR331_1 := Aside0.mk (Kd.C_below HR331_1.out hb)
             (try clear hb)
             (try clear hb2)
             (try clear hk)
             (try clear hi)
             refine hK.out _ _ trivial (fun hHeld => ?_)
             clear hK K
             refine norm_ (a' := ?_) ?_ ?_
             rotate_left
             ·show Act.put _ (some 61) _ = _
              simp only [Act.put, List.setIfInBounds_toArray, List.set_cons_zero, List.set_cons_succ, i64_w, i32_w]
              rfl
             refine one_ (i := 2) (N := some 58) #[true, true, true, true, true, true, false] rfl rfl (by kernel_rfl) (by decide) (fun K hK => ?_)
             have hcv38 := own_string (P := Tryd.prog) Tryd.underlying25 Tryd.underlying5 Tryd.underlying9 (Kd.own_of_R HO337.out)
             refine value_ (w1 := ?_) (v := ?_) (by rfl) rfl ?_ ?_
             rotate_left 2
             ·go_simp
              constructor
              ·rfl
              ·rfl
             clear hcv38
             refine hK.out _ _ trivial (fun hHeld => ?_)
             clear hK K
             refine norm_ (a' := ?_) ?_ ?_
             rotate_left
             ·show Act.put _ (some 58) _ = _
              simp only [Act.put, List.setIfInBounds_toArray, List.set_cons_zero, List.set_cons_succ, i64_w, i32_w]
              rfl
             exact norm_ (by simp only [putAll, Act.put, List.setIfInBounds_toArray, List.set_cons_zero, List.set_cons_succ]) (hCont (.slice Ao37 t338.length co37) _ ⟨(by (with_reducible repeat (first | apply Kd.R_alloc | apply Kd.R_drewN | apply Kd.R_drew)); exact Kd.R_mono HO334.out (fun _ hk => hk.2)), (by (with_reducible repeat (first | apply Kd.R_alloc | apply Kd.R_drewN | apply Kd.R_drew)); exact HO337.out), (by (with_reducible repeat (first | apply Kd.R_alloc | apply Kd.R_drewN | apply Kd.R_drew)); exact Kd.R_mono HO340.out (fun _ hk => hk.2)), (by repeat (first | (with_reducible first | exact HB.out | apply below_alloc | apply pw_below_drewN | apply below_drew1) | exact HB.out))⟩)
          rintro v339 w39 ⟨h0_, h1_, h2_, h3_⟩
          have n0_ : Aside0 (Kd.R k35 35 w39 w.heap.size (fun k_ => some k_ ≠ (v339 : Value).ownBlock) (.slice Ao32 t332.length co32) t332) := ⟨h0_⟩
          have n1_ : Aside0 (Kd.R (Kd.int .u8) 5 w39 w.heap.size (fun _ => True) v336 t335) := ⟨h1_⟩
          have n2_ : Aside0 (Kd.R k35 35 w39 w.heap.size (fun k_ => some k_ ≠ (.slice Ao32 t332.length co32 : Value).ownBlock) v339 t338) := ⟨h2_⟩
          have n3_ : Aside0 (Below w.heap.size w w39) := ⟨h3_⟩
          clear HO334
          clear HB
          clear h0_ h1_ h2_ h3_
          have HO334 := n0_
          have HO337 := n1_
          have HO340 := n2_
          have HB := n3_
          clear n0_ n1_ n2_ n3_
          have hHeld := trivial
          refine norm_ (a' := ?_) ?_ ?_
          rotate_left
          ·simp only [putAll, Act.put, List.setIfInBounds_toArray, List.set_cons_zero, List.set_cons_succ]
           rfl
          refine pure_ (i := 6) (N := some 62) (v := ?_) (a' := ?_) #[true, true, true, true, true, true, true] rfl rfl (by kernel_rfl) (fun _ _ _ h => h) (Or.inl ⟨by rfl, ?_⟩) ?_ ?_
          rotate_left
          ·intro w'
           go_simp
           with_reducible rfl
          rotate_left
          ·simp only [Act.put, List.setIfInBounds_toArray, List.set_cons_zero, List.set_cons_succ, i64_w, i32_w]
           rfl
          refine done_ (by kernel_rfl) ?_
          try go_wp2
          go_roundg k2
          case measure => have := HK1.out; have := HK2.out; omega
          case rel => exact ⟨(wrap64 (x5_2 + 1)), (by first | rfl | (simp; done) | (simp [*]; done)), H', ⟨by have := HK1.out; have := HK2.out; omega⟩, ⟨by repeat (first | (with_reducible first | exact HB.out | apply below_alloc | apply pw_below_drewN | apply below_drew1) | exact HB.out)⟩⟩
         ·rw [if_neg c30] at H
          have c30b0 : ((strOfNums t335).toList == t341.toList) = false := beq_eq_false_iff_ne.mpr c30
          have c30b1 : ((strOfNums t335).toList != t341.toList) = true := bne_iff_ne.mpr c30
          obtain rfl := Option.some.inj H
          have p331 : 0 ≤ (x5_2 : Int) := of_decide_eq_true (by first | (with_reducible assumption) | assumption)
          have q331 : x5_2 < (l0.length : Int) := of_decide_eq_true (by first | (with_reducible assumption) | assumption)
          obtain ⟨ad331, A331_1, c331_1, e331, hx331_0, hx331_1, hx331_2, hl331_1, hi331_1⟩ := at_T30 HR0.out x5_2 p331 q331
          cases e331
          replace hx331_0 := (HB.out.cell (World.block_lt_of_cell? w _ hx331_0)).trans hx331_0
          replace hx331_1 := (HB.out.cell (World.block_lt_of_cell? w _ hx331_1)).trans hx331_1
          replace hx331_2 := (HB.out.cell (World.block_lt_of_cell? w _ hx331_2)).trans hx331_2
          have HR331_1 := Aside0.mk hi331_1
          have HC331_1 := Aside0.mk hl331_1
          clear hi331_1 hl331_1
          replace p331 := eq_true p331
          replace q331 := eq_true q331
          try go_wp2_with (first | ((with_reducible refine gate_callee (f := 11) rfl ?_); refine goesL_ (some 55) rfl rfl Tryd.func11 (by kernel_rfl) rfl #[.slice A331_1 ((rd_T30 l0 x5_2).f1).length c331_1] rfl (by (try simp only [List.map_toArray, List.map_cons, List.map_nil]); first | done | rfl | (simp only [List.length_drop, List.length_take]; rfl)) ?_; (with_reducible refine (flongref17_Erase.calls k2 _ _ ((rd_T30 l0 x5_2).f1) t332 _ ?side1 ?side2 A26.out).mono ?_); (case side1 => repeat (first | exact (Kd.C_below HR331_1.out HB.out) | (with_reducible refine Kd.C_alloc ?_ _) | (with_reducible refine Kd.C_drewN ?_ _) | (with_reducible refine Kd.C_drew ?_))); (case side2 => exact HC331_1.out); rintro e w40 ⟨v333, rfl, ho0, hb⟩; refine ⟨_, rfl, ?_⟩; have n0_ := Aside0.mk (Kd.R_lower ho0 (below_size (by repeat (first | (with_reducible first | exact HB.out | apply below_alloc | apply pw_below_drewN | apply below_drew1) | exact HB.out)))); have n1_ := Aside0.mk (below_step (by repeat (first | (with_reducible first | exact HB.out | apply below_alloc | apply pw_below_drewN | apply below_drew1) | exact HB.out)) hb); clear HB; have HO334 := n0_; have HB := n1_; clear n0_ n1_; (try clear hb); (try clear hb2); (try clear hk); (try clear hi); (try clear ho0); obtain ⟨Ao41, co41, eo41⟩ := Kd.R_slice HO334.out; subst eo41))
          have n0_ := Aside0.mk (Kd.R_drew HO334.out)
          have n1_ := Aside0.mk (below_drew1 HB.out)
          clear HO334
          clear HB
          have HO334 := n0_
          have HB := n1_
          clear n0_ n1_
          refine start_ (n := 7) (S := fun w' => True) (ds := []) #[false, false, false, false, false, false, false] (by kernel_rfl) rfl rfl trivial (fun hHeld => ?_)
          generalize w40.drew = w42 at HO334 HB hHeld ⊢
          refine pure_ (i := 0) (N := some 56) (v := ?_) (a' := ?_) #[true, false, false, false, false, false, false] rfl rfl (by kernel_rfl) (fun _ _ _ h => h) (Or.inl ⟨by rfl, ?_⟩) ?_ ?_
          rotate_left
          ·intro w'
           go_simp
           with_reducible rfl
          rotate_left
          ·simp only [Act.put, List.setIfInBounds_toArray, List.set_cons_zero, List.set_cons_succ, i64_w, i32_w]
           rfl
          refine pure_ (i := 3) (N := some 59) (v := ?_) (a' := ?_) #[true, false, false, true, false, false, false] rfl rfl (by kernel_rfl) (fun _ _ _ h => h) (Or.inl ⟨by rfl, ?_⟩) ?_ ?_
          rotate_left
          ·intro w'
           go_simp
           with_reducible rfl
          rotate_left
          ·simp only [Act.put, List.setIfInBounds_toArray, List.set_cons_zero, List.set_cons_succ, i64_w, i32_w]
           rfl
          refine one_ (i := 1) (N := some 57) #[true, true, false, true, false, false, false] rfl rfl (by kernel_rfl) (by decide) (fun K hK => ?_)
          refine goes_ Tryd.func12 (by kernel_rfl) rfl #[.slice Ao41 t332.length co41] (by rfl) rfl rfl (by (try simp only [List.map_toArray, List.map_cons, List.map_nil]); first | done | rfl | (simp only [List.length_drop, List.length_take]; rfl)) ?_
          with_reducible refine (over_Row.calls k2 _ _ t332 t335 _ ?side1 ?side2 ?side3 A27.out).mono ?_
          (case side1 => repeat (first | exact (Kd.R_reads' HO334.out).2.2 | (with_reducible refine Kd.C_alloc ?_ _) | (with_reducible refine Kd.C_drewN ?_ _) | (with_reducible refine Kd.C_drew ?_)))
          (case side2 => exact (Kd.R_reads' HO334.out).2.1)
          (case side3 => exact GOK.of_below (GOK.sub HG.out rfl) (by repeat (first | (with_reducible first | exact HB.out | apply below_alloc | apply pw_below_drewN | apply below_drew1) | exact HB.out)))
          rintro e w43 ⟨v336, rfl, ho0, hb⟩
          refine ⟨_, rfl, ?_⟩
          have n0_ := Aside0.mk (Kd.R_below (by (with_reducible repeat (first | apply Kd.R_alloc | apply Kd.R_drewN | apply Kd.R_drew)); exact HO334.out) hb)
          have n1_ := Aside0.mk (Kd.R_lower ho0 (below_size (by repeat (first | (with_reducible first | exact HB.out | apply below_alloc | apply pw_below_drewN | apply below_drew1) | exact HB.out))))
          have n2_ := Aside0.mk (below_step (by repeat (first | (with_reducible first | exact HB.out | apply below_alloc | apply pw_below_drewN | apply below_drew1) | exact HB.out)) hb)
          clear HO334
          clear HB
          have HO334 := n0_
          have HO337 := n1_
          have HB := n2_
          clear n0_ n1_ n2_
          (try clear hb)
          (try clear hb2)
          (try clear hk)
          (try clear hi)
          (try clear ho0)
          refine hK.out _ _ trivial (fun hHeld => ?_)
          clear hK K
          refine norm_ (a' := ?_) ?_ ?_
          rotate_left
          ·show Act.put _ (some 57) _ = _
           simp only [Act.put, List.setIfInBounds_toArray, List.set_cons_zero, List.set_cons_succ, i64_w, i32_w]
           rfl
          refine join_ (σ := Value) 1 #[true, true, true, true, true, true, false] (fun s_ => [(58, .string (strOfNums t335)), (60, s_), (61, .string t341)]) (fun s_ w' => (Kd.R k35 35 w' w.heap.size (fun k_ => some k_ ≠ (s_ : Value).ownBlock) (.slice Ao41 t332.length co41) t332) ∧ (Kd.R (Kd.int .u8) 5 w' w.heap.size (fun _ => True) v336 t335) ∧ (Kd.R k35 35 w' w.heap.size (fun k_ => some k_ ≠ (.slice Ao41 t332.length co41 : Value).ownBlock) s_ t338) ∧ (Below w.heap.size w w')) ?_ ?_
          rotate_left
          ·intro hCont
           refine two_ (i := 2) (j := 4) (Ni := some 58) (Nj := some 60) #[true, true, true, true, false, false, false] #[true, true, false, true, true, false, false] rfl rfl rfl rfl (by kernel_rfl) (by decide) (by decide) (fun K hK => ?_) (fun K hK => ?_)
           ·skip
            have hcv44 := own_string (P := Tryd.prog) Tryd.underlying25 Tryd.underlying5 Tryd.underlying9 (Kd.own_of_R HO337.out)
            refine value_ (w1 := ?_) (v := ?_) (by rfl) rfl ?_ ?_
            rotate_left 2
            ·go_simp
             constructor
             ·rfl
             ·rfl
            clear hcv44
            refine hK.out _ _ trivial (fun hHeld => ?_)
            clear hK K
            refine norm_ (a' := ?_) ?_ ?_
            rotate_left
            ·show Act.put _ (some 58) _ = _
             simp only [Act.put, List.setIfInBounds_toArray, List.set_cons_zero, List.set_cons_succ, i64_w, i32_w]
             rfl
            refine one_ (i := 4) (N := some 60) #[true, true, true, true, true, false, false] rfl rfl (by kernel_rfl) (by decide) (fun K hK => ?_)
            refine goes_ Tryd.func14 (by kernel_rfl) rfl #[.slice Ao41 t332.length co41] (by rfl) rfl rfl (by (try simp only [List.map_toArray, List.map_cons, List.map_nil]); first | done | rfl | (simp only [List.length_drop, List.length_take]; rfl)) ?_
            with_reducible refine (flongref17_Normal.calls k2 _ _ t332 t338 _ ?side1 ?side2 A28.out).mono ?_
            (case side1 => repeat (first | exact (Kd.R_reads' HO334.out).2.2 | (with_reducible refine Kd.C_alloc ?_ _) | (with_reducible refine Kd.C_drewN ?_ _) | (with_reducible refine Kd.C_drew ?_)))
            (case side2 => exact (Kd.R_reads' HO334.out).2.1)
            rintro e w45 ⟨v339, rfl, ho0, hb⟩
            refine ⟨_, rfl, ?_⟩
            have n0_ := Aside0.mk (Kd.R_elder' (by (with_reducible repeat (first | apply Kd.R_alloc | apply Kd.R_drewN | apply Kd.R_drew)); exact HO334.out) (Kd.R_base ho0) hb)
            have n1_ := Aside0.mk (Kd.R_below (by (with_reducible repeat (first | apply Kd.R_alloc | apply Kd.R_drewN | apply Kd.R_drew)); exact HO337.out) hb)
            have n2_ := Aside0.mk (Kd.R_lower (Kd.R_new' ho0 (Kd.R_lt (by (with_reducible repeat (first | apply Kd.R_alloc | apply Kd.R_drewN | apply Kd.R_drew)); exact HO334.out))) (below_size (by repeat (first | (with_reducible first | exact HB.out | apply below_alloc | apply pw_below_drewN | apply below_drew1) | exact HB.out))))
            have n3_ := Aside0.mk (below_step (by repeat (first | (with_reducible first | exact HB.out | apply below_alloc | apply pw_below_drewN | apply below_drew1) | exact HB.out)) hb)
            clear HO334
            clear HO337
            clear HB
            have HO334 := n0_
            have HO337 := n1_
            have HO340 := n2_
            have HB := n3_
            clear n0_ n1_ n2_ n3_
            (try clear hb)
            (try clear hb2)
            (try clear hk)
            (try clear hi)
            (try clear ho0)
            obtain ⟨Ao46, co46, eo46⟩ := Kd.R_slice HO340.out
            (first | subst eo46 | (injection eo46 with f1_ f2_ f3_; have f4_ := f1_.symm; have f5_ := f3_.symm; clear f1_ f2_ f3_; subst f4_; subst f5_))
            refine hK.out _ _ trivial (fun hHeld => ?_)
            clear hK K
            refine norm_ (a' := ?_) ?_ ?_
            rotate_left
            ·show Act.put _ (some 60) _ = _
             simp only [Act.put, List.setIfInBounds_toArray, List.set_cons_zero, List.set_cons_succ, i64_w, i32_w]
             rfl
            refine one_ (i := 5) (N := some 61) #[true, true, true, true, true, true, false] rfl rfl (by kernel_rfl) (by decide) (fun K hK => ?_)
            refine goes_ Tryd.func13 (by kernel_rfl) rfl #[.slice Ao46 t338.length co46] (by rfl) rfl rfl (by (try simp only [List.map_toArray, List.map_cons, List.map_nil]); first | done | rfl | (simp only [List.length_drop, List.length_take]; rfl)) ?_
            with_reducible refine (flongref03_Text.calls k2 _ _ t338 t341 _ ?side1 ?side2 A29.out).mono ?_
            (case side1 => repeat (first | exact (Kd.R_reads' HO340.out).2.2 | (with_reducible refine Kd.C_alloc ?_ _) | (with_reducible refine Kd.C_drewN ?_ _) | (with_reducible refine Kd.C_drew ?_)))
            (case side2 => exact (Kd.R_reads' HO340.out).2.1)
            rintro e w47 ⟨rfl, hb⟩
            refine ⟨_, rfl, ?_⟩
            have n0_ := Aside0.mk (Kd.R_below (by (with_reducible repeat (first | apply Kd.R_alloc | apply Kd.R_drewN | apply Kd.R_drew)); exact HO334.out) hb)
            have n1_ := Aside0.mk (Kd.R_below (by (with_reducible repeat (first | apply Kd.R_alloc | apply Kd.R_drewN | apply Kd.R_drew)); exact HO337.out) hb)
            have n2_ := Aside0.mk (Kd.R_below (by (with_reducible repeat (first | apply Kd.R_alloc | apply Kd.R_drewN | apply Kd.R_drew)); exact HO340.out) hb)
            have n3_ := Aside0.mk (below_step (by repeat (first | (with_reducible first | exact HB.out | apply below_alloc | apply pw_below_drewN | apply below_drew1) | exact HB.out)) hb)
            clear HO334
            clear HO337
            clear HO340
            clear HB
            have HO334 := n0_
            have HO337 := n1_
            have HO340 := n2_
            have HB := n3_
            clear n0_ n1_ n2_ n3_
            (try clear hb)
            (try clear hb2)
            (try clear hk)
            (try clear hi)
            refine hK.out _ _ trivial (fun hHeld => ?_)
            clear hK K
            refine norm_ (a' := ?_) ?_ ?_
            rotate_left
            ·show Act.put _ (some 61) _ = _
             simp only [Act.put, List.setIfInBounds_toArray, List.set_cons_zero, List.set_cons_succ, i64_w, i32_w]
             rfl
            exact norm_ (by simp only [putAll, Act.put, List.setIfInBounds_toArray, List.set_cons_zero, List.set_cons_succ]) (hCont (.slice Ao46 t338.length co46) _ ⟨(by (with_reducible repeat (first | apply Kd.R_alloc | apply Kd.R_drewN | apply Kd.R_drew)); exact Kd.R_mono HO334.out (fun _ hk => hk.2)), (by (with_reducible repeat (first | apply Kd.R_alloc | apply Kd.R_drewN | apply Kd.R_drew)); exact HO337.out), (by (with_reducible repeat (first | apply Kd.R_alloc | apply Kd.R_drewN | apply Kd.R_drew)); exact Kd.R_mono HO340.out (fun _ hk => hk.2)), (by repeat (first | (with_reducible first | exact HB.out | apply below_alloc | apply pw_below_drewN | apply below_drew1) | exact HB.out))⟩)
           ·skip
            refine goes_ Tryd.func14 (by kernel_rfl) rfl #[.slice Ao41 t332.length co41] (by rfl) rfl rfl (by (try simp only [List.map_toArray, List.map_cons, List.map_nil]); first | done | rfl | (simp only [List.length_drop, List.length_take]; rfl)) ?_
            with_reducible refine (flongref17_Normal.calls k2 _ _ t332 t338 _ ?side1 ?side2 A28.out).mono ?_
            (case side1 => repeat (first | exact (Kd.R_reads' HO334.out).2.2 | (with_reducible refine Kd.C_alloc ?_ _) | (with_reducible refine Kd.C_drewN ?_ _) | (with_reducible refine Kd.C_drew ?_)))
            (case side2 => exact (Kd.R_reads' HO334.out).2.1)
            rintro e w44 ⟨v339, rfl, ho0, hb⟩
            refine ⟨_, rfl, ?_⟩
            have n0_ := Aside0.mk (Kd.R_elder' (by (with_reducible repeat (first | apply Kd.R_alloc | apply Kd.R_drewN | apply Kd.R_drew)); exact HO334.out) (Kd.R_base ho0) hb)
            have n1_ := Aside0.mk (Kd.R_below (by (with_reducible repeat (first | apply Kd.R_alloc | apply Kd.R_drewN | apply Kd.R_drew)); exact HO337.out) hb)
            have n2_ := Aside0.mk (Kd.R_lower (Kd.R_new' ho0 (Kd.R_lt (by (with_reducible repeat (first | apply Kd.R_alloc | apply Kd.R_drewN | apply Kd.R_drew)); exact HO334.out))) (below_size (by repeat (first | (with_reducible first | exact HB.out | apply below_alloc | apply pw_below_drewN | apply below_drew1) | exact HB.out))))
            have n3_ := Aside0.mk (below_step (by repeat (first | (with_reducible first | exact HB.out | apply below_alloc | apply pw_below_drewN | apply below_drew1) | exact HB.out)) hb)
            clear HO334
            clear HO337
            clear HB
            have HO334 := n0_
            have HO337 := n1_
            have HO340 := n2_
            have HB := n3_
            clear n0_ n1_ n2_ n3_
            (try clear hb)
            (try clear hb2)
            (try clear hk)
            (try clear hi)
            (try clear ho0)
            obtain ⟨Ao46, co46, eo46⟩ := Kd.R_slice HO340.out
            (first | subst eo46 | (injection eo46 with f1_ f2_ f3_; have f4_ := f1_.symm; have f5_ := f3_.symm; clear f1_ f2_ f3_; subst f4_; subst f5_))
            refine hK.out _ _ trivial (fun hHeld => ?_)
            clear hK K
            refine norm_ (a' := ?_) ?_ ?_
            rotate_left
            ·show Act.put _ (some 60) _ = _
             simp only [Act.put, List.setIfInBounds_toArray, List.set_cons_zero, List.set_cons_succ, i64_w, i32_w]
             rfl
            refine two_ (i := 2) (j := 5) (Ni := some 58) (Nj := some 61) #[true, true, true, true, true, false, false] #[true, true, false, true, true, true, false] rfl rfl rfl rfl (by kernel_rfl) (by decide) (by decide) (fun K hK => ?_) (fun K hK => ?_)
            ·skip
             have hcv45 := own_string (P := Tryd.prog) Tryd.underlying25 Tryd.underlying5 Tryd.underlying9 (Kd.own_of_R HO337.out)
             refine value_ (w1 := ?_) (v := ?_) (by rfl) rfl ?_ ?_
             rotate_left 2
             ·go_simp
              constructor
              ·rfl
              ·rfl
             clear hcv45
             refine hK.out _ _ trivial (fun hHeld => ?_)
             clear hK K
             refine norm_ (a' := ?_) ?_ ?_
             rotate_left
             ·show Act.put _ (some 58) _ = _
              simp only [Act.put, List.setIfInBounds_toArray, List.set_cons_zero, List.set_cons_succ, i64_w, i32_w]
              rfl
             refine one_ (i := 5) (N := some 61) #[true, true, true, true, true, true, false] rfl rfl (by kernel_rfl) (by decide) (fun K hK => ?_)
             refine goes_ Tryd.func13 (by kernel_rfl) rfl #[.slice Ao46 t338.length co46] (by rfl) rfl rfl (by (try simp only [List.map_toArray, List.map_cons, List.map_nil]); first | done | rfl | (simp only [List.length_drop, List.length_take]; rfl)) ?_
             with_reducible refine (flongref03_Text.calls k2 _ _ t338 t341 _ ?side1 ?side2 A29.out).mono ?_
             (case side1 => repeat (first | exact (Kd.R_reads' HO340.out).2.2 | (with_reducible refine Kd.C_alloc ?_ _) | (with_reducible refine Kd.C_drewN ?_ _) | (with_reducible refine Kd.C_drew ?_)))
             (case side2 => exact (Kd.R_reads' HO340.out).2.1)
             rintro e w47 ⟨rfl, hb⟩
             refine ⟨_, rfl, ?_⟩
             have n0_ := Aside0.mk (Kd.R_below (by (with_reducible repeat (first | apply Kd.R_alloc | apply Kd.R_drewN | apply Kd.R_drew)); exact HO334.out) hb)
             have n1_ := Aside0.mk (Kd.R_below (by (with_reducible repeat (first | apply Kd.R_alloc | apply Kd.R_drewN | apply Kd.R_drew)); exact HO337.out) hb)
             have n2_ := Aside0.mk (Kd.R_below (by (with_reducible repeat (first | apply Kd.R_alloc | apply Kd.R_drewN | apply Kd.R_drew)); exact HO340.out) hb)
             have n3_ := Aside0.mk (below_step (by repeat (first | (with_reducible first | exact HB.out | apply below_alloc | apply pw_below_drewN | apply below_drew1) | exact HB.out)) hb)
             clear HO334
             clear HO337
             clear HO340
             clear HB
             have HO334 := n0_
             have HO337 := n1_
             have HO340 := n2_
             have HB := n3_
             clear n0_ n1_ n2_ n3_
             (try clear hb)
             (try clear hb2)
             (try clear hk)
             (try clear hi)
             refine hK.out _ _ trivial (fun hHeld => ?_)
             clear hK K
             refine norm_ (a' := ?_) ?_ ?_
             rotate_left
             ·show Act.put _ (some 61) _ = _
              simp only [Act.put, List.setIfInBounds_toArray, List.set_cons_zero, List.set_cons_succ, i64_w, i32_w]
              rfl
             exact norm_ (by simp only [putAll, Act.put, List.setIfInBounds_toArray, List.set_cons_zero, List.set_cons_succ]) (hCont (.slice Ao46 t338.length co46) _ ⟨(by (with_reducible repeat (first | apply Kd.R_alloc | apply Kd.R_drewN | apply Kd.R_drew)); exact Kd.R_mono HO334.out (fun _ hk => hk.2)), (by (with_reducible repeat (first | apply Kd.R_alloc | apply Kd.R_drewN | apply Kd.R_drew)); exact HO337.out), (by (with_reducible repeat (first | apply Kd.R_alloc | apply Kd.R_drewN | apply Kd.R_drew)); exact Kd.R_mono HO340.out (fun _ hk => hk.2)), (by repeat (first | (with_reducible first | exact HB.out | apply below_alloc | apply pw_below_drewN | apply below_drew1) | exact HB.out))⟩)
            ·skip
             refine goes_ Tryd.func13 (by kernel_rfl) rfl #[.slice Ao46 t338.length co46] (by rfl) rfl rfl (by (try simp only [List.map_toArray, List.map_cons, List.map_nil]); first | done | rfl | (simp only [List.length_drop, List.length_take]; rfl)) ?_
             with_reducible refine (flongref03_Text.calls k2 _ _ t338 t341 _ ?side1 ?side2 A29.out).mono ?_
             (case side1 => repeat (first | exact (Kd.R_reads' HO340.out).2.2 | (with_reducible refine Kd.C_alloc ?_ _) | (with_reducible refine Kd.C_drewN ?_ _) | (with_reducible refine Kd.C_drew ?_)))
             (case side2 => exact (Kd.R_reads' HO340.out).2.1)
             rintro e w46 ⟨rfl, hb⟩
             refine ⟨_, rfl, ?_⟩
             have n0_ := Aside0.mk (Kd.R_below (by (with_reducible repeat (first | apply Kd.R_alloc | apply Kd.R_drewN | apply Kd.R_drew)); exact HO334.out) hb)
             have n1_ := Aside0.mk (Kd.R_below (by (with_reducible repeat (first | apply Kd.R_alloc | apply Kd.R_drewN | apply Kd.R_drew)); exact HO337.out) hb)
             have n2_ := Aside0.mk (Kd.R_below (by (with_reducible repeat (first | apply Kd.R_alloc | apply Kd.R_drewN | apply Kd.R_drew)); exact HO340.out) hb)
             have n3_ := Aside0.mk (below_step (by repeat (first | (with_reducible first | exact HB.out | apply below_alloc | apply pw_below_drewN | apply below_drew1) | exact HB.out)) hb)
             clear HO334
             clear HO337
             clear HO340
             clear HB
             have HO334 := n0_
             have HO337 := n1_
             have HO340 := n2_
             have HB := n3_
             clear n0_ n1_ n2_ n3_
             (try clear hb)
             (try clear hb2)
             (try clear hk)
             (try clear hi)
             refine hK.out _ _ trivial (fun hHeld => ?_)
             clear hK K
             refine norm_ (a' := ?_) ?_ ?_
             rotate_left
             ·show Act.put _ (some 61) _ = _
              simp only [Act.put, List.setIfInBounds_toArray, List.set_cons_zero, List.set_cons_succ, i64_w, i32_w]
              rfl
             refine one_ (i := 2) (N := some 58) #[true, true, true, true, true, true, false] rfl rfl (by kernel_rfl) (by decide) (fun K hK => ?_)
             have hcv47 := own_string (P := Tryd.prog) Tryd.underlying25 Tryd.underlying5 Tryd.underlying9 (Kd.own_of_R HO337.out)
             refine value_ (w1 := ?_) (v := ?_) (by rfl) rfl ?_ ?_
             rotate_left 2
             ·go_simp
              constructor
              ·rfl
              ·rfl
             clear hcv47
             refine hK.out _ _ trivial (fun hHeld => ?_)
             clear hK K
             refine norm_ (a' := ?_) ?_ ?_
             rotate_left
             ·show Act.put _ (some 58) _ = _
              simp only [Act.put, List.setIfInBounds_toArray, List.set_cons_zero, List.set_cons_succ, i64_w, i32_w]
              rfl
             exact norm_ (by simp only [putAll, Act.put, List.setIfInBounds_toArray, List.set_cons_zero, List.set_cons_succ]) (hCont (.slice Ao46 t338.length co46) _ ⟨(by (with_reducible repeat (first | apply Kd.R_alloc | apply Kd.R_drewN | apply Kd.R_drew)); exact Kd.R_mono HO334.out (fun _ hk => hk.2)), (by (with_reducible repeat (first | apply Kd.R_alloc | apply Kd.R_drewN | apply Kd.R_drew)); exact HO337.out), (by (with_reducible repeat (first | apply Kd.R_alloc | apply Kd.R_drewN | apply Kd.R_drew)); exact Kd.R_mono HO340.out (fun _ hk => hk.2)), (by repeat (first | (with_reducible first | exact HB.out | apply below_alloc | apply pw_below_drewN | apply below_drew1) | exact HB.out))⟩)
          rintro v339 w48 ⟨h0_, h1_, h2_, h3_⟩
          have n0_ : Aside0 (Kd.R k35 35 w48 w.heap.size (fun k_ => some k_ ≠ (v339 : Value).ownBlock) (.slice Ao41 t332.length co41) t332) := ⟨h0_⟩
          have n1_ : Aside0 (Kd.R (Kd.int .u8) 5 w48 w.heap.size (fun _ => True) v336 t335) := ⟨h1_⟩
          have n2_ : Aside0 (Kd.R k35 35 w48 w.heap.size (fun k_ => some k_ ≠ (.slice Ao41 t332.length co41 : Value).ownBlock) v339 t338) := ⟨h2_⟩
          have n3_ : Aside0 (Below w.heap.size w w48) := ⟨h3_⟩
          clear HO334
          clear HB
          clear h0_ h1_ h2_ h3_
          have HO334 := n0_
          have HO337 := n1_
          have HO340 := n2_
          have HB := n3_
          clear n0_ n1_ n2_ n3_
          have hHeld := trivial
          refine norm_ (a' := ?_) ?_ ?_
          rotate_left
          ·simp only [putAll, Act.put, List.setIfInBounds_toArray, List.set_cons_zero, List.set_cons_succ]
           rfl
          refine pure_ (i := 6) (N := some 62) (v := ?_) (a' := ?_) #[true, true, true, true, true, true, true] rfl rfl (by kernel_rfl) (fun _ _ _ h => h) (Or.inl ⟨by rfl, ?_⟩) ?_ ?_
          rotate_left
          ·intro w'
           go_simp
           with_reducible rfl
          rotate_left
          ·simp only [Act.put, List.setIfInBounds_toArray, List.set_cons_zero, List.set_cons_succ, i64_w, i32_w]
           rfl
          refine done_ (by kernel_rfl) ?_
          try go_wp2
          go_ret
          exact ⟨by first | rfl | (simp [errW_none, errW_some] <;> rfl) | (simp [*, errW_none, errW_some] <;> rfl), by repeat (first | (with_reducible first | exact HB.out | apply below_alloc | apply pw_below_drewN | apply below_drew1) | exact HB.out)⟩
        ·rw [if_neg c25] at H
         exact absurd H (by simp)
       ·rw [if_neg c24] at H
        have c24b0 : decide (x5_2 < (l0.length : Int)) = false := decide_eq_false c24
        clear c24
        replace H := Option.bind_eq_some_iff.mp H
        obtain ⟨t330, A490, H⟩ := H
        replace H : (some t330) = some r := H
        have A49 := Aside0.mk A490
        clear A490
        obtain rfl := Option.some.inj H
        go_wp2_with (first | ((with_reducible refine gate_callee (f := 9) rfl ?_); refine goesL_ (some 63) rfl rfl Tryd.func9 (by kernel_rfl) rfl #[] rfl (by (try simp only [List.map_toArray, List.map_cons, List.map_nil]); first | done | rfl | (simp only [List.length_drop, List.length_take]; rfl)) ?_; (with_reducible refine (flonglaw18_known.calls k2  t330 _ ?side1 A49.out).mono ?_); (case side1 => exact GOK.of_below (GOK.sub HG.out rfl) (by repeat (first | (with_reducible first | exact HB.out | apply below_alloc | apply pw_below_drewN | apply below_drew1) | exact HB.out))); rintro e w50 ⟨rfl, hb⟩; refine ⟨_, rfl, ?_⟩; have n0_ := Aside0.mk (below_step (by repeat (first | (with_reducible first | exact HB.out | apply below_alloc | apply pw_below_drewN | apply below_drew1) | exact HB.out)) hb); clear HB; have HB := n0_; clear n0_; (try clear hb); (try clear hb2); (try clear hk); (try clear hi)))
        go_ret
        exact ⟨by first | rfl | (simp [errW_none, errW_some] <;> rfl) | (simp [*, errW_none, errW_some] <;> rfl), by repeat (first | (with_reducible first | exact HB.out | apply below_alloc | apply pw_below_drewN | apply below_drew1) | exact HB.out)⟩

end Go.Proofs.YtmeinakeiefcdaaDoor.X
