-- Written by this session's xprint.py (a variant of the kit's printer). Not trusted: Lean checks it.
import Derived.Test.YtmeinakeiefcdaaDoorX0
import Derived.Test.YtmeinakeiefcdaaDoorSlim
import Derived.Test.YtmeinakeiefcdaaDoorX1
import Derived.Test.YtmeinakeiefcdaaDoorX2
import Derived.Test.YtmeinakeiefcdaaDoorX3
import Derived.Test.YtmeinakeiefcdaaDoorX6
import Derived.Test.YtmeinakeiefcdaaDoorX7
import Derived.Test.YtmeinakeiefcdaaDoorHandA
namespace Go.Proofs.YtmeinakeiefcdaaDoor.X
open Go.Proofs.YtmeinakeiefcdaaDoor.Hand
open Go.RowKit Go.Proofs.YtmeinakeiefcdaaDoorW.PrintWords Go.Proofs.YtmeinakeiefcdaaDoorW.PrintLast Go.Proofs.YtmeinakeiefcdaaDoorW.PrintMore
attribute [local go_sem] max2_int min2_int max_two min_two max_three min_three max_four min_four   -- for this text's walks alone
set_option linter.unusedVariables false
set_option maxHeartbeats 8000000
set_option maxRecDepth 100000
set_option linter.unusedSimpArgs false

/-! ### flonglaw18_OverErase: function 7 -/
mutual
def flonglaw18_OverErase.j0 : Nat → List (S30) → Bool → Option (Bool)
 | 0, _, _ => none
 | k + 1, x0, x12 => if x12 = true then ((flonglaw18_known.f k).bind fun t464 => (some t464)) else ((over_Write.f k x0).bind fun t465 => ((over_Read.f k t465).bind fun bt468 => (if bt468.2 = 0 then (flonglaw18_OverErase.l0 k x0 bt468.1 (⟨#[]⟩ : ByteArray) 0) else (some false))))
def flonglaw18_OverErase.l0 : Nat → List (S30) → List (List (S35)) → ByteArray → Int → Option (Bool)
 | 0, _, _, _, _ => none
 | k + 1, x0, x3, x5, x6 => if x6 < (x3.length : Int) then (if 0 ≤ x6 then ((flongref03_Text.f k (rd_L6 x3 x6)).bind fun t473 => (if x5.size + t473.size ≤ 9223372036854775807 then (if (x5 ++ t473).size + 1 ≤ 9223372036854775807 then (flonglaw18_OverErase.l0 k x0 x3 ((x5 ++ t473) ++ (⟨#[10]⟩ : ByteArray)) (wrap64 (x6 + 1))) else (none)) else (none))) else (none)) else ((flongref17_Write.f k x0).bind fun t474 => (if x5.toList = (strOfNums t474).toList then ((flonglaw18_known.f k).bind fun t477 => (some t477)) else (some false)))
end
def flonglaw18_OverErase.f (k : Nat) (l0 : List (S30)) : Option (Bool) := (flongref17_Long.f k l0).bind fun t462 => (if t462 = true then (flonglaw18_OverErase.j0 k l0 true) else ((flonglaw18_strikes.f k l0).bind fun t463 => (flonglaw18_OverErase.j0 k l0 t463)))
theorem flonglaw18_OverErase.mono_l : ∀ k, (∀ y0 y1, LeO (flonglaw18_OverErase.j0 k y0 y1) (flonglaw18_OverErase.j0 (k + 1) y0 y1)) ∧ (∀ y0 y1 y2 y3, LeO (flonglaw18_OverErase.l0 k y0 y1 y2 y3) (flonglaw18_OverErase.l0 (k + 1) y0 y1 y2 y3))
 | 0 => ⟨fun _ _ r h => by simp [flonglaw18_OverErase.j0] at h, fun _ _ _ _ r h => by simp [flonglaw18_OverErase.l0] at h⟩
 | k + 1 => by
  obtain ⟨ih0, ih1⟩ := flonglaw18_OverErase.mono_l k
  refine ⟨?_, ?_⟩
  ·intro y0 y1
   unfold flonglaw18_OverErase.j0
   repeat' first
   | (with_reducible exact ih0 _ _)
   | (with_reducible exact ih1 _ _ _ _)
   | (with_reducible exact flonglaw18_known.mono _)
   | (with_reducible exact flonglaw18_strikes.mono _ _)
   | (with_reducible exact flongref03_Text.mono _ _)
   | (with_reducible exact flongref17_Long.mono _ _)
   | (with_reducible exact flongref17_Write.mono _ _)
   | (with_reducible exact over_Read.mono _ _)
   | (with_reducible exact over_Write.mono _ _)
   | (with_reducible exact LeO.refl _)
   | (with_reducible exact LeO.none _)
   | (with_reducible refine LeO.ite ?_ ?_)
   | (with_reducible refine LeO.bind ?_ (fun _ => ?_))
  ·intro y0 y1 y2 y3
   unfold flonglaw18_OverErase.l0
   repeat' first
   | (with_reducible exact ih0 _ _)
   | (with_reducible exact ih1 _ _ _ _)
   | (with_reducible exact flonglaw18_known.mono _)
   | (with_reducible exact flonglaw18_strikes.mono _ _)
   | (with_reducible exact flongref03_Text.mono _ _)
   | (with_reducible exact flongref17_Long.mono _ _)
   | (with_reducible exact flongref17_Write.mono _ _)
   | (with_reducible exact over_Read.mono _ _)
   | (with_reducible exact over_Write.mono _ _)
   | (with_reducible exact LeO.refl _)
   | (with_reducible exact LeO.none _)
   | (with_reducible refine LeO.ite ?_ ?_)
   | (with_reducible refine LeO.bind ?_ (fun _ => ?_))
theorem flonglaw18_OverErase.mono : ∀ a0 k, LeO (flonglaw18_OverErase.f k a0) (flonglaw18_OverErase.f (k + 1) a0) := by
 intro a0 k
 obtain ⟨ih0, ih1⟩ := flonglaw18_OverErase.mono_l k
 unfold flonglaw18_OverErase.f
 repeat' first
   | (with_reducible exact ih0 _ _)
   | (with_reducible exact ih1 _ _ _ _)
   | (with_reducible exact flonglaw18_known.mono _)
   | (with_reducible exact flonglaw18_strikes.mono _ _)
   | (with_reducible exact flongref03_Text.mono _ _)
   | (with_reducible exact flongref17_Long.mono _ _)
   | (with_reducible exact flongref17_Write.mono _ _)
   | (with_reducible exact over_Read.mono _ _)
   | (with_reducible exact over_Write.mono _ _)
   | (with_reducible exact LeO.refl _)
   | (with_reducible exact LeO.none _)
   | (with_reducible refine LeO.ite ?_ ?_)
   | (with_reducible refine LeO.bind ?_ (fun _ => ?_))
theorem flonglaw18_OverErase.calls (k : Nat) (A0 : Option Addr) (c0 : Nat) (l0 : List (S30)) (r : Bool) (w : World) (hr0 : Kd.C k30 w A0 l0.length l0) (hc0 : l0.length ≤ c0) (hG : GOK [0,1,2] w) (h : flonglaw18_OverErase.f k l0 = some r) :
  Calls Tryd.prog 7 #[.slice A0 l0.length c0] w fun e w' => e = .returned (.bool r) ∧ Below w.heap.size w w' := by
 have HG := Aside0.mk hG
 clear hG
 have HR0 := Aside0.mk hr0
 have HC0 := Aside0.mk hc0
 clear hr0 hc0
 have HB := Aside0.mk (Below.refl w.heap.size w)
 have H : ((flongref17_Long.f k l0).bind fun t462 => (if t462 = true then (flonglaw18_OverErase.j0 k l0 true) else ((flonglaw18_strikes.f k l0).bind fun t463 => (flonglaw18_OverErase.j0 k l0 t463)))) = some r := h
 clear h
 have HC2 := Aside0.mk H
 clear H
 go_enter Tryd.func7, Tryd.ntmps7
 go_upto_region 1 with (fail)
 go_cut [12] (fun v12 wc => ∃ (kq : Nat) (x12_1 : Bool), v12 = .bool x12_1 ∧ Aside0 (flonglaw18_OverErase.j0 kq l0 x12_1 = some r) ∧ Aside0 (kq ≤ k) ∧ Aside0 (Below w.heap.size w wc))
 case first =>
  have H := HC2.out
  clear HC2
  replace H := Option.bind_eq_some_iff.mp H
  obtain ⟨t462, A30, H⟩ := H
  replace H : (if t462 = true then (flonglaw18_OverErase.j0 k l0 true) else ((flonglaw18_strikes.f k l0).bind fun t463 => (flonglaw18_OverErase.j0 k l0 t463))) = some r := H
  have A3 := Aside0.mk A30
  clear A30
  by_cases c4 : t462 = true
  ·subst c4
   have H1 : (flonglaw18_OverErase.j0 k l0 true) = some r := by rw [if_pos rfl] at H; exact H
   clear H
   have H := H1
   clear H1
   have H' := Aside0.mk H
   clear H
   go_wp2_with (first | ((with_reducible refine gate_callee (f := 8) rfl ?_); refine goesL_ (some 8) rfl rfl Tryd.func8 (by kernel_rfl) rfl #[.slice A0 l0.length c0] rfl aP ?_; (with_reducible refine (flongref17_Long.calls k _ _ l0 true _ ?side1 ?side2 A3.out).mono ?_); (case side1 => repeat (first | exact (Kd.C_below HR0.out HB.out) | (with_reducible refine Kd.C_alloc ?_ _) | (with_reducible refine Kd.C_drewN ?_ _) | (with_reducible refine Kd.C_drew ?_))); (case side2 => exact HC0.out); rintro e w' ⟨rfl, ⟨nd, rfl⟩⟩; refine ⟨_, rfl, ?_⟩))
   go_meet
   case rel => exact ⟨_, (true), sA, H', ⟨by first | omega | exact Nat.le_refl _⟩, ⟨bA⟩⟩
  ·replace c4 := Bool.eq_false_iff.mpr c4
   subst c4
   have H1 : ((flonglaw18_strikes.f k l0).bind fun t463 => (flonglaw18_OverErase.j0 k l0 t463)) = some r := by rw [if_neg (show ¬ (false = true) by decide)] at H; exact H
   clear H
   have H := H1
   clear H1
   replace H := Option.bind_eq_some_iff.mp H
   obtain ⟨t463, A50, H⟩ := H
   replace H : (flonglaw18_OverErase.j0 k l0 t463) = some r := H
   have A5 := Aside0.mk A50
   clear A50
   have H' := Aside0.mk H
   clear H
   go_wp2_with (first | ((with_reducible refine gate_callee (f := 8) rfl ?_); refine goesL_ (some 8) rfl rfl Tryd.func8 (by kernel_rfl) rfl #[.slice A0 l0.length c0] rfl aP ?_; (with_reducible refine (flongref17_Long.calls k _ _ l0 false _ ?side1 ?side2 A3.out).mono ?_); (case side1 => repeat (first | exact (Kd.C_below HR0.out HB.out) | (with_reducible refine Kd.C_alloc ?_ _) | (with_reducible refine Kd.C_drewN ?_ _) | (with_reducible refine Kd.C_drew ?_))); (case side2 => exact HC0.out); rintro e w' ⟨rfl, ⟨nd, rfl⟩⟩; refine ⟨_, rfl, ?_⟩) | (go_at_call 23; (with_reducible refine (flonglaw18_strikes.calls k _ _ l0 t463 _ ?side1 ?side2 A5.out).mono ?_); (case side1 => repeat (first | exact (Kd.C_below HR0.out bA) | (with_reducible refine Kd.C_alloc ?_ _) | (with_reducible refine Kd.C_drewN ?_ _) | (with_reducible refine Kd.C_drew ?_))); (case side2 => exact HC0.out); rintro e w' ⟨rfl, ⟨nd, rfl⟩⟩))
   go_meet
   case rel => exact ⟨_, (t463), sA, H', ⟨by first | omega | exact Nat.le_refl _⟩, ⟨bA⟩⟩
 case rest =>
  clear HC2
  try clear p2
  try clear c4
  obtain ⟨kq, x12_1, rfl, HA, HJ1, HB⟩ := hcut
  cases kq with
  | zero => exact absurd HA.out (by simp [flonglaw18_OverErase.j0])
  | succ kj1 =>
   have H := HA.out
   clear HA
   simp only [flonglaw18_OverErase.j0] at H
   by_cases c6 : x12_1 = true
   ·subst c6
    have H1 : ((flonglaw18_known.f kj1).bind fun t464 => (some t464)) = some r := by rw [if_pos rfl] at H; exact H
    clear H
    have H := H1
    clear H1
    replace H := Option.bind_eq_some_iff.mp H
    obtain ⟨t464, A70, H⟩ := H
    replace H : (some t464) = some r := H
    have A7 := Aside0.mk A70
    clear A70
    obtain rfl := Option.some.inj H
    go_wp2_with (first | ((with_reducible refine gate_callee (f := 9) rfl ?_); refine goesL_ (some 13) rfl rfl Tryd.func9 (by kernel_rfl) rfl #[] rfl aP ?_; (with_reducible refine (flonglaw18_known.calls kj1  t464 _ ?side1 A7.out).mono ?_); (case side1 => exact GOK.of_below (GOK.sub HG.out rfl) bA); rintro e w8 ⟨rfl, hb⟩; refine ⟨_, rfl, ?_⟩; replace HB := Aside0.mk (below_step bA hb); (try clear hb); (try clear hb2); (try clear hk); (try clear hi)))
    go_ret
    exact ⟨eW, bA⟩
   ·replace c6 := Bool.eq_false_iff.mpr c6
    subst c6
    have H1 : ((over_Write.f kj1 l0).bind fun t465 => ((over_Read.f kj1 t465).bind fun bt468 => (if bt468.2 = 0 then (flonglaw18_OverErase.l0 kj1 l0 bt468.1 (⟨#[]⟩ : ByteArray) 0) else (some false)))) = some r := by rw [if_neg (show ¬ (false = true) by decide)] at H; exact H
    clear H
    have H := H1
    clear H1
    replace H := Option.bind_eq_some_iff.mp H
    obtain ⟨t465, A90, H⟩ := H
    replace H : ((over_Read.f kj1 t465).bind fun bt468 => (if bt468.2 = 0 then (flonglaw18_OverErase.l0 kj1 l0 bt468.1 (⟨#[]⟩ : ByteArray) 0) else (some false))) = some r := H
    have A9 := Aside0.mk A90
    clear A90
    replace H := Option.bind_eq_some_iff.mp H
    obtain ⟨⟨t468, t469⟩, A100, H⟩ := H
    replace H : (if t469 = 0 then (flonglaw18_OverErase.l0 kj1 l0 t468 (⟨#[]⟩ : ByteArray) 0) else (some false)) = some r := H
    have A10 := Aside0.mk A100
    clear A100
    by_cases c11 : t469 = 0
    ·rw [if_pos c11] at H
     have c11b0 : (t469 == 0) = true := beq_iff_eq.mpr c11
     have c11b1 : (t469 != 0) = false := bne_eq_false_iff_eq.mpr c11
     clear c11
     have H' := Aside0.mk H
     clear H
     go_wp2_with (first | ((with_reducible refine gate_callee (f := 10) rfl ?_); refine goesL_ (some 16) rfl rfl Tryd.func10 (by kernel_rfl) rfl #[.slice A0 l0.length c0] rfl aP ?_; (with_reducible refine (over_Write.calls kj1 _ _ l0 t465 _ ?side1 ?side2 ?side3 A9.out).mono ?_); (case side1 => repeat (first | exact (Kd.C_below HR0.out HB.out) | (with_reducible refine Kd.C_alloc ?_ _) | (with_reducible refine Kd.C_drewN ?_ _) | (with_reducible refine Kd.C_drew ?_))); (case side2 => exact HC0.out); (case side3 => exact GOK.of_below (GOK.sub HG.out rfl) bA); rintro e w12 ⟨v466, rfl, ho0, hb⟩; refine ⟨_, rfl, ?_⟩; have HO467 := Aside0.mk (Kd.R_lower ho0 (below_size bA)); replace HB := Aside0.mk (below_step bA hb); (try clear hb); (try clear hb2); (try clear hk); (try clear hi); (try clear ho0); obtain ⟨Ao13, co13, eo13⟩ := Kd.R_slice HO467.out; subst eo13) | ((with_reducible refine gate_callee (f := 18) rfl ?_); refine goesL_ (some 17) rfl rfl Tryd.func18 (by kernel_rfl) rfl #[.slice Ao13 t465.length co13] rfl aP ?_; (with_reducible refine (over_Read.calls kj1 _ _ t465 t468 t469 _ ?side1 ?side2 ?side3 A10.out).mono ?_); (case side1 => repeat (first | exact (Kd.R_reads' HO467.out).2.2 | (with_reducible refine Kd.C_alloc ?_ _) | (with_reducible refine Kd.C_drewN ?_ _) | (with_reducible refine Kd.C_drew ?_))); (case side2 => exact (Kd.R_reads' HO467.out).2.1); (case side3 => exact GOK.of_below (GOK.sub HG.out rfl) bA); rintro e w14 ⟨v470, rfl, ho0, hb⟩; refine ⟨_, rfl, ?_⟩; replace HO467 := Aside0.mk (Kd.R_below (kR HO467) hb); have HO471 := Aside0.mk (Kd.S_lower ho0 (below_size bA)); replace HB := Aside0.mk (below_step bA hb); (try clear hb); (try clear hb2); (try clear hk); (try clear hi); (try clear ho0)))
     go_loopg [5, 6] kj1 (fun kq v5 v6 w' => ∃ (x5_2 : ByteArray) (x6_2 : Int), v5 = .string x5_2 ∧ v6 = .int .i64 x6_2 ∧ Aside0 (flonglaw18_OverErase.l0 kq l0 t468 x5_2 x6_2 = some r) ∧ Aside0 (kq ≤ kj1) ∧ Aside0 (Kd.S (Kd.slice 35 k35) 27 w' w.heap.size (fun _ => True) v470 t468) ∧ Aside0 (Below w.heap.size w w'))
     case atStart => exact ⟨((⟨#[]⟩ : ByteArray)), (0), sA, sA, H', ⟨Nat.le_refl _⟩, ⟨kS HO471⟩, ⟨bA⟩⟩
     case round =>
      clear H'
      try clear c1
      try clear p2
      try clear c4
      try clear c6
      try clear c7
      try clear c8
      try clear c9
      try clear c10
      try clear c11
      try clear c11b0
      try clear c11b1
      try clear p2
      obtain ⟨x5_2, x6_2, rfl, rfl, HA, HK2, HO_3, HB⟩ := hrel
      cases gk with
      | zero => exact absurd HA.out (by simp [flonglaw18_OverErase.l0])
      | succ k2 =>
       have H := HA.out
       clear HA
       simp only [flonglaw18_OverErase.l0] at H
       by_cases c15 : x6_2 < (t468.length : Int)
       ·rw [if_pos c15] at H
        have c15b0 : decide (x6_2 < (t468.length : Int)) = true := decide_eq_true c15
        clear c15
        by_cases c16 : 0 ≤ x6_2
        ·rw [if_pos c16] at H
         have c16b0 : decide (0 ≤ x6_2) = true := decide_eq_true c16
         clear c16
         replace H := Option.bind_eq_some_iff.mp H
         obtain ⟨t473, A170, H⟩ := H
         replace H : (if x5_2.size + t473.size ≤ 9223372036854775807 then (if (x5_2 ++ t473).size + 1 ≤ 9223372036854775807 then (flonglaw18_OverErase.l0 k2 l0 t468 ((x5_2 ++ t473) ++ (⟨#[10]⟩ : ByteArray)) (wrap64 (x6_2 + 1))) else (none)) else (none)) = some r := H
         have A17 := Aside0.mk A170
         clear A170
         by_cases c18 : x5_2.size + t473.size ≤ 9223372036854775807
         ·rw [if_pos c18] at H
          have c18b0 := eq_true c18
          have c18b1 : decide (x5_2.size + t473.size ≤ 9223372036854775807) = true := decide_eq_true c18
          try have c18b2 : (9223372036854775807 < x5_2.size + t473.size) = False := eq_false (Nat.not_lt.2 c18)
          by_cases c19 : (x5_2 ++ t473).size + 1 ≤ 9223372036854775807
          ·rw [if_pos c19] at H
           have c19b0 := eq_true c19
           have c19b1 : decide ((x5_2 ++ t473).size + 1 ≤ 9223372036854775807) = true := decide_eq_true c19
           try have c19b2 : (9223372036854775807 < (x5_2 ++ t473).size + 1) = False := eq_false (Nat.not_lt.2 c19)
           (try (have c19n := c19; simp only [ByteArray.size_append'] at c19n; have c19b3 := eq_false (Nat.not_lt.2 c19n); have c19b4 := eq_true c19n; clear c19n))
           have H' := Aside0.mk H
           clear H
           obtain ⟨Ao20, co20, eo20⟩ := Kd.S_slice HO_3.out
           subst eo20
           have p472 : 0 ≤ (x6_2 : Int) := of_decide_eq_true asA
           have q472 : x6_2 < (t468.length : Int) := of_decide_eq_true asA
           obtain ⟨ad472, A472_0, c472_0, e472, hx472_0, hl472_0, hi472_0⟩ := at_L6 (Kd.S_reads' HO_3.out).2.2 x6_2 p472 q472
           cases e472
           obtain ⟨ce472, hce472, hMe472, hcc472⟩ := Kd.S_get HO_3.out [] x6_2 p472 (by first | exact q472 | exact of_decide_eq_true asA | (have e_ := (Kd.S_reads' HO_3.out).1; omega))
           obtain ⟨ve472_0, rfl, ge472_0⟩ := hMe472
           have hv472_0 := hcc472 0 _ rfl
           rw [Nat.add_zero, show ((Kd.slice 35 k35)).sz = 1 from rfl, Nat.mul_one] at hv472_0
           replace hv472_0 := Option.some.inj (hv472_0.symm.trans hx472_0)
           rw [hv472_0] at ge472_0
           have HL472_0 := Aside0.mk (show Kd.R k35 35 _ _ _ _ (rd_L6 t468 x6_2) from ge472_0)
           clear hv472_0 ge472_0
           clear hcc472 hce472
           have HR472_0 := Aside0.mk hi472_0
           have HC472_0 := Aside0.mk hl472_0
           clear hi472_0 hl472_0
           replace p472 := eq_true p472
           replace q472 := eq_true q472
           go_wp2_with (first | ((with_reducible refine gate_callee (f := 13) rfl ?_); refine goesL_ (some 33) rfl rfl Tryd.func13 (by kernel_rfl) rfl #[.slice A472_0 (rd_L6 t468 x6_2).length c472_0] rfl aP ?_; (with_reducible refine (flongref03_Text.calls k2 _ _ (rd_L6 t468 x6_2) t473 _ ?side1 ?side2 A17.out).mono ?_); (case side1 => repeat (first | exact (by repeat (first | (with_reducible exact HR472_0.out) | (with_reducible refine Kd.C_alloc ?_ _) | (with_reducible refine Kd.C_drewN ?_ _) | (with_reducible refine Kd.C_drew ?_) | exact HR472_0.out)) | (with_reducible refine Kd.C_alloc ?_ _) | (with_reducible refine Kd.C_drewN ?_ _) | (with_reducible refine Kd.C_drew ?_))); (case side2 => exact HC472_0.out); rintro e w21 ⟨rfl, hb⟩; refine ⟨_, rfl, ?_⟩; replace HO_3 := Aside0.mk (Kd.S_below (kS HO_3) hb); replace HL472_0 := Aside0.mk (Kd.R_below (kR HL472_0) hb); replace HR472_0 := Aside0.mk (Kd.C_below (by repeat (first | (with_reducible exact HR472_0.out) | (with_reducible refine Kd.C_alloc ?_ _) | (with_reducible refine Kd.C_drewN ?_ _) | (with_reducible refine Kd.C_drew ?_) | exact HR472_0.out)) hb); replace HB := Aside0.mk (below_step bA hb); (try clear hb); (try clear hb2); (try clear hk); (try clear hi)))
           go_roundg k2
           case measure => have := HJ1.out; have := HK2.out; omega
           case rel => exact ⟨((x5_2 ++ t473) ++ (⟨#[10]⟩ : ByteArray)), (wrap64 (x6_2 + 1)), sA, sA, H', ⟨by have := HJ1.out; have := HK2.out; omega⟩, ⟨kS HO_3⟩, ⟨bA⟩⟩
          ·rw [if_neg c19] at H
           exact absurd H (by simp)
         ·rw [if_neg c18] at H
          exact absurd H (by simp)
        ·rw [if_neg c16] at H
         exact absurd H (by simp)
       ·rw [if_neg c15] at H
        have c15b0 : decide (x6_2 < (t468.length : Int)) = false := decide_eq_false c15
        clear c15
        replace H := Option.bind_eq_some_iff.mp H
        obtain ⟨t474, A220, H⟩ := H
        replace H : (if x5_2.toList = (strOfNums t474).toList then ((flonglaw18_known.f k2).bind fun t477 => (some t477)) else (some false)) = some r := H
        have A22 := Aside0.mk A220
        clear A220
        by_cases c23 : x5_2.toList = (strOfNums t474).toList
        ·rw [if_pos c23] at H
         have c23b0 : (x5_2.toList == (strOfNums t474).toList) = true := beq_iff_eq.mpr c23
         have c23b1 : (x5_2.toList != (strOfNums t474).toList) = false := bne_eq_false_iff_eq.mpr c23
         clear c23
         replace H := Option.bind_eq_some_iff.mp H
         obtain ⟨t477, A240, H⟩ := H
         replace H : (some t477) = some r := H
         have A24 := Aside0.mk A240
         clear A240
         obtain rfl := Option.some.inj H
         obtain ⟨Ao25, co25, eo25⟩ := Kd.S_slice HO_3.out
         subst eo25
         go_wp2_with (first | ((with_reducible refine gate_callee (f := 25) rfl ?_); refine goesL_ (some 38) rfl rfl Tryd.func25 (by kernel_rfl) rfl #[.slice A0 l0.length c0] rfl aP ?_; (with_reducible refine (flongref17_Write.calls k2 _ _ l0 t474 _ ?side1 ?side2 A22.out).mono ?_); (case side1 => repeat (first | exact (Kd.C_below HR0.out HB.out) | (with_reducible refine Kd.C_alloc ?_ _) | (with_reducible refine Kd.C_drewN ?_ _) | (with_reducible refine Kd.C_drew ?_))); (case side2 => exact HC0.out); rintro e w26 ⟨v475, rfl, ho0, hb⟩; refine ⟨_, rfl, ?_⟩; have n0_ := Aside0.mk (Kd.S_below (kS HO_3) hb); have n1_ := Aside0.mk (Kd.V_lower (Kd.V_mono (ok' := fun k_ => some k_ ≠ (.slice Ao25 t468.length co25 : Value).ownBlock) ho0 (fun k_ hk_ => (Kd.fresh' (Kd.S_lt (kS HO_3)) k_ hk_))) (below_size bA)); have n2_ := Aside0.mk (below_step bA hb); clear HO_3; clear HB; have HO_3 := n0_; have HO476 := n1_; have HB := n2_; clear n0_ n1_ n2_; (try clear hb); (try clear hb2); (try clear hk); (try clear hi); (try clear ho0); have hcv27 := V_string (P := Tryd.prog) Tryd.underlying25 Tryd.underlying5 Tryd.underlying9 HO476.out) | (go_at_call 9; (with_reducible refine (flonglaw18_known.calls k2  t477 _ ?side1 A24.out).mono ?_); (case side1 => exact GOK.of_below (GOK.sub HG.out rfl) bA); rintro e w28 ⟨rfl, hb⟩; replace HO_3 := Aside0.mk (Kd.S_below (kS HO_3) hb); replace HO476 := Aside0.mk (Kd.V_below (kV HO476) hb); replace HB := Aside0.mk (below_step bA hb); (try clear hb); (try clear hb2); (try clear hk); (try clear hi)))
         go_ret
         exact ⟨eW, bA⟩
        ·rw [if_neg c23] at H
         have c23b0 : (x5_2.toList == (strOfNums t474).toList) = false := beq_eq_false_iff_ne.mpr c23
         have c23b1 : (x5_2.toList != (strOfNums t474).toList) = true := bne_iff_ne.mpr c23
         obtain rfl := Option.some.inj H
         obtain ⟨Ao29, co29, eo29⟩ := Kd.S_slice HO_3.out
         subst eo29
         go_wp2_with (first | ((with_reducible refine gate_callee (f := 25) rfl ?_); refine goesL_ (some 38) rfl rfl Tryd.func25 (by kernel_rfl) rfl #[.slice A0 l0.length c0] rfl aP ?_; (with_reducible refine (flongref17_Write.calls k2 _ _ l0 t474 _ ?side1 ?side2 A22.out).mono ?_); (case side1 => repeat (first | exact (Kd.C_below HR0.out HB.out) | (with_reducible refine Kd.C_alloc ?_ _) | (with_reducible refine Kd.C_drewN ?_ _) | (with_reducible refine Kd.C_drew ?_))); (case side2 => exact HC0.out); rintro e w30 ⟨v475, rfl, ho0, hb⟩; refine ⟨_, rfl, ?_⟩; have n0_ := Aside0.mk (Kd.S_below (kS HO_3) hb); have n1_ := Aside0.mk (Kd.V_lower (Kd.V_mono (ok' := fun k_ => some k_ ≠ (.slice Ao29 t468.length co29 : Value).ownBlock) ho0 (fun k_ hk_ => (Kd.fresh' (Kd.S_lt (kS HO_3)) k_ hk_))) (below_size bA)); have n2_ := Aside0.mk (below_step bA hb); clear HO_3; clear HB; have HO_3 := n0_; have HO476 := n1_; have HB := n2_; clear n0_ n1_ n2_; (try clear hb); (try clear hb2); (try clear hk); (try clear hi); (try clear ho0); have hcv31 := V_string (P := Tryd.prog) Tryd.underlying25 Tryd.underlying5 Tryd.underlying9 HO476.out))
         go_ret
         exact ⟨eW, bA⟩
    ·rw [if_neg c11] at H
     have c11b0 : (t469 == 0) = false := beq_eq_false_iff_ne.mpr c11
     have c11b1 : (t469 != 0) = true := bne_iff_ne.mpr c11
     obtain rfl := Option.some.inj H
     go_wp2_with (first | ((with_reducible refine gate_callee (f := 10) rfl ?_); refine goesL_ (some 16) rfl rfl Tryd.func10 (by kernel_rfl) rfl #[.slice A0 l0.length c0] rfl aP ?_; (with_reducible refine (over_Write.calls kj1 _ _ l0 t465 _ ?side1 ?side2 ?side3 A9.out).mono ?_); (case side1 => repeat (first | exact (Kd.C_below HR0.out HB.out) | (with_reducible refine Kd.C_alloc ?_ _) | (with_reducible refine Kd.C_drewN ?_ _) | (with_reducible refine Kd.C_drew ?_))); (case side2 => exact HC0.out); (case side3 => exact GOK.of_below (GOK.sub HG.out rfl) bA); rintro e w32 ⟨v466, rfl, ho0, hb⟩; refine ⟨_, rfl, ?_⟩; have HO467 := Aside0.mk (Kd.R_lower ho0 (below_size bA)); replace HB := Aside0.mk (below_step bA hb); (try clear hb); (try clear hb2); (try clear hk); (try clear hi); (try clear ho0); obtain ⟨Ao33, co33, eo33⟩ := Kd.R_slice HO467.out; subst eo33) | ((with_reducible refine gate_callee (f := 18) rfl ?_); refine goesL_ (some 17) rfl rfl Tryd.func18 (by kernel_rfl) rfl #[.slice Ao33 t465.length co33] rfl aP ?_; (with_reducible refine (over_Read.calls kj1 _ _ t465 t468 t469 _ ?side1 ?side2 ?side3 A10.out).mono ?_); (case side1 => repeat (first | exact (Kd.R_reads' HO467.out).2.2 | (with_reducible refine Kd.C_alloc ?_ _) | (with_reducible refine Kd.C_drewN ?_ _) | (with_reducible refine Kd.C_drew ?_))); (case side2 => exact (Kd.R_reads' HO467.out).2.1); (case side3 => exact GOK.of_below (GOK.sub HG.out rfl) bA); rintro e w34 ⟨v470, rfl, ho0, hb⟩; refine ⟨_, rfl, ?_⟩; replace HO467 := Aside0.mk (Kd.R_below (kR HO467) hb); have HO471 := Aside0.mk (Kd.S_lower ho0 (below_size bA)); replace HB := Aside0.mk (below_step bA hb); (try clear hb); (try clear hb2); (try clear hk); (try clear hi); (try clear ho0)))
     go_ret
     exact ⟨eW, bA⟩

end Go.Proofs.YtmeinakeiefcdaaDoor.X
