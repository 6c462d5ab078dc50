-- Written by this session's xprint.py (a variant of the kit's printer). Not trusted: Lean checks it.
import Derived.Test.YtmfkokjbjmahkaaDoorX0
import Derived.Test.YtmfkokjbjmahkaaDoorSlim
import Derived.Test.YtmfkokjbjmahkaaDoorX2
import Derived.Test.YtmfkokjbjmahkaaDoorX4
import Derived.Test.YtmfkokjbjmahkaaDoorHandA
namespace Go.Proofs.YtmfkokjbjmahkaaDoor.X
open Go.Proofs.YtmfkokjbjmahkaaDoor.Hand
open Go.RowKit Go.Proofs.YtmfkokjbjmahkaaDoorW.PrintWords Go.Proofs.YtmfkokjbjmahkaaDoorW.PrintLast Go.Proofs.YtmfkokjbjmahkaaDoorW.PrintMore
attribute [local go_sem] max2_int min2_int max_two min_two max_three min_three max_four min_four   -- for this text's walks alone
set_option linter.unusedVariables false
set_option maxHeartbeats 8000000
set_option maxRecDepth 100000
set_option linter.unusedSimpArgs false

/-! ### flonglaw05_LinesArgs: function 3 -/
def flonglaw05_LinesArgs.f (k : Nat) (a0 : ByteArray) : Option (Bool) := if (a0.size : Int) > 800 then ((flonglaw05_known.f k).bind fun t163 => (some t163)) else ((lines_Args.f k a0).bind fun bt164 => ((flongref05_Args.f k a0).bind fun bt168 => ((flongref05_SameTexts.f k bt164.1 bt168.1).bind fun t172 => (if t172 = true then (if (bt164.2 == bt168.2) = true then ((lines_Quoted.f a0).bind fun t173 => ((flongref05_Quoted.f k a0).bind fun t174 => (if t173.toList = t174.toList then ((flonglaw05_known.f k).bind fun t175 => (some t175)) else (some false)))) else (some false)) else (some false)))))
theorem flonglaw05_LinesArgs.mono : ∀ a0 k, LeO (flonglaw05_LinesArgs.f k a0) (flonglaw05_LinesArgs.f (k + 1) a0) := by
 intro a0 k
 unfold flonglaw05_LinesArgs.f
 repeat' first
   | (with_reducible exact flonglaw05_known.mono _)
   | (with_reducible exact flongref05_Args.mono _ _)
   | (with_reducible exact flongref05_Quoted.mono _ _)
   | (with_reducible exact flongref05_SameTexts.mono _ _ _)
   | (with_reducible exact lines_Args.mono _ _)
   | (with_reducible exact LeO.refl _)
   | (with_reducible exact LeO.none _)
   | (with_reducible refine LeO.ite ?_ ?_)
   | (with_reducible refine LeO.bind ?_ (fun _ => ?_))
theorem flonglaw05_LinesArgs.calls (k : Nat) (a0 : ByteArray) (r : Bool) (w : World) (hG : GOK [0] w) (h : flonglaw05_LinesArgs.f k a0 = some r) :
  Calls Tryd.prog 3 #[.string a0] w fun e w' => e = .returned (.bool r) ∧ Below w.heap.size w w' := by
 have HG := Aside0.mk hG
 clear hG
 have HB := Aside0.mk (Below.refl w.heap.size w)
 have H : (if (a0.size : Int) > 800 then ((flonglaw05_known.f k).bind fun t163 => (some t163)) else ((lines_Args.f k a0).bind fun bt164 => ((flongref05_Args.f k a0).bind fun bt168 => ((flongref05_SameTexts.f k bt164.1 bt168.1).bind fun t172 => (if t172 = true then (if (bt164.2 == bt168.2) = true then ((lines_Quoted.f a0).bind fun t173 => ((flongref05_Quoted.f k a0).bind fun t174 => (if t173.toList = t174.toList then ((flonglaw05_known.f k).bind fun t175 => (some t175)) else (some false)))) else (some false)) else (some false)))))) = some r := h
 clear h
 by_cases c2 : (a0.size : Int) > 800
 ·rw [if_pos c2] at H
  have c2b0 : decide (800 < (a0.size : Int)) = true := decide_eq_true c2
  have c2b1 : decide (800 < a0.size) = true := decide_eq_true (by omega)
  clear c2
  replace H := Option.bind_eq_some_iff.mp H
  obtain ⟨t163, A30, H⟩ := H
  replace H : (some t163) = some r := H
  have A3 := Aside0.mk A30
  clear A30
  obtain rfl := Option.some.inj H
  go_enter Tryd.func3, Tryd.ntmps3
  go_wp2_with (first | ((with_reducible refine gate_callee (f := 11) rfl ?_); refine goesL_ (some 10) rfl rfl Tryd.func11 (by kernel_rfl) rfl #[] rfl aP ?_; (with_reducible refine (flonglaw05_known.calls k  t163 _ ?side1 A3.out).mono ?_); (case side1 => exact GOK.of_below (GOK.sub HG.out rfl) bA); rintro e w4 ⟨rfl, hb⟩; refine ⟨_, rfl, ?_⟩; replace HB := Aside0.mk (below_step bA hb); (try clear hb); (try clear hb2); (try clear hk); (try clear hi)))
  go_ret
  exact ⟨eW, bA⟩
 ·rw [if_neg c2] at H
  have c2b0 : decide (800 < (a0.size : Int)) = false := decide_eq_false c2
  have c2b1 : decide (800 < a0.size) = false := decide_eq_false (by omega)
  clear c2
  replace H := Option.bind_eq_some_iff.mp H
  obtain ⟨⟨t164, t165⟩, A50, H⟩ := H
  replace H : ((flongref05_Args.f k a0).bind fun bt168 => ((flongref05_SameTexts.f k t164 bt168.1).bind fun t172 => (if t172 = true then (if (t165 == bt168.2) = true then ((lines_Quoted.f a0).bind fun t173 => ((flongref05_Quoted.f k a0).bind fun t174 => (if t173.toList = t174.toList then ((flonglaw05_known.f k).bind fun t175 => (some t175)) else (some false)))) else (some false)) else (some false)))) = some r := H
  have A5 := Aside0.mk A50
  clear A50
  replace H := Option.bind_eq_some_iff.mp H
  obtain ⟨⟨t168, t169⟩, A60, H⟩ := H
  replace H : ((flongref05_SameTexts.f k t164 t168).bind fun t172 => (if t172 = true then (if (t165 == t169) = true then ((lines_Quoted.f a0).bind fun t173 => ((flongref05_Quoted.f k a0).bind fun t174 => (if t173.toList = t174.toList then ((flonglaw05_known.f k).bind fun t175 => (some t175)) else (some false)))) else (some false)) else (some false))) = some r := H
  have A6 := Aside0.mk A60
  clear A60
  replace H := Option.bind_eq_some_iff.mp H
  obtain ⟨t172, A70, H⟩ := H
  replace H : (if t172 = true then (if (t165 == t169) = true then ((lines_Quoted.f a0).bind fun t173 => ((flongref05_Quoted.f k a0).bind fun t174 => (if t173.toList = t174.toList then ((flonglaw05_known.f k).bind fun t175 => (some t175)) else (some false)))) else (some false)) else (some false)) = some r := H
  have A7 := Aside0.mk A70
  clear A70
  by_cases c8 : t172 = true
  ·subst c8
   have H1 : (if (t165 == t169) = true then ((lines_Quoted.f a0).bind fun t173 => ((flongref05_Quoted.f k a0).bind fun t174 => (if t173.toList = t174.toList then ((flonglaw05_known.f k).bind fun t175 => (some t175)) else (some false)))) else (some false)) = some r := by rw [if_pos rfl] at H; exact H
   clear H
   have H := H1
   clear H1
   by_cases c9 : (t165 == t169) = true
   ·rw [if_pos c9] at H
    have c9b0 : (t165 == t169) = true := c9
    (try (have c9b1 : decide (t165 = t169) = true := by simpa using c9))
    (try (have c9b2 : (t165 == t169) = true := by simpa using c9))
    clear c9
    replace H := Option.bind_eq_some_iff.mp H
    obtain ⟨t173, A100, H⟩ := H
    replace H : ((flongref05_Quoted.f k a0).bind fun t174 => (if t173.toList = t174.toList then ((flonglaw05_known.f k).bind fun t175 => (some t175)) else (some false))) = some r := H
    have A10 := Aside0.mk A100
    clear A100
    replace H := Option.bind_eq_some_iff.mp H
    obtain ⟨t174, A110, H⟩ := H
    replace H : (if t173.toList = t174.toList then ((flonglaw05_known.f k).bind fun t175 => (some t175)) else (some false)) = some r := H
    have A11 := Aside0.mk A110
    clear A110
    by_cases c12 : t173.toList = t174.toList
    ·rw [if_pos c12] at H
     have c12b0 : (t173.toList == t174.toList) = true := beq_iff_eq.mpr c12
     have c12b1 : (t173.toList != t174.toList) = false := bne_eq_false_iff_eq.mpr c12
     clear c12
     replace H := Option.bind_eq_some_iff.mp H
     obtain ⟨t175, A130, H⟩ := H
     replace H : (some t175) = some r := H
     have A13 := Aside0.mk A130
     clear A130
     obtain rfl := Option.some.inj H
     go_enter Tryd.func3, Tryd.ntmps3
     go_wp2_with (first | ((with_reducible refine gate_callee (f := 12) rfl ?_); refine goesL_ (some 13) rfl rfl Tryd.func12 (by kernel_rfl) rfl #[.string a0] rfl aP ?_; (with_reducible refine (lines_Args.calls k a0 t164 t165 _ A5.out).mono ?_); rintro e w14 ⟨v166, rfl, ho0, hb⟩; refine ⟨_, rfl, ?_⟩; have HO167 := Aside0.mk (Kd.R_lower ho0 (below_size bA)); replace HB := Aside0.mk (below_step bA hb); (try clear hb); (try clear hb2); (try clear hk); (try clear hi); (try clear ho0)) | ((with_reducible refine gate_callee (f := 13) rfl ?_); refine goesL_ (some 18) rfl rfl Tryd.func13 (by kernel_rfl) rfl #[.string a0] rfl aP ?_; (with_reducible refine (flongref05_Args.calls k a0 t168 t169 _ A6.out).mono ?_); rintro e w15 ⟨v170, rfl, ho0, hb⟩; refine ⟨_, rfl, ?_⟩; have n0_ := Aside0.mk (Kd.R_elder' (kR HO167) (Kd.R_base ho0) hb); have n1_ := Aside0.mk (Kd.R_lower (Kd.R_new' ho0 (Kd.R_lt (kR HO167))) (below_size bA)); have n2_ := Aside0.mk (below_step bA hb); clear HO167; clear HB; have HO167 := n0_; have HO171 := n1_; have HB := n2_; clear n0_ n1_ n2_; (try clear hb); (try clear hb2); (try clear hk); (try clear hi); (try clear ho0); obtain ⟨Ao16, co16, eo16⟩ := Kd.R_slice HO167.out; subst eo16; obtain ⟨Ao17, co17, eo17⟩ := Kd.R_slice HO171.out; subst eo17) | ((with_reducible refine gate_callee (f := 14) rfl ?_); refine goesL_ (some 23) rfl rfl Tryd.func14 (by kernel_rfl) rfl #[.slice Ao16 t164.length co16, .slice Ao17 t168.length co17] rfl aP ?_; (with_reducible refine (flongref05_SameTexts.calls k _ _ t164 _ _ t168 true _ ?side1 ?side2 ?side3 ?side4 A7.out).mono ?_); (case side1 => repeat (first | exact (Kd.R_reads' HO167.out).2.2 | (with_reducible refine Kd.C_alloc ?_ _) | (with_reducible refine Kd.C_drewN ?_ _) | (with_reducible refine Kd.C_drew ?_))); (case side2 => exact (Kd.R_reads' HO167.out).2.1); (case side3 => repeat (first | exact (Kd.R_reads' HO171.out).2.2 | (with_reducible refine Kd.C_alloc ?_ _) | (with_reducible refine Kd.C_drewN ?_ _) | (with_reducible refine Kd.C_drew ?_))); (case side4 => exact (Kd.R_reads' HO171.out).2.1); rintro e w' ⟨rfl, ⟨nd, rfl⟩⟩; refine ⟨_, rfl, ?_⟩) | (go_at_call 15; (with_reducible refine (lines_Quoted.calls a0 t173 _ ?side1 A10.out).mono ?_); (case side1 => exact GOK.of_below (GOK.sub HG.out rfl) bA); rintro e w18 ⟨rfl, hb⟩; replace HO167 := Aside0.mk (Kd.R_below (kR HO167) hb); replace HO171 := Aside0.mk (Kd.R_below (kR HO171) hb); replace HB := Aside0.mk (below_step bA hb); (try clear hb); (try clear hb2); (try clear hk); (try clear hi)) | (go_at_call 16; (with_reducible refine (flongref05_Quoted.calls k a0 t174 _ A11.out).mono ?_); rintro e w' ⟨rfl, ⟨nd, rfl⟩⟩) | (go_at_call 11; (with_reducible refine (flonglaw05_known.calls k  t175 _ ?side1 A13.out).mono ?_); (case side1 => exact GOK.of_below (GOK.sub HG.out rfl) bA); rintro e w19 ⟨rfl, hb⟩; replace HO167 := Aside0.mk (Kd.R_below (kR HO167) hb); replace HO171 := Aside0.mk (Kd.R_below (kR HO171) hb); replace HB := Aside0.mk (below_step bA hb); (try clear hb); (try clear hb2); (try clear hk); (try clear hi)))
     go_ret
     exact ⟨eW, bA⟩
    ·rw [if_neg c12] at H
     have c12b0 : (t173.toList == t174.toList) = false := beq_eq_false_iff_ne.mpr c12
     have c12b1 : (t173.toList != t174.toList) = true := bne_iff_ne.mpr c12
     obtain rfl := Option.some.inj H
     go_enter Tryd.func3, Tryd.ntmps3
     go_wp2_with (first | ((with_reducible refine gate_callee (f := 12) rfl ?_); refine goesL_ (some 13) rfl rfl Tryd.func12 (by kernel_rfl) rfl #[.string a0] rfl aP ?_; (with_reducible refine (lines_Args.calls k a0 t164 t165 _ A5.out).mono ?_); rintro e w20 ⟨v166, rfl, ho0, hb⟩; refine ⟨_, rfl, ?_⟩; have HO167 := Aside0.mk (Kd.R_lower ho0 (below_size bA)); replace HB := Aside0.mk (below_step bA hb); (try clear hb); (try clear hb2); (try clear hk); (try clear hi); (try clear ho0)) | ((with_reducible refine gate_callee (f := 13) rfl ?_); refine goesL_ (some 18) rfl rfl Tryd.func13 (by kernel_rfl) rfl #[.string a0] rfl aP ?_; (with_reducible refine (flongref05_Args.calls k a0 t168 t169 _ A6.out).mono ?_); rintro e w21 ⟨v170, rfl, ho0, hb⟩; refine ⟨_, rfl, ?_⟩; have n0_ := Aside0.mk (Kd.R_elder' (kR HO167) (Kd.R_base ho0) hb); have n1_ := Aside0.mk (Kd.R_lower (Kd.R_new' ho0 (Kd.R_lt (kR HO167))) (below_size bA)); have n2_ := Aside0.mk (below_step bA hb); clear HO167; clear HB; have HO167 := n0_; have HO171 := n1_; have HB := n2_; clear n0_ n1_ n2_; (try clear hb); (try clear hb2); (try clear hk); (try clear hi); (try clear ho0); obtain ⟨Ao22, co22, eo22⟩ := Kd.R_slice HO167.out; subst eo22; obtain ⟨Ao23, co23, eo23⟩ := Kd.R_slice HO171.out; subst eo23) | ((with_reducible refine gate_callee (f := 14) rfl ?_); refine goesL_ (some 23) rfl rfl Tryd.func14 (by kernel_rfl) rfl #[.slice Ao22 t164.length co22, .slice Ao23 t168.length co23] rfl aP ?_; (with_reducible refine (flongref05_SameTexts.calls k _ _ t164 _ _ t168 true _ ?side1 ?side2 ?side3 ?side4 A7.out).mono ?_); (case side1 => repeat (first | exact (Kd.R_reads' HO167.out).2.2 | (with_reducible refine Kd.C_alloc ?_ _) | (with_reducible refine Kd.C_drewN ?_ _) | (with_reducible refine Kd.C_drew ?_))); (case side2 => exact (Kd.R_reads' HO167.out).2.1); (case side3 => repeat (first | exact (Kd.R_reads' HO171.out).2.2 | (with_reducible refine Kd.C_alloc ?_ _) | (with_reducible refine Kd.C_drewN ?_ _) | (with_reducible refine Kd.C_drew ?_))); (case side4 => exact (Kd.R_reads' HO171.out).2.1); rintro e w' ⟨rfl, ⟨nd, rfl⟩⟩; refine ⟨_, rfl, ?_⟩) | (go_at_call 15; (with_reducible refine (lines_Quoted.calls a0 t173 _ ?side1 A10.out).mono ?_); (case side1 => exact GOK.of_below (GOK.sub HG.out rfl) bA); rintro e w24 ⟨rfl, hb⟩; replace HO167 := Aside0.mk (Kd.R_below (kR HO167) hb); replace HO171 := Aside0.mk (Kd.R_below (kR HO171) hb); replace HB := Aside0.mk (below_step bA hb); (try clear hb); (try clear hb2); (try clear hk); (try clear hi)) | (go_at_call 16; (with_reducible refine (flongref05_Quoted.calls k a0 t174 _ A11.out).mono ?_); rintro e w' ⟨rfl, ⟨nd, rfl⟩⟩))
     go_ret
     exact ⟨eW, bA⟩
   ·rw [if_neg c9] at H
    have c9b0 : (t165 == t169) = false := by simpa using c9
    (try (have c9b1 : decide (t165 = t169) = false := by simpa using c9))
    (try (have c9b2 : (t165 == t169) = false := by simpa using c9))
    (try (have c9b3 : ¬ (t165 = t169) := by simpa using c9))
    clear c9
    obtain rfl := Option.some.inj H
    go_enter Tryd.func3, Tryd.ntmps3
    go_wp2_with (first | ((with_reducible refine gate_callee (f := 12) rfl ?_); refine goesL_ (some 13) rfl rfl Tryd.func12 (by kernel_rfl) rfl #[.string a0] rfl aP ?_; (with_reducible refine (lines_Args.calls k a0 t164 t165 _ A5.out).mono ?_); rintro e w25 ⟨v166, rfl, ho0, hb⟩; refine ⟨_, rfl, ?_⟩; have HO167 := Aside0.mk (Kd.R_lower ho0 (below_size bA)); replace HB := Aside0.mk (below_step bA hb); (try clear hb); (try clear hb2); (try clear hk); (try clear hi); (try clear ho0)) | ((with_reducible refine gate_callee (f := 13) rfl ?_); refine goesL_ (some 18) rfl rfl Tryd.func13 (by kernel_rfl) rfl #[.string a0] rfl aP ?_; (with_reducible refine (flongref05_Args.calls k a0 t168 t169 _ A6.out).mono ?_); rintro e w26 ⟨v170, rfl, ho0, hb⟩; refine ⟨_, rfl, ?_⟩; have n0_ := Aside0.mk (Kd.R_elder' (kR HO167) (Kd.R_base ho0) hb); have n1_ := Aside0.mk (Kd.R_lower (Kd.R_new' ho0 (Kd.R_lt (kR HO167))) (below_size bA)); have n2_ := Aside0.mk (below_step bA hb); clear HO167; clear HB; have HO167 := n0_; have HO171 := n1_; have HB := n2_; clear n0_ n1_ n2_; (try clear hb); (try clear hb2); (try clear hk); (try clear hi); (try clear ho0); obtain ⟨Ao27, co27, eo27⟩ := Kd.R_slice HO167.out; subst eo27; obtain ⟨Ao28, co28, eo28⟩ := Kd.R_slice HO171.out; subst eo28) | ((with_reducible refine gate_callee (f := 14) rfl ?_); refine goesL_ (some 23) rfl rfl Tryd.func14 (by kernel_rfl) rfl #[.slice Ao27 t164.length co27, .slice Ao28 t168.length co28] rfl aP ?_; (with_reducible refine (flongref05_SameTexts.calls k _ _ t164 _ _ t168 true _ ?side1 ?side2 ?side3 ?side4 A7.out).mono ?_); (case side1 => repeat (first | exact (Kd.R_reads' HO167.out).2.2 | (with_reducible refine Kd.C_alloc ?_ _) | (with_reducible refine Kd.C_drewN ?_ _) | (with_reducible refine Kd.C_drew ?_))); (case side2 => exact (Kd.R_reads' HO167.out).2.1); (case side3 => repeat (first | exact (Kd.R_reads' HO171.out).2.2 | (with_reducible refine Kd.C_alloc ?_ _) | (with_reducible refine Kd.C_drewN ?_ _) | (with_reducible refine Kd.C_drew ?_))); (case side4 => exact (Kd.R_reads' HO171.out).2.1); rintro e w' ⟨rfl, ⟨nd, rfl⟩⟩; refine ⟨_, rfl, ?_⟩))
    go_ret
    exact ⟨eW, bA⟩
  ·replace c8 := Bool.eq_false_iff.mpr c8
   subst c8
   have H1 : (some false) = some r := by rw [if_neg (show ¬ (false = true) by decide)] at H; exact H
   clear H
   have H := H1
   clear H1
   obtain rfl := Option.some.inj H
   go_enter Tryd.func3, Tryd.ntmps3
   go_wp2_with (first | ((with_reducible refine gate_callee (f := 12) rfl ?_); refine goesL_ (some 13) rfl rfl Tryd.func12 (by kernel_rfl) rfl #[.string a0] rfl aP ?_; (with_reducible refine (lines_Args.calls k a0 t164 t165 _ A5.out).mono ?_); rintro e w29 ⟨v166, rfl, ho0, hb⟩; refine ⟨_, rfl, ?_⟩; have HO167 := Aside0.mk (Kd.R_lower ho0 (below_size bA)); replace HB := Aside0.mk (below_step bA hb); (try clear hb); (try clear hb2); (try clear hk); (try clear hi); (try clear ho0)) | ((with_reducible refine gate_callee (f := 13) rfl ?_); refine goesL_ (some 18) rfl rfl Tryd.func13 (by kernel_rfl) rfl #[.string a0] rfl aP ?_; (with_reducible refine (flongref05_Args.calls k a0 t168 t169 _ A6.out).mono ?_); rintro e w30 ⟨v170, rfl, ho0, hb⟩; refine ⟨_, rfl, ?_⟩; have n0_ := Aside0.mk (Kd.R_elder' (kR HO167) (Kd.R_base ho0) hb); have n1_ := Aside0.mk (Kd.R_lower (Kd.R_new' ho0 (Kd.R_lt (kR HO167))) (below_size bA)); have n2_ := Aside0.mk (below_step bA hb); clear HO167; clear HB; have HO167 := n0_; have HO171 := n1_; have HB := n2_; clear n0_ n1_ n2_; (try clear hb); (try clear hb2); (try clear hk); (try clear hi); (try clear ho0); obtain ⟨Ao31, co31, eo31⟩ := Kd.R_slice HO167.out; subst eo31; obtain ⟨Ao32, co32, eo32⟩ := Kd.R_slice HO171.out; subst eo32) | ((with_reducible refine gate_callee (f := 14) rfl ?_); refine goesL_ (some 23) rfl rfl Tryd.func14 (by kernel_rfl) rfl #[.slice Ao31 t164.length co31, .slice Ao32 t168.length co32] rfl aP ?_; (with_reducible refine (flongref05_SameTexts.calls k _ _ t164 _ _ t168 false _ ?side1 ?side2 ?side3 ?side4 A7.out).mono ?_); (case side1 => repeat (first | exact (Kd.R_reads' HO167.out).2.2 | (with_reducible refine Kd.C_alloc ?_ _) | (with_reducible refine Kd.C_drewN ?_ _) | (with_reducible refine Kd.C_drew ?_))); (case side2 => exact (Kd.R_reads' HO167.out).2.1); (case side3 => repeat (first | exact (Kd.R_reads' HO171.out).2.2 | (with_reducible refine Kd.C_alloc ?_ _) | (with_reducible refine Kd.C_drewN ?_ _) | (with_reducible refine Kd.C_drew ?_))); (case side4 => exact (Kd.R_reads' HO171.out).2.1); rintro e w' ⟨rfl, ⟨nd, rfl⟩⟩; refine ⟨_, rfl, ?_⟩))
   go_ret
   exact ⟨eW, bA⟩

end Go.Proofs.YtmfkokjbjmahkaaDoor.X
