-- Written by this session's xprint.py (a variant of the kit's printer). Not trusted: Lean checks it.
import Derived.Test.YtmfkokjbjmahkaaDoorX0
import Derived.Test.YtmfkokjbjmahkaaDoorSlim
import Derived.Test.YtmfkokjbjmahkaaDoorX2
import Derived.Test.YtmfkokjbjmahkaaDoorX4
import Derived.Test.YtmfkokjbjmahkaaDoorHandA
namespace Go.Proofs.YtmfkokjbjmahkaaDoor.X
open Go.Proofs.YtmfkokjbjmahkaaDoor.Hand
open Go.RowKit Go.Proofs.YtmfkokjbjmahkaaDoorW.PrintWords Go.Proofs.YtmfkokjbjmahkaaDoorW.PrintLast Go.Proofs.YtmfkokjbjmahkaaDoorW.PrintMore
attribute [local go_sem] max2_int min2_int max_two min_two max_three min_three max_four min_four   -- for this text's walks alone
set_option linter.unusedVariables false
set_option maxHeartbeats 8000000
set_option maxRecDepth 100000
set_option linter.unusedSimpArgs false

/-! ### flonglaw05_LinesQuoted: function 4 -/
def flonglaw05_LinesQuoted.l0 : Nat → List ByteArray → Int → ByteArray → Int → Option (Bool)
 | 0, _, _, _, _ => none
 | k + 1, x0, x3, x4, x5 => if x5 < (x0.length : Int) then (if 0 ≤ x5 then (if (wrap64 (x3 + ((rdOf ByteArray.empty x0 x5).size : Int))) > 800 then ((flonglaw05_known.f k).bind fun t158 => (some t158)) else ((lines_Quoted.f (rdOf ByteArray.empty x0 x5)).bind fun t160 => (if x4.size + t160.size ≤ 9223372036854775807 then (if (x4 ++ t160).size + 2 ≤ 9223372036854775807 then (flonglaw05_LinesQuoted.l0 k x0 (wrap64 (x3 + ((rdOf ByteArray.empty x0 x5).size : Int))) ((x4 ++ t160) ++ (⟨#[32, 32]⟩ : ByteArray)) (wrap64 (x5 + 1))) else (none)) else (none)))) else (none)) else ((lines_Args.f k x4).bind fun bt151 => (if bt151.2 = true then ((flongref05_SameTexts.f k bt151.1 x0).bind fun t155 => (if t155 = true then ((flonglaw05_known.f k).bind fun t156 => (some t156)) else (some false))) else (some false)))
def flonglaw05_LinesQuoted.f (k : Nat) (l0 : List ByteArray) : Option (Bool) := flonglaw05_LinesQuoted.l0 k l0 0 (⟨#[32]⟩ : ByteArray) 0
theorem flonglaw05_LinesQuoted.mono_l : ∀ k, (∀ y0 y1 y2 y3, LeO (flonglaw05_LinesQuoted.l0 k y0 y1 y2 y3) (flonglaw05_LinesQuoted.l0 (k + 1) y0 y1 y2 y3))
 | 0 => fun _ _ _ _ r h => by simp [flonglaw05_LinesQuoted.l0] at h
 | k + 1 => by
  have ih0 := flonglaw05_LinesQuoted.mono_l k
  ·intro y0 y1 y2 y3
   unfold flonglaw05_LinesQuoted.l0
   repeat' first
   | (with_reducible exact ih0 _ _ _ _)
   | (with_reducible exact flonglaw05_known.mono _)
   | (with_reducible exact flongref05_SameTexts.mono _ _ _)
   | (with_reducible exact lines_Args.mono _ _)
   | (with_reducible exact LeO.refl _)
   | (with_reducible exact LeO.none _)
   | (with_reducible refine LeO.ite ?_ ?_)
   | (with_reducible refine LeO.bind ?_ (fun _ => ?_))
theorem flonglaw05_LinesQuoted.mono : ∀ a0 k, LeO (flonglaw05_LinesQuoted.f k a0) (flonglaw05_LinesQuoted.f (k + 1) a0) := by
 intro a0 k
 have ih0 := flonglaw05_LinesQuoted.mono_l k
 unfold flonglaw05_LinesQuoted.f
 repeat' first
   | (with_reducible exact ih0 _ _ _ _)
   | (with_reducible exact flonglaw05_known.mono _)
   | (with_reducible exact flongref05_SameTexts.mono _ _ _)
   | (with_reducible exact lines_Args.mono _ _)
   | (with_reducible exact LeO.refl _)
   | (with_reducible exact LeO.none _)
   | (with_reducible refine LeO.ite ?_ ?_)
   | (with_reducible refine LeO.bind ?_ (fun _ => ?_))
theorem flonglaw05_LinesQuoted.calls (k : Nat) (A0 : Option Addr) (c0 : Nat) (l0 : List ByteArray) (r : Bool) (w : World) (hr0 : Kd.C Kd.string w A0 l0.length l0) (hc0 : l0.length ≤ c0) (hG : GOK [0] w) (h : flonglaw05_LinesQuoted.f k l0 = some r) :
  Calls Tryd.prog 4 #[.slice A0 l0.length c0] w fun e w' => e = .returned (.bool r) ∧ Below w.heap.size w w' := by
 have HG := Aside0.mk hG
 clear hG
 have HR0 := Aside0.mk hr0
 have HC0 := Aside0.mk hc0
 clear hr0 hc0
 have HB := Aside0.mk (Below.refl w.heap.size w)
 have H : (flonglaw05_LinesQuoted.l0 k l0 0 (⟨#[32]⟩ : ByteArray) 0) = some r := h
 clear h
 have H' := Aside0.mk H
 clear H
 go_enter Tryd.func4, Tryd.ntmps4
 go_wp2
 go_loopg [3, 4, 5] k (fun kq v3 v4 v5 w' => ∃ (x3_1 : Int) (x4_1 : ByteArray) (x5_1 : Int), v3 = .int .i64 x3_1 ∧ v4 = .string x4_1 ∧ v5 = .int .i64 x5_1 ∧ Aside0 (flonglaw05_LinesQuoted.l0 kq l0 x3_1 x4_1 x5_1 = some r) ∧ Aside0 (kq ≤ k) ∧ Aside0 (Below w.heap.size w w'))
 case atStart => exact ⟨(0), ((⟨#[32]⟩ : ByteArray)), (0), sA, sA, sA, H', ⟨Nat.le_refl _⟩, ⟨bA⟩⟩
 case round =>
  clear H'
  obtain ⟨x3_1, x4_1, x5_1, rfl, rfl, rfl, HA, HK1, HB⟩ := hrel
  cases gk with
  | zero => exact absurd HA.out (by simp [flonglaw05_LinesQuoted.l0])
  | succ k1 =>
   have H := HA.out
   clear HA
   simp only [flonglaw05_LinesQuoted.l0] at H
   by_cases c2 : x5_1 < (l0.length : Int)
   ·rw [if_pos c2] at H
    have c2b0 : decide (x5_1 < (l0.length : Int)) = true := decide_eq_true c2
    clear c2
    by_cases c3 : 0 ≤ x5_1
    ·rw [if_pos c3] at H
     have c3b0 : decide (0 ≤ x5_1) = true := decide_eq_true c3
     clear c3
     by_cases c4 : (wrap64 (x3_1 + ((rdOf ByteArray.empty l0 x5_1).size : Int))) > 800
     ·rw [if_pos c4] at H
      have c4b0 : decide (800 < (wrap64 (x3_1 + ((rdOf ByteArray.empty l0 x5_1).size : Int)))) = true := decide_eq_true c4
      clear c4
      replace H := Option.bind_eq_some_iff.mp H
      obtain ⟨t158, A50, H⟩ := H
      replace H : (some t158) = some r := H
      have A5 := Aside0.mk A50
      clear A50
      obtain rfl := Option.some.inj H
      have p157 : 0 ≤ (x5_1 : Int) := of_decide_eq_true asA
      have q157 : x5_1 < (l0.length : Int) := of_decide_eq_true asA
      obtain ⟨ad157, e157, hx157_0⟩ := Kd.at_string HR0.out x5_1 p157 q157
      cases e157
      replace hx157_0 := (HB.out.cell (World.block_lt_of_cell? w _ hx157_0)).trans hx157_0
      replace p157 := eq_true p157
      replace q157 := eq_true q157
      go_wp2_with (first | ((with_reducible refine gate_callee (f := 11) rfl ?_); refine goesL_ (some 23) rfl rfl Tryd.func11 (by kernel_rfl) rfl #[] rfl aP ?_; (with_reducible refine (flonglaw05_known.calls k1  t158 _ ?side1 A5.out).mono ?_); (case side1 => exact GOK.of_below (GOK.sub HG.out rfl) bA); rintro e w6 ⟨rfl, hb⟩; refine ⟨_, rfl, ?_⟩; replace HB := Aside0.mk (below_step bA hb); (try clear hb); (try clear hb2); (try clear hk); (try clear hi)))
      go_ret
      exact ⟨eW, bA⟩
     ·rw [if_neg c4] at H
      have c4b0 : decide (800 < (wrap64 (x3_1 + ((rdOf ByteArray.empty l0 x5_1).size : Int)))) = false := decide_eq_false c4
      clear c4
      replace H := Option.bind_eq_some_iff.mp H
      obtain ⟨t160, A70, H⟩ := H
      replace H : (if x4_1.size + t160.size ≤ 9223372036854775807 then (if (x4_1 ++ t160).size + 2 ≤ 9223372036854775807 then (flonglaw05_LinesQuoted.l0 k1 l0 (wrap64 (x3_1 + ((rdOf ByteArray.empty l0 x5_1).size : Int))) ((x4_1 ++ t160) ++ (⟨#[32, 32]⟩ : ByteArray)) (wrap64 (x5_1 + 1))) else (none)) else (none)) = some r := H
      have A7 := Aside0.mk A70
      clear A70
      by_cases c8 : x4_1.size + t160.size ≤ 9223372036854775807
      ·rw [if_pos c8] at H
       have c8b0 := eq_true c8
       have c8b1 : decide (x4_1.size + t160.size ≤ 9223372036854775807) = true := decide_eq_true c8
       try have c8b2 : (9223372036854775807 < x4_1.size + t160.size) = False := eq_false (Nat.not_lt.2 c8)
       by_cases c9 : (x4_1 ++ t160).size + 2 ≤ 9223372036854775807
       ·rw [if_pos c9] at H
        have c9b0 := eq_true c9
        have c9b1 : decide ((x4_1 ++ t160).size + 2 ≤ 9223372036854775807) = true := decide_eq_true c9
        try have c9b2 : (9223372036854775807 < (x4_1 ++ t160).size + 2) = False := eq_false (Nat.not_lt.2 c9)
        (try (have c9n := c9; simp only [ByteArray.size_append'] at c9n; have c9b3 := eq_false (Nat.not_lt.2 c9n); have c9b4 := eq_true c9n; clear c9n))
        have H' := Aside0.mk H
        clear H
        have p157 : 0 ≤ (x5_1 : Int) := of_decide_eq_true asA
        have q157 : x5_1 < (l0.length : Int) := of_decide_eq_true asA
        obtain ⟨ad157, e157, hx157_0⟩ := Kd.at_string HR0.out x5_1 p157 q157
        cases e157
        replace hx157_0 := (HB.out.cell (World.block_lt_of_cell? w _ hx157_0)).trans hx157_0
        replace p157 := eq_true p157
        replace q157 := eq_true q157
        have p159 : 0 ≤ (x5_1 : Int) := of_decide_eq_true asA
        have q159 : x5_1 < (l0.length : Int) := of_decide_eq_true asA
        obtain ⟨ad159, e159, hx159_0⟩ := Kd.at_string HR0.out x5_1 p159 q159
        obtain rfl : ad157 = ad159 := (by injection e159)
        replace hx159_0 := (HB.out.cell (World.block_lt_of_cell? w _ hx159_0)).trans hx159_0
        replace p159 := eq_true p159
        replace q159 := eq_true q159
        go_wp2_with (first | ((with_reducible refine gate_callee (f := 15) rfl ?_); refine goesL_ (some 29) rfl rfl Tryd.func15 (by kernel_rfl) rfl #[.string (rdOf ByteArray.empty l0 x5_1)] rfl aP ?_; (with_reducible refine (lines_Quoted.calls (rdOf ByteArray.empty l0 x5_1) t160 _ ?side1 A7.out).mono ?_); (case side1 => exact GOK.of_below (GOK.sub HG.out rfl) bA); rintro e w10 ⟨rfl, hb⟩; refine ⟨_, rfl, ?_⟩; replace HB := Aside0.mk (below_step bA hb); (try clear hb); (try clear hb2); (try clear hk); (try clear hi)))
        go_roundg k1
        case measure => have := HK1.out; omega
        case rel => exact ⟨(wrap64 (x3_1 + ((rdOf ByteArray.empty l0 x5_1).size : Int))), ((x4_1 ++ t160) ++ (⟨#[32, 32]⟩ : ByteArray)), (wrap64 (x5_1 + 1)), sA, sA, sA, H', ⟨by have := HK1.out; omega⟩, ⟨bA⟩⟩
       ·rw [if_neg c9] at H
        exact absurd H (by simp)
      ·rw [if_neg c8] at H
       exact absurd H (by simp)
    ·rw [if_neg c3] at H
     exact absurd H (by simp)
   ·rw [if_neg c2] at H
    have c2b0 : decide (x5_1 < (l0.length : Int)) = false := decide_eq_false c2
    clear c2
    replace H := Option.bind_eq_some_iff.mp H
    obtain ⟨⟨t151, t152⟩, A110, H⟩ := H
    replace H : (if t152 = true then ((flongref05_SameTexts.f k1 t151 l0).bind fun t155 => (if t155 = true then ((flonglaw05_known.f k1).bind fun t156 => (some t156)) else (some false))) else (some false)) = some r := H
    have A11 := Aside0.mk A110
    clear A110
    by_cases c12 : t152 = true
    ·subst c12
     have H1 : ((flongref05_SameTexts.f k1 t151 l0).bind fun t155 => (if t155 = true then ((flonglaw05_known.f k1).bind fun t156 => (some t156)) else (some false))) = some r := by rw [if_pos rfl] at H; exact H
     clear H
     have H := H1
     clear H1
     replace H := Option.bind_eq_some_iff.mp H
     obtain ⟨t155, A130, H⟩ := H
     replace H : (if t155 = true then ((flonglaw05_known.f k1).bind fun t156 => (some t156)) else (some false)) = some r := H
     have A13 := Aside0.mk A130
     clear A130
     by_cases c14 : t155 = true
     ·subst c14
      have H1 : ((flonglaw05_known.f k1).bind fun t156 => (some t156)) = some r := by rw [if_pos rfl] at H; exact H
      clear H
      have H := H1
      clear H1
      replace H := Option.bind_eq_some_iff.mp H
      obtain ⟨t156, A150, H⟩ := H
      replace H : (some t156) = some r := H
      have A15 := Aside0.mk A150
      clear A150
      obtain rfl := Option.some.inj H
      go_wp2_with (first | ((with_reducible refine gate_callee (f := 12) rfl ?_); refine goesL_ (some 34) rfl rfl Tryd.func12 (by kernel_rfl) rfl #[.string x4_1] rfl aP ?_; (with_reducible refine (lines_Args.calls k1 x4_1 t151 true _ A11.out).mono ?_); rintro e w16 ⟨v153, rfl, ho0, hb⟩; refine ⟨_, rfl, ?_⟩; have HO154 := Aside0.mk (Kd.R_lower ho0 (below_size bA)); replace HB := Aside0.mk (below_step bA hb); (try clear hb); (try clear hb2); (try clear hk); (try clear hi); (try clear ho0); obtain ⟨Ao17, co17, eo17⟩ := Kd.R_slice HO154.out; subst eo17) | (go_at_call 14; (with_reducible refine (flongref05_SameTexts.calls k1 _ _ t151 _ _ l0 true _ ?side1 ?side2 ?side3 ?side4 A13.out).mono ?_); (case side1 => repeat (first | exact (Kd.R_reads' HO154.out).2.2 | (with_reducible refine Kd.C_alloc ?_ _) | (with_reducible refine Kd.C_drewN ?_ _) | (with_reducible refine Kd.C_drew ?_))); (case side2 => exact (Kd.R_reads' HO154.out).2.1); (case side3 => repeat (first | exact (Kd.C_below HR0.out HB.out) | (with_reducible refine Kd.C_alloc ?_ _) | (with_reducible refine Kd.C_drewN ?_ _) | (with_reducible refine Kd.C_drew ?_))); (case side4 => exact HC0.out); rintro e w' ⟨rfl, ⟨nd, rfl⟩⟩) | (go_at_call 11; (with_reducible refine (flonglaw05_known.calls k1  t156 _ ?side1 A15.out).mono ?_); (case side1 => exact GOK.of_below (GOK.sub HG.out rfl) bA); rintro e w18 ⟨rfl, hb⟩; replace HO154 := Aside0.mk (Kd.R_below (kR HO154) hb); replace HB := Aside0.mk (below_step bA hb); (try clear hb); (try clear hb2); (try clear hk); (try clear hi)))
      go_ret
      exact ⟨eW, bA⟩
     ·replace c14 := Bool.eq_false_iff.mpr c14
      subst c14
      have H1 : (some false) = some r := by rw [if_neg (show ¬ (false = true) by decide)] at H; exact H
      clear H
      have H := H1
      clear H1
      obtain rfl := Option.some.inj H
      go_wp2_with (first | ((with_reducible refine gate_callee (f := 12) rfl ?_); refine goesL_ (some 34) rfl rfl Tryd.func12 (by kernel_rfl) rfl #[.string x4_1] rfl aP ?_; (with_reducible refine (lines_Args.calls k1 x4_1 t151 true _ A11.out).mono ?_); rintro e w19 ⟨v153, rfl, ho0, hb⟩; refine ⟨_, rfl, ?_⟩; have HO154 := Aside0.mk (Kd.R_lower ho0 (below_size bA)); replace HB := Aside0.mk (below_step bA hb); (try clear hb); (try clear hb2); (try clear hk); (try clear hi); (try clear ho0); obtain ⟨Ao20, co20, eo20⟩ := Kd.R_slice HO154.out; subst eo20) | (go_at_call 14; (with_reducible refine (flongref05_SameTexts.calls k1 _ _ t151 _ _ l0 false _ ?side1 ?side2 ?side3 ?side4 A13.out).mono ?_); (case side1 => repeat (first | exact (Kd.R_reads' HO154.out).2.2 | (with_reducible refine Kd.C_alloc ?_ _) | (with_reducible refine Kd.C_drewN ?_ _) | (with_reducible refine Kd.C_drew ?_))); (case side2 => exact (Kd.R_reads' HO154.out).2.1); (case side3 => repeat (first | exact (Kd.C_below HR0.out HB.out) | (with_reducible refine Kd.C_alloc ?_ _) | (with_reducible refine Kd.C_drewN ?_ _) | (with_reducible refine Kd.C_drew ?_))); (case side4 => exact HC0.out); rintro e w' ⟨rfl, ⟨nd, rfl⟩⟩))
      go_ret
      exact ⟨eW, bA⟩
    ·replace c12 := Bool.eq_false_iff.mpr c12
     subst c12
     have H1 : (some false) = some r := by rw [if_neg (show ¬ (false = true) by decide)] at H; exact H
     clear H
     have H := H1
     clear H1
     obtain rfl := Option.some.inj H
     go_wp2_with (first | ((with_reducible refine gate_callee (f := 12) rfl ?_); refine goesL_ (some 34) rfl rfl Tryd.func12 (by kernel_rfl) rfl #[.string x4_1] rfl aP ?_; (with_reducible refine (lines_Args.calls k1 x4_1 t151 false _ A11.out).mono ?_); rintro e w21 ⟨v153, rfl, ho0, hb⟩; refine ⟨_, rfl, ?_⟩; have HO154 := Aside0.mk (Kd.R_lower ho0 (below_size bA)); replace HB := Aside0.mk (below_step bA hb); (try clear hb); (try clear hb2); (try clear hk); (try clear hi); (try clear ho0)))
     go_ret
     exact ⟨eW, bA⟩

end Go.Proofs.YtmfkokjbjmahkaaDoor.X
