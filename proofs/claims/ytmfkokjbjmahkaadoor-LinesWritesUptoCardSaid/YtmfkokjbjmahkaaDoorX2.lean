-- Written by this session's xprint.py (a variant of the kit's printer). Not trusted: Lean checks it.
import Derived.Test.YtmfkokjbjmahkaaDoorX0
import Derived.Test.YtmfkokjbjmahkaaDoorSlim
import Derived.WalkMore
import Derived.Test.YtmfkokjbjmahkaaDoorHandA
import Derived.Test.YtmfkokjbjmahkaaDoorHandS
namespace Go.Proofs.YtmfkokjbjmahkaaDoor.X
open Go.Proofs.YtmfkokjbjmahkaaDoor.Hand
open Go.RowKit Go.Proofs.YtmfkokjbjmahkaaDoorW.PrintWords Go.Proofs.YtmfkokjbjmahkaaDoorW.PrintLast Go.Proofs.YtmfkokjbjmahkaaDoorW.PrintMore
attribute [local go_sem] max2_int min2_int max_two min_two max_three min_three max_four min_four   -- for this text's walks alone
set_option linter.unusedVariables false
set_option maxHeartbeats 8000000
set_option maxRecDepth 100000
set_option linter.unusedSimpArgs false

/-! ### lines_Quoted: function 15 -/
def lines_Quoted.f (a0 : ByteArray) : Option (ByteArray) := (strings_ReplaceAll.f a0 (⟨#[34]⟩ : ByteArray) (⟨#[34, 34]⟩ : ByteArray)).bind fun t101 => (if 1 + t101.size ≤ 9223372036854775807 then (if ((⟨#[34]⟩ : ByteArray) ++ t101).size + 1 ≤ 9223372036854775807 then (some (((⟨#[34]⟩ : ByteArray) ++ t101) ++ (⟨#[34]⟩ : ByteArray))) else (none)) else (none))
theorem lines_Quoted.calls (a0 : ByteArray) (r : ByteArray) (w : World) (hG : GOK [0] w) (h : lines_Quoted.f a0 = some r) :
  Calls Tryd.prog 15 #[.string a0] w fun e w' => e = .returned (.string r) ∧ Below w.heap.size w w' := by
 have HG := Aside0.mk hG
 clear hG
 have HB := Aside0.mk (Below.refl w.heap.size w)
 have H : ((strings_ReplaceAll.f a0 (⟨#[34]⟩ : ByteArray) (⟨#[34, 34]⟩ : ByteArray)).bind fun t101 => (if 1 + t101.size ≤ 9223372036854775807 then (if ((⟨#[34]⟩ : ByteArray) ++ t101).size + 1 ≤ 9223372036854775807 then (some (((⟨#[34]⟩ : ByteArray) ++ t101) ++ (⟨#[34]⟩ : ByteArray))) else (none)) else (none))) = some r := h
 clear h
 replace H := Option.bind_eq_some_iff.mp H
 obtain ⟨t101, A20, H⟩ := H
 replace H : (if 1 + t101.size ≤ 9223372036854775807 then (if ((⟨#[34]⟩ : ByteArray) ++ t101).size + 1 ≤ 9223372036854775807 then (some (((⟨#[34]⟩ : ByteArray) ++ t101) ++ (⟨#[34]⟩ : ByteArray))) else (none)) else (none)) = some r := H
 have A2 := Aside0.mk A20
 clear A20
 by_cases c3 : 1 + t101.size ≤ 9223372036854775807
 ·rw [if_pos c3] at H
  have c3b0 := eq_true c3
  have c3b1 : decide (1 + t101.size ≤ 9223372036854775807) = true := decide_eq_true c3
  try have c3b2 : (9223372036854775807 < 1 + t101.size) = False := eq_false (Nat.not_lt.2 c3)
  by_cases c4 : ((⟨#[34]⟩ : ByteArray) ++ t101).size + 1 ≤ 9223372036854775807
  ·rw [if_pos c4] at H
   have c4b0 := eq_true c4
   have c4b1 : decide (((⟨#[34]⟩ : ByteArray) ++ t101).size + 1 ≤ 9223372036854775807) = true := decide_eq_true c4
   try have c4b2 : (9223372036854775807 < ((⟨#[34]⟩ : ByteArray) ++ t101).size + 1) = False := eq_false (Nat.not_lt.2 c4)
   (try (have c4n := c4; simp only [ByteArray.size_append'] at c4n; have c4b3 := eq_false (Nat.not_lt.2 c4n); have c4b4 := eq_true c4n; clear c4n))
   (try (have c4k := c4; simp only [ByteArray.size_append', show (⟨#[34]⟩ : ByteArray).size = 1 from rfl] at c4k; have c4b7 := eq_false (Nat.not_lt.2 c4k); have c4b8 := eq_true c4k; clear c4k))
   obtain rfl := Option.some.inj H
   go_enter Tryd.func15, Tryd.ntmps15
   go_wp2_with (first | ((with_reducible refine gate_callee (f := 29) rfl ?_); refine goesL_ (some 4) rfl rfl Tryd.func29 (by kernel_rfl) rfl #[.string a0, .string (⟨#[34]⟩ : ByteArray), .string (⟨#[34, 34]⟩ : ByteArray)] rfl aP ?_; (with_reducible refine (strings_ReplaceAll.calls a0 (⟨#[34]⟩ : ByteArray) (⟨#[34, 34]⟩ : ByteArray) t101 _ ?side1 A2.out).mono ?_); (case side1 => exact GOK.of_below (GOK.sub HG.out rfl) bA); rintro e w5 ⟨rfl, hb⟩; refine ⟨_, rfl, ?_⟩; replace HB := Aside0.mk (below_step bA hb); (try clear hb); (try clear hb2); (try clear hk); (try clear hi)))
   go_ret
   exact ⟨eW, bA⟩
  ·rw [if_neg c4] at H
   exact absurd H (by simp)
 ·rw [if_neg c3] at H
  exact absurd H (by simp)

/-! ### stringslite_HasSuffix: function 55 -/
def stringslite_HasSuffix.f (a0 : ByteArray) (a1 : ByteArray) : Option (Bool) := if (a0.size : Int) ≥ (a1.size : Int) then (if 0 ≤ (wrap64 ((a0.size : Int) - (a1.size : Int))) then (if (wrap64 ((a0.size : Int) - (a1.size : Int))) ≤ (a0.size : Int) then (some ((a0.extract ((wrap64 ((a0.size : Int) - (a1.size : Int))) : Int).toNat a0.size).toList == a1.toList)) else (none)) else (none)) else (some false)
theorem stringslite_HasSuffix.calls (a0 : ByteArray) (a1 : ByteArray) (r : Bool) (w : World) (h : stringslite_HasSuffix.f a0 a1 = some r) :
  Calls Tryd.prog 55 #[.string a0, .string a1] w fun e w' => e = .returned (.bool r) ∧ Drawn0 w w' := by
 have H : (if (a0.size : Int) ≥ (a1.size : Int) then (if 0 ≤ (wrap64 ((a0.size : Int) - (a1.size : Int))) then (if (wrap64 ((a0.size : Int) - (a1.size : Int))) ≤ (a0.size : Int) then (some ((a0.extract ((wrap64 ((a0.size : Int) - (a1.size : Int))) : Int).toNat a0.size).toList == a1.toList)) else (none)) else (none)) else (some false)) = some r := h
 clear h
 by_cases c3 : (a0.size : Int) ≥ (a1.size : Int)
 ·rw [if_pos c3] at H
  have c3b0 : decide ((a1.size : Int) ≤ (a0.size : Int)) = true := decide_eq_true c3
  have c3b1 : decide (a1.size ≤ a0.size) = true := decide_eq_true (Int.ofNat_le.mp c3)
  clear c3
  obtain ⟨ji4, hji4⟩ : ∃ j_ : Int, (wrap64 ((a0.size : Int) - (a1.size : Int))) = j_ := ⟨_, rfl⟩
  replace H : (if 0 ≤ (ji4) then (if (ji4) ≤ (a0.size : Int) then (some ((a0.extract ((ji4) : Int).toNat a0.size).toList == a1.toList)) else (none)) else (none)) = some r := by first | (rw [hji4] at H; exact H) | (simp only [hji4] at H ⊢; exact H)
  have hji4w : (IntKind.i64.wrap ((a0.size : Int) - (a1.size : Int))) = ji4 := (i64_w _).trans hji4
  by_cases c5 : 0 ≤ (ji4)
  ·rw [if_pos c5] at H
   have c5b0 := eq_true c5
   have c5b1 : decide (0 ≤ (ji4)) = true := decide_eq_true c5
   clear c5
   by_cases c6 : (ji4) ≤ (a0.size : Int)
   ·rw [if_pos c6] at H
    have c6b0 := eq_true c6
    have c6b1 : decide ((ji4) ≤ (a0.size : Int)) = true := decide_eq_true c6
    clear c6
    obtain rfl := Option.some.inj H
    go_enter Tryd.func55, Tryd.ntmps55
    go_wp2
    go_ret
    exact ⟨by first | rfl | (simp; done) | (simp only [← hji4] <;> (first | rfl | simp)) | (simp [*]; done), by repeat (first | exact Drawn0.refl _ | apply Drawn0.step)⟩
   ·rw [if_neg c6] at H
    exact absurd H (by simp)
  ·rw [if_neg c5] at H
   exact absurd H (by simp)
 ·rw [if_neg c3] at H
  have c3b0 : decide ((a1.size : Int) ≤ (a0.size : Int)) = false := decide_eq_false c3
  have c3b1 : decide (a1.size ≤ a0.size) = false := decide_eq_false (fun h => c3 (Int.ofNat_le.mpr h))
  clear c3
  obtain rfl := Option.some.inj H
  go_enter Tryd.func55, Tryd.ntmps55
  go_wp2
  go_ret
  exact ⟨sA, by repeat (first | exact Drawn0.refl _ | apply Drawn0.step)⟩

/-! ### stringslite_CutSuffix: function 49 -/
def stringslite_CutSuffix.f (a0 : ByteArray) (a1 : ByteArray) : Option (ByteArray × Bool) := (stringslite_HasSuffix.f a0 a1).bind fun t102 => (if t102 = true then (if 0 ≤ (wrap64 ((a0.size : Int) - (a1.size : Int))) then (if (wrap64 ((a0.size : Int) - (a1.size : Int))) ≤ (a0.size : Int) then (some (a0.extract 0 ((wrap64 ((a0.size : Int) - (a1.size : Int))) : Int).toNat, true)) else (none)) else (none)) else (some (a0, false)))
theorem stringslite_CutSuffix.calls (a0 : ByteArray) (a1 : ByteArray) (r1 : ByteArray) (r2 : Bool) (w : World) (h : stringslite_CutSuffix.f a0 a1 = some (r1, r2)) :
  Calls Tryd.prog 49 #[.string a0, .string a1] w fun e w' => e = .returned (.tuple #[.string r1, .bool r2]) ∧ Drawn0 w w' := by
 have H : ((stringslite_HasSuffix.f a0 a1).bind fun t102 => (if t102 = true then (if 0 ≤ (wrap64 ((a0.size : Int) - (a1.size : Int))) then (if (wrap64 ((a0.size : Int) - (a1.size : Int))) ≤ (a0.size : Int) then (some (a0.extract 0 ((wrap64 ((a0.size : Int) - (a1.size : Int))) : Int).toNat, true)) else (none)) else (none)) else (some (a0, false)))) = some (r1, r2) := h
 clear h
 replace H := Option.bind_eq_some_iff.mp H
 obtain ⟨t102, A30, H⟩ := H
 replace H : (if t102 = true then (if 0 ≤ (wrap64 ((a0.size : Int) - (a1.size : Int))) then (if (wrap64 ((a0.size : Int) - (a1.size : Int))) ≤ (a0.size : Int) then (some (a0.extract 0 ((wrap64 ((a0.size : Int) - (a1.size : Int))) : Int).toNat, true)) else (none)) else (none)) else (some (a0, false))) = some (r1, r2) := H
 have A3 := Aside0.mk A30
 clear A30
 by_cases c4 : t102 = true
 ·subst c4
  have H1 : (if 0 ≤ (wrap64 ((a0.size : Int) - (a1.size : Int))) then (if (wrap64 ((a0.size : Int) - (a1.size : Int))) ≤ (a0.size : Int) then (some (a0.extract 0 ((wrap64 ((a0.size : Int) - (a1.size : Int))) : Int).toNat, true)) else (none)) else (none)) = some (r1, r2) := by rw [if_pos rfl] at H; exact H
  clear H
  have H := H1
  clear H1
  obtain ⟨ji5, hji5⟩ : ∃ j_ : Int, (wrap64 ((a0.size : Int) - (a1.size : Int))) = j_ := ⟨_, rfl⟩
  replace H : (if 0 ≤ (ji5) then (if (ji5) ≤ (a0.size : Int) then (some (a0.extract 0 ((ji5) : Int).toNat, true)) else (none)) else (none)) = some (r1, r2) := by first | (rw [hji5] at H; exact H) | (simp only [hji5] at H ⊢; exact H)
  (try rw [hji5] at A3)
  have hji5w : (IntKind.i64.wrap ((a0.size : Int) - (a1.size : Int))) = ji5 := (i64_w _).trans hji5
  by_cases c6 : 0 ≤ (ji5)
  ·rw [if_pos c6] at H
   have c6b0 := eq_true c6
   have c6b1 : decide (0 ≤ (ji5)) = true := decide_eq_true c6
   clear c6
   by_cases c7 : (ji5) ≤ (a0.size : Int)
   ·rw [if_pos c7] at H
    have c7b0 := eq_true c7
    have c7b1 : decide ((ji5) ≤ (a0.size : Int)) = true := decide_eq_true c7
    clear c7
    simp only [Option.some.injEq, Prod.mk.injEq] at H
    obtain ⟨rfl, rfl⟩ := H
    go_enter Tryd.func49, Tryd.ntmps49
    go_wp2_with (first | ((with_reducible refine gate_callee (f := 55) rfl ?_); refine goesL_ (some 8) rfl rfl Tryd.func55 (by kernel_rfl) rfl #[.string a0, .string a1] rfl aP ?_; (with_reducible refine (stringslite_HasSuffix.calls a0 a1 true _ A3.out).mono ?_); rintro e w' ⟨rfl, ⟨nd, rfl⟩⟩; refine ⟨_, rfl, ?_⟩))
    go_ret2
    exact ⟨by first | rfl | (simp; done) | (simp only [← hji5] <;> (first | rfl | simp)) | (simp [*]; done), by repeat (first | exact Drawn0.refl _ | apply Drawn0.step)⟩
   ·rw [if_neg c7] at H
    exact absurd H (by simp)
  ·rw [if_neg c6] at H
   exact absurd H (by simp)
 ·replace c4 := Bool.eq_false_iff.mpr c4
  subst c4
  have H1 : (some (a0, false)) = some (r1, r2) := by rw [if_neg (show ¬ (false = true) by decide)] at H; exact H
  clear H
  have H := H1
  clear H1
  simp only [Option.some.injEq, Prod.mk.injEq] at H
  obtain ⟨rfl, rfl⟩ := H
  go_enter Tryd.func49, Tryd.ntmps49
  go_wp2_with (first | ((with_reducible refine gate_callee (f := 55) rfl ?_); refine goesL_ (some 8) rfl rfl Tryd.func55 (by kernel_rfl) rfl #[.string a0, .string a1] rfl aP ?_; (with_reducible refine (stringslite_HasSuffix.calls a0 a1 false _ A3.out).mono ?_); rintro e w' ⟨rfl, ⟨nd, rfl⟩⟩; refine ⟨_, rfl, ?_⟩))
  go_ret2
  exact ⟨sA, by repeat (first | exact Drawn0.refl _ | apply Drawn0.step)⟩

/-! ### strings_CutSuffix: function 30 -/
def strings_CutSuffix.f (a0 : ByteArray) (a1 : ByteArray) : Option (ByteArray × Bool) := (stringslite_CutSuffix.f a0 a1).bind fun bt103 => (some (bt103.1, bt103.2))
theorem strings_CutSuffix.calls (a0 : ByteArray) (a1 : ByteArray) (r1 : ByteArray) (r2 : Bool) (w : World) (h : strings_CutSuffix.f a0 a1 = some (r1, r2)) :
  Calls Tryd.prog 30 #[.string a0, .string a1] w fun e w' => e = .returned (.tuple #[.string r1, .bool r2]) ∧ Drawn0 w w' := by
 have H : ((stringslite_CutSuffix.f a0 a1).bind fun bt103 => (some (bt103.1, bt103.2))) = some (r1, r2) := h
 clear h
 replace H := Option.bind_eq_some_iff.mp H
 obtain ⟨⟨t103, t104⟩, A30, H⟩ := H
 replace H : (some (t103, t104)) = some (r1, r2) := H
 have A3 := Aside0.mk A30
 clear A30
 simp only [Option.some.injEq, Prod.mk.injEq] at H
 obtain ⟨rfl, rfl⟩ := H
 go_enter Tryd.func30, Tryd.ntmps30
 go_wp2_with (first | ((with_reducible refine gate_callee (f := 49) rfl ?_); refine goesL_ (some 8) rfl rfl Tryd.func49 (by kernel_rfl) rfl #[.string a0, .string a1] rfl aP ?_; (with_reducible refine (stringslite_CutSuffix.calls a0 a1 t103 t104 _ A3.out).mono ?_); rintro e w' ⟨rfl, ⟨nd, rfl⟩⟩; refine ⟨_, rfl, ?_⟩))
 go_ret2
 exact ⟨sA, by repeat (first | exact Drawn0.refl _ | apply Drawn0.step)⟩

/-! ### lines_blank: function 25 -/
def lines_blank.f (a0 : Int) : Option (Bool) := if a0 = 32 then (some true) else (some (a0 == 9))
theorem lines_blank.calls (a0 : Int) (r : Bool) (w : World) (h : lines_blank.f a0 = some r) :
  Calls Tryd.prog 25 #[.int .u8 a0] w fun e w' => e = .returned (.bool r) ∧ Drawn0 w w' := by
 have H : (if a0 = 32 then (some true) else (some (a0 == 9))) = some r := h
 clear h
 by_cases c2 : a0 = 32
 ·rw [if_pos c2] at H
  have c2b0 : (a0 == 32) = true := beq_iff_eq.mpr c2
  have c2b1 : (a0 != 32) = false := bne_eq_false_iff_eq.mpr c2
  clear c2
  obtain rfl := Option.some.inj H
  go_enter Tryd.func25, Tryd.ntmps25
  go_wp2
  go_ret
  exact ⟨sA, by repeat (first | exact Drawn0.refl _ | apply Drawn0.step)⟩
 ·rw [if_neg c2] at H
  have c2b0 : (a0 == 32) = false := beq_eq_false_iff_ne.mpr c2
  have c2b1 : (a0 != 32) = true := bne_iff_ne.mpr c2
  obtain rfl := Option.some.inj H
  go_enter Tryd.func25, Tryd.ntmps25
  go_wp2
  go_ret
  exact ⟨sA, by repeat (first | exact Drawn0.refl _ | apply Drawn0.step)⟩

/-! ### lines_tail: function 47 -/
def lines_tail.f (a0 : ByteArray) : Option (Int) := (strings_TrimRight.f a0 (⟨#[92]⟩ : ByteArray)).bind fun t105 => (some (wrap64 ((a0.size : Int) - (t105.size : Int))))
theorem lines_tail.calls (a0 : ByteArray) (r : Int) (w : World) (h : lines_tail.f a0 = some r) :
  Calls Tryd.prog 47 #[.string a0] w fun e w' => e = .returned (.int .i64 r) ∧ Below w.heap.size w w' := by
 have HB := Aside0.mk (Below.refl w.heap.size w)
 have H : ((strings_TrimRight.f a0 (⟨#[92]⟩ : ByteArray)).bind fun t105 => (some (wrap64 ((a0.size : Int) - (t105.size : Int))))) = some r := h
 clear h
 replace H := Option.bind_eq_some_iff.mp H
 obtain ⟨t105, A20, H⟩ := H
 replace H : (some (wrap64 ((a0.size : Int) - (t105.size : Int)))) = some r := H
 have A2 := Aside0.mk A20
 clear A20
 obtain rfl := Option.some.inj H
 go_enter Tryd.func47, Tryd.ntmps47
 go_wp2_with (first | ((with_reducible refine gate_callee (f := 59) rfl ?_); refine goesL_ (some 6) rfl rfl Tryd.func59 (by kernel_rfl) rfl #[.string a0, .string (⟨#[92]⟩ : ByteArray)] rfl aP ?_; (with_reducible refine (strings_TrimRight.calls a0 (⟨#[92]⟩ : ByteArray) t105 _ A2.out).mono ?_); rintro e w3 ⟨rfl, hb⟩; refine ⟨_, rfl, ?_⟩; replace HB := Aside0.mk (below_step bA hb); (try clear hb); (try clear hb2); (try clear hk); (try clear hi)))
 go_ret
 exact ⟨eW, bA⟩

/-! ### lines_word: function 26 -/
mutual
def lines_word.l1 : Nat → ByteArray → List Int → Int → Option (ByteArray × Int × Bool)
 | 0, _, _, _ => none
 | k + 1, x0, x6, x7 => if x7 < (x0.size : Int) then (if 0 ≤ x7 then (if (bt x0 x7) = 34 then (if (wrap64 (x7 + 1)) ≥ (x0.size : Int) then (some (strOfNums x6, wrap64 (x7 + 1), true)) else (if 0 ≤ (wrap64 (x7 + 1)) then (if (wrap64 (x7 + 1)) < (x0.size : Int) then (if (bt x0 (wrap64 (x7 + 1))) = 34 then (if x6.length < 140737488355328 then (lines_word.l1 k x0 (x6 ++ [34]) (wrap64 ((wrap64 (x7 + 1)) + 1))) else (none)) else (some (strOfNums x6, wrap64 (x7 + 1), true))) else (none)) else (none))) else (if x6.length < 140737488355328 then (lines_word.l1 k x0 (x6 ++ [bt x0 x7]) (wrap64 (x7 + 1))) else (none))) else (none)) else (some (strOfNums x6, (x0.size : Int), false))
def lines_word.l0 : Nat → ByteArray → Int → Option (ByteArray × Int × Bool)
 | 0, _, _ => none
 | k + 1, x0, x5 => if x5 < (x0.size : Int) then (if 0 ≤ x5 then ((lines_blank.f (bt x0 x5)).bind fun t106 => (if t106 = true then (if x5 ≤ (x0.size : Int) then ((lines_tail.f (x0.extract 0 (x5 : Int).toNat)).bind fun t107 => (if (Int.tmod t107 2) = 1 then (lines_word.l0 k x0 (wrap64 (x5 + 1))) else (some (x0.extract 0 (x5 : Int).toNat, x5, true)))) else (none)) else (lines_word.l0 k x0 (wrap64 (x5 + 1))))) else (none)) else (if 0 ≤ x5 then (if x5 ≤ (x0.size : Int) then (some (x0.extract 0 (x5 : Int).toNat, x5, true)) else (none)) else (none))
end
def lines_word.f (k : Nat) (a0 : ByteArray) : Option (ByteArray × Int × Bool) := if 0 < (a0.size : Int) then (if (bt a0 0) = 34 then (lines_word.l1 k a0 ([] : List Int) 1) else (lines_word.l0 k a0 0)) else (none)
theorem lines_word.mono_l : ∀ k, (∀ y0 y1 y2, LeO (lines_word.l1 k y0 y1 y2) (lines_word.l1 (k + 1) y0 y1 y2)) ∧ (∀ y0 y1, LeO (lines_word.l0 k y0 y1) (lines_word.l0 (k + 1) y0 y1))
 | 0 => ⟨fun _ _ _ r h => by simp [lines_word.l1] at h, fun _ _ r h => by simp [lines_word.l0] at h⟩
 | k + 1 => by
  obtain ⟨ih0, ih1⟩ := lines_word.mono_l k
  refine ⟨?_, ?_⟩
  ·intro y0 y1 y2
   unfold lines_word.l1
   repeat' first
   | (with_reducible exact ih0 _ _ _)
   | (with_reducible exact ih1 _ _)
   | (with_reducible exact LeO.refl _)
   | (with_reducible exact LeO.none _)
   | (with_reducible refine LeO.ite ?_ ?_)
   | (with_reducible refine LeO.bind ?_ (fun _ => ?_))
  ·intro y0 y1
   unfold lines_word.l0
   repeat' first
   | (with_reducible exact ih0 _ _ _)
   | (with_reducible exact ih1 _ _)
   | (with_reducible exact LeO.refl _)
   | (with_reducible exact LeO.none _)
   | (with_reducible refine LeO.ite ?_ ?_)
   | (with_reducible refine LeO.bind ?_ (fun _ => ?_))
theorem lines_word.mono : ∀ a0 k, LeO (lines_word.f k a0) (lines_word.f (k + 1) a0) := by
 intro a0 k
 obtain ⟨ih0, ih1⟩ := lines_word.mono_l k
 unfold lines_word.f
 repeat' first
   | (with_reducible exact ih0 _ _ _)
   | (with_reducible exact ih1 _ _)
   | (with_reducible exact LeO.refl _)
   | (with_reducible exact LeO.none _)
   | (with_reducible refine LeO.ite ?_ ?_)
   | (with_reducible refine LeO.bind ?_ (fun _ => ?_))
theorem lines_word.calls (k : Nat) (a0 : ByteArray) (r1 : ByteArray) (r2 : Int) (r3 : Bool) (w : World) (h : lines_word.f k a0 = some (r1, r2, r3)) :
  Calls Tryd.prog 26 #[.string a0] w fun e w' => e = .returned (.tuple #[.string r1, .int .i64 r2, .bool r3]) ∧ Below w.heap.size w w' := by
 have HB := Aside0.mk (Below.refl w.heap.size w)
 have H : (if 0 < (a0.size : Int) then (if (bt a0 0) = 34 then (lines_word.l1 k a0 ([] : List Int) 1) else (lines_word.l0 k a0 0)) else (none)) = some (r1, r2, r3) := h
 clear h
 by_cases c2 : 0 < (a0.size : Int)
 ·rw [if_pos c2] at H
  have c2b0 : decide (0 < (a0.size : Int)) = true := decide_eq_true c2
  have c2b1 : decide (0 < a0.size) = true := decide_eq_true (by omega)
  clear c2
  by_cases c4 : (bt a0 0) = 34
  ·rw [if_pos c4] at H
   have c4b0 : ((bt a0 0) == 34) = true := beq_iff_eq.mpr c4
   have c4b1 : ((bt a0 0) != 34) = false := bne_eq_false_iff_eq.mpr c4
   clear c4
   have H' := Aside0.mk H
   clear H
   have p3 : 0 ≤ (0 : Int) := (by omega)
   have q3 : 0 < a0.size := (by have : (0 : Int) < (a0.size : Int) := of_decide_eq_true asA; omega)
   have hx3 : ∀ h : 0 < a0.size, ((a0[0]'h).toNat : Int) = bt a0 0 := bt_at a0 0
   clear p3
   have qi3 : (0 < (a0.size : Int)) = True := eq_true (of_decide_eq_true asA)
   replace q3 := eq_true q3
   go_enter Tryd.func26, Tryd.ntmps26
   go_wp2
   go_loopg [6, 7] k (fun kq v6 v7 w' => ∃ (x6_1 : List Int) (x7_1 : Int), v7 = .int .i64 x7_1 ∧ Aside0 (lines_word.l1 kq a0 x6_1 x7_1 = some (r1, r2, r3)) ∧ Aside0 (kq ≤ k) ∧ Aside0 (Kd.R (Kd.int .u8) 5 w' w.heap.size (fun _ => True) v6 x6_1) ∧ Aside0 (Below w.heap.size w w'))
   case atStart => exact ⟨(([] : List Int)), (1), sA, H', ⟨Nat.le_refl _⟩, ⟨by first | exact Kd.R_nil _ _ _ _ _ | exact Kd.N_nil _ _ _ _ _ | exact Kd.V_nil _ _ _ _ _ | exact Kd.Q_nil _ _ _ _ _ | exact Kd.S_nil _ _ _ _ _⟩, ⟨bA⟩⟩
   case round =>
    clear H'
    try clear c2
    try clear c2b0
    try clear c2b1
    try clear p2
    try clear p3
    try clear q3
    try clear hx3
    try clear qi3
    try clear c4
    try clear c4b0
    try clear c4b1
    try clear p3
    try clear q3
    obtain ⟨x6_1, x7_1, rfl, HA, HK1, HO_6, HB⟩ := hrel
    cases gk with
    | zero => exact absurd HA.out (by simp [lines_word.l1])
    | succ k1 =>
     have H := HA.out
     clear HA
     simp only [lines_word.l1] at H
     by_cases c5 : x7_1 < (a0.size : Int)
     ·rw [if_pos c5] at H
      have c5b0 : decide (x7_1 < (a0.size : Int)) = true := decide_eq_true c5
      clear c5
      by_cases c6 : 0 ≤ x7_1
      ·rw [if_pos c6] at H
       have c6b0 : decide (0 ≤ x7_1) = true := decide_eq_true c6
       clear c6
       by_cases c8 : (bt a0 x7_1) = 34
       ·rw [if_pos c8] at H
        have c8b0 : ((bt a0 x7_1) == 34) = true := beq_iff_eq.mpr c8
        have c8b1 : ((bt a0 x7_1) != 34) = false := bne_eq_false_iff_eq.mpr c8
        clear c8
        by_cases c9 : (wrap64 (x7_1 + 1)) ≥ (a0.size : Int)
        ·rw [if_pos c9] at H
         have c9b0 : decide ((a0.size : Int) ≤ (wrap64 (x7_1 + 1))) = true := decide_eq_true c9
         clear c9
         simp only [Option.some.injEq, Prod.mk.injEq] at H
         obtain ⟨rfl, rfl, rfl⟩ := H
         have p7 : 0 ≤ (x7_1 : Int) := of_decide_eq_true asA
         have q7 : x7_1 < (a0.size : Int) := of_decide_eq_true asA
         have hx7 := bt_at a0 x7_1
         replace p7 := eq_true p7
         replace q7 := eq_true q7
         have hcv10 := own_string (P := Tryd.prog) Tryd.underlying65 Tryd.underlying5 Tryd.underlying9 (Kd.own_of_R HO_6.out)
         go_wp2
         go_ret3
         exact ⟨eW, bA⟩
        ·rw [if_neg c9] at H
         have c9b0 : decide ((a0.size : Int) ≤ (wrap64 (x7_1 + 1))) = false := decide_eq_false c9
         clear c9
         obtain ⟨ji11, hji11⟩ : ∃ j_ : Int, (wrap64 (x7_1 + 1)) = j_ := ⟨_, rfl⟩
         replace H : (if 0 ≤ (ji11) then (if (ji11) < (a0.size : Int) then (if (bt a0 (ji11)) = 34 then (if x6_1.length < 140737488355328 then (lines_word.l1 k1 a0 (x6_1 ++ [34]) (wrap64 ((ji11) + 1))) else (none)) else (some (strOfNums x6_1, ji11, true))) else (none)) else (none)) = some (r1, r2, r3) := by first | (rw [hji11] at H; exact H) | (simp only [hji11] at H ⊢; exact H)
         (try rw [hji11] at c9b0)
         have hji11w : (IntKind.i64.wrap (x7_1 + 1)) = ji11 := (i64_w _).trans hji11
         by_cases c12 : 0 ≤ (ji11)
         ·rw [if_pos c12] at H
          have c12b0 : decide (0 ≤ (ji11)) = true := decide_eq_true c12
          clear c12
          by_cases c13 : (ji11) < (a0.size : Int)
          ·rw [if_pos c13] at H
           have c13b0 : decide ((ji11) < (a0.size : Int)) = true := decide_eq_true c13
           clear c13
           by_cases c15 : (bt a0 (ji11)) = 34
           ·rw [if_pos c15] at H
            have c15b0 : ((bt a0 (ji11)) == 34) = true := beq_iff_eq.mpr c15
            have c15b1 : ((bt a0 (ji11)) != 34) = false := bne_eq_false_iff_eq.mpr c15
            clear c15
            by_cases c16 : x6_1.length < 140737488355328
            ·rw [if_pos c16] at H
             have LMc16 := Aside0.mk c16
             clear c16
             obtain ⟨y108, hy108⟩ : ∃ y_ : List Int, y_ = (x6_1 ++ [34]) := ⟨_, rfl⟩
             replace H : (lines_word.l1 k1 a0 y108 (wrap64 ((ji11) + 1))) = some (r1, r2, r3) := hyA hy108 H
             have Ny108 := Aside0.mk hy108
             clear hy108
             have H' := Aside0.mk H
             clear H
             have p7 : 0 ≤ (x7_1 : Int) := of_decide_eq_true asA
             have q7 : x7_1 < (a0.size : Int) := of_decide_eq_true asA
             have hx7 := bt_at a0 x7_1
             replace p7 := eq_true p7
             replace q7 := eq_true q7
             have p14 : 0 ≤ ((ji11) : Int) := of_decide_eq_true asA
             have q14 : (ji11) < (a0.size : Int) := of_decide_eq_true asA
             have hx14 := bt_at a0 (ji11)
             replace p14 := eq_true p14
             replace q14 := eq_true q14
             go_wp2_with (first | ((with_reducible refine gate_builtin (b := .append) (xs := #[.tmp 67, .tmp 68]) rfl ?_); at_builtin; refine Kd.R_append (Kd.int .u8) (w0 := w) w.heap.size rfl (.tmp 67) (.tmp 68) 65 5 (.int .u8 0) 1 rfl Tryd.underlying65 info5 rfl (by decide) (by omega) u6 x6_1 34 [.int .u8 34] (fun _ => True) (fun _ => False) rfl rfl ?aP (fun _ hk => hk.elim) ?aF ?aO ?aB ?aS ?aL ?_; (case aP => exact rfl); (case aB => exact bA); (case aF => exact (fun _ _ => trivial)); (case aO => exact (kR HO_6)); (case aS => exact (below_size bA)); (case aL => have := LMc16.out; omega); intro v109 w17 ho hb hg hat; rw [← Ny108.out] at ho; have n0_ := Aside0.mk (hb); have n1_ := Aside0.mk (ho); clear HB; clear HO_6; have HB := n0_; have HO110 := n1_; clear n0_ n1_; clear ho hb hg hat))
             go_roundg k1
             case measure => have := HK1.out; omega
             case rel => exact ⟨(y108), (wrap64 ((ji11) + 1)), (by first | rfl | (simp; done) | (simp only [← hji11] <;> (first | rfl | simp)) | (simp [*]; done)), H', ⟨by have := HK1.out; omega⟩, ⟨kR HO110⟩, ⟨bA⟩⟩
            ·rw [if_neg c16] at H
             exact absurd H (by simp)
           ·rw [if_neg c15] at H
            have c15b0 : ((bt a0 (ji11)) == 34) = false := beq_eq_false_iff_ne.mpr c15
            have c15b1 : ((bt a0 (ji11)) != 34) = true := bne_iff_ne.mpr c15
            simp only [Option.some.injEq, Prod.mk.injEq] at H
            obtain ⟨rfl, rfl, rfl⟩ := H
            have p7 : 0 ≤ (x7_1 : Int) := of_decide_eq_true asA
            have q7 : x7_1 < (a0.size : Int) := of_decide_eq_true asA
            have hx7 := bt_at a0 x7_1
            replace p7 := eq_true p7
            replace q7 := eq_true q7
            have p14 : 0 ≤ ((ji11) : Int) := of_decide_eq_true asA
            have q14 : (ji11) < (a0.size : Int) := of_decide_eq_true asA
            have hx14 := bt_at a0 (ji11)
            replace p14 := eq_true p14
            replace q14 := eq_true q14
            have hcv18 := own_string (P := Tryd.prog) Tryd.underlying65 Tryd.underlying5 Tryd.underlying9 (Kd.own_of_R HO_6.out)
            go_wp2
            go_ret3
            exact ⟨by first | rfl | (simp [errW_none, errW_some] <;> rfl) | (simp only [← hji11]; first | rfl | (simp [errW_none, errW_some] <;> rfl)) | (simp [*, errW_none, errW_some] <;> rfl), bA⟩
          ·rw [if_neg c13] at H
           exact absurd H (by simp)
         ·rw [if_neg c12] at H
          exact absurd H (by simp)
       ·rw [if_neg c8] at H
        have c8b0 : ((bt a0 x7_1) == 34) = false := beq_eq_false_iff_ne.mpr c8
        have c8b1 : ((bt a0 x7_1) != 34) = true := bne_iff_ne.mpr c8
        by_cases c20 : x6_1.length < 140737488355328
        ·rw [if_pos c20] at H
         have LMc20 := Aside0.mk c20
         clear c20
         obtain ⟨y111, hy111⟩ : ∃ y_ : List Int, y_ = (x6_1 ++ [bt a0 x7_1]) := ⟨_, rfl⟩
         replace H : (lines_word.l1 k1 a0 y111 (wrap64 (x7_1 + 1))) = some (r1, r2, r3) := hyA hy111 H
         have Ny111 := Aside0.mk hy111
         clear hy111
         have H' := Aside0.mk H
         clear H
         have p7 : 0 ≤ (x7_1 : Int) := of_decide_eq_true asA
         have q7 : x7_1 < (a0.size : Int) := of_decide_eq_true asA
         have hx7 := bt_at a0 x7_1
         replace p7 := eq_true p7
         replace q7 := eq_true q7
         have p19 : 0 ≤ (x7_1 : Int) := of_decide_eq_true asA
         have q19 : x7_1 < (a0.size : Int) := of_decide_eq_true asA
         have hx19 := bt_at a0 x7_1
         replace p19 := eq_true p19
         replace q19 := eq_true q19
         go_wp2_with (first | ((with_reducible refine gate_builtin (b := .append) (xs := #[.tmp 46, .tmp 50]) rfl ?_); at_builtin; refine Kd.R_append (Kd.int .u8) (w0 := w) w.heap.size rfl (.tmp 46) (.tmp 50) 65 5 (.int .u8 0) 1 rfl Tryd.underlying65 info5 rfl (by decide) (by omega) u6 x6_1 (bt a0 x7_1) [.int .u8 (bt a0 x7_1)] (fun _ => True) (fun _ => False) rfl rfl ?aP (fun _ hk => hk.elim) ?aF ?aO ?aB ?aS ?aL ?_; (case aP => exact rfl); (case aB => exact bA); (case aF => exact (fun _ _ => trivial)); (case aO => exact (kR HO_6)); (case aS => exact (below_size bA)); (case aL => have := LMc20.out; omega); intro v112 w21 ho hb hg hat; rw [← Ny111.out] at ho; have n0_ := Aside0.mk (hb); have n1_ := Aside0.mk (ho); clear HB; clear HO_6; have HB := n0_; have HO113 := n1_; clear n0_ n1_; clear ho hb hg hat))
         go_roundg k1
         case measure => have := HK1.out; omega
         case rel => exact ⟨(y111), (wrap64 (x7_1 + 1)), sA, H', ⟨by have := HK1.out; omega⟩, ⟨kR HO113⟩, ⟨bA⟩⟩
        ·rw [if_neg c20] at H
         exact absurd H (by simp)
      ·rw [if_neg c6] at H
       exact absurd H (by simp)
     ·rw [if_neg c5] at H
      have c5b0 : decide (x7_1 < (a0.size : Int)) = false := decide_eq_false c5
      clear c5
      simp only [Option.some.injEq, Prod.mk.injEq] at H
      obtain ⟨rfl, rfl, rfl⟩ := H
      have hcv22 := own_string (P := Tryd.prog) Tryd.underlying65 Tryd.underlying5 Tryd.underlying9 (Kd.own_of_R HO_6.out)
      go_wp2
      go_ret3
      exact ⟨eW, bA⟩
  ·rw [if_neg c4] at H
   have c4b0 : ((bt a0 0) == 34) = false := beq_eq_false_iff_ne.mpr c4
   have c4b1 : ((bt a0 0) != 34) = true := bne_iff_ne.mpr c4
   have H' := Aside0.mk H
   clear H
   have p3 : 0 ≤ (0 : Int) := (by omega)
   have q3 : 0 < a0.size := (by have : (0 : Int) < (a0.size : Int) := of_decide_eq_true asA; omega)
   have hx3 : ∀ h : 0 < a0.size, ((a0[0]'h).toNat : Int) = bt a0 0 := bt_at a0 0
   clear p3
   have qi3 : (0 < (a0.size : Int)) = True := eq_true (of_decide_eq_true asA)
   replace q3 := eq_true q3
   go_enter Tryd.func26, Tryd.ntmps26
   go_wp2
   go_loopg [5] k (fun kq v5 w' => ∃ (x5_1 : Int), v5 = .int .i64 x5_1 ∧ Aside0 (lines_word.l0 kq a0 x5_1 = some (r1, r2, r3)) ∧ Aside0 (kq ≤ k) ∧ Aside0 (Below w.heap.size w w'))
   case atStart => exact ⟨(0), sA, H', ⟨Nat.le_refl _⟩, ⟨bA⟩⟩
   case round =>
    clear H'
    try clear c1
    try clear p1
    try clear q1
    try clear hx1
    try clear hcv1
    try clear c2
    try clear c2b0
    try clear c2b1
    try clear p2
    try clear hcv2
    try clear p3
    try clear q3
    try clear hx3
    try clear qi3
    try clear c4
    try clear c4b0
    try clear c4b1
    try clear c5
    try clear c5b0
    try clear c6
    try clear c6b0
    try clear p6
    try clear p7
    try clear q7
    try clear hx7
    try clear c8
    try clear c8b0
    try clear c8b1
    try clear c9
    try clear c9b0
    try clear hcv10
    try clear c12
    try clear c12b0
    try clear c13
    try clear c13b0
    try clear p14
    try clear q14
    try clear hx14
    try clear c15
    try clear c15b0
    try clear c15b1
    try clear c16
    try clear hcv18
    try clear p19
    try clear q19
    try clear hx19
    try clear c20
    try clear hcv22
    try clear p14
    try clear p19
    try clear p2
    try clear p3
    try clear p7
    try clear q14
    try clear q19
    try clear q3
    try clear q7
    obtain ⟨x5_1, rfl, HA, HK1, HB⟩ := hrel
    cases gk with
    | zero => exact absurd HA.out (by simp [lines_word.l0])
    | succ k1 =>
     have H := HA.out
     clear HA
     simp only [lines_word.l0] at H
     by_cases c23 : x5_1 < (a0.size : Int)
     ·rw [if_pos c23] at H
      have c23b0 : decide (x5_1 < (a0.size : Int)) = true := decide_eq_true c23
      clear c23
      by_cases c24 : 0 ≤ x5_1
      ·rw [if_pos c24] at H
       have c24b0 : decide (0 ≤ x5_1) = true := decide_eq_true c24
       clear c24
       replace H := Option.bind_eq_some_iff.mp H
       obtain ⟨t106, A260, H⟩ := H
       replace H : (if t106 = true then (if x5_1 ≤ (a0.size : Int) then ((lines_tail.f (a0.extract 0 (x5_1 : Int).toNat)).bind fun t107 => (if (Int.tmod t107 2) = 1 then (lines_word.l0 k1 a0 (wrap64 (x5_1 + 1))) else (some (a0.extract 0 (x5_1 : Int).toNat, x5_1, true)))) else (none)) else (lines_word.l0 k1 a0 (wrap64 (x5_1 + 1)))) = some (r1, r2, r3) := H
       have A26 := Aside0.mk A260
       clear A260
       by_cases c27 : t106 = true
       ·subst c27
        have H1 : (if x5_1 ≤ (a0.size : Int) then ((lines_tail.f (a0.extract 0 (x5_1 : Int).toNat)).bind fun t107 => (if (Int.tmod t107 2) = 1 then (lines_word.l0 k1 a0 (wrap64 (x5_1 + 1))) else (some (a0.extract 0 (x5_1 : Int).toNat, x5_1, true)))) else (none)) = some (r1, r2, r3) := by rw [if_pos rfl] at H; exact H
        clear H
        have H := H1
        clear H1
        have c28b0 := eq_true (of_decide_eq_true asA : 0 ≤ x5_1)
        by_cases c29 : x5_1 ≤ (a0.size : Int)
        ·rw [if_pos c29] at H
         have c29b0 := eq_true c29
         have c29b1 : decide (x5_1 ≤ (a0.size : Int)) = true := decide_eq_true c29
         clear c29
         replace H := Option.bind_eq_some_iff.mp H
         obtain ⟨t107, A300, H⟩ := H
         replace H : (if (Int.tmod t107 2) = 1 then (lines_word.l0 k1 a0 (wrap64 (x5_1 + 1))) else (some (a0.extract 0 (x5_1 : Int).toNat, x5_1, true))) = some (r1, r2, r3) := H
         have A30 := Aside0.mk A300
         clear A300
         by_cases c31 : (Int.tmod t107 2) = 1
         ·rw [if_pos c31] at H
          have c31b0 : ((Int.tmod t107 2) == 1) = true := beq_iff_eq.mpr c31
          have c31b1 : ((Int.tmod t107 2) != 1) = false := bne_eq_false_iff_eq.mpr c31
          clear c31
          have H' := Aside0.mk H
          clear H
          have p25 : 0 ≤ (x5_1 : Int) := of_decide_eq_true asA
          have q25 : x5_1 < (a0.size : Int) := of_decide_eq_true asA
          have hx25 := bt_at a0 x5_1
          replace p25 := eq_true p25
          replace q25 := eq_true q25
          go_wp2_with (first | (go_at_call 25; (with_reducible refine (lines_blank.calls (bt a0 x5_1) true _ A26.out).mono ?_); rintro e w' ⟨rfl, ⟨nd, rfl⟩⟩) | (go_at_call 47; (with_reducible refine (lines_tail.calls (a0.extract 0 (x5_1 : Int).toNat) t107 _ A30.out).mono ?_); rintro e w32 ⟨rfl, hb⟩; replace HB := Aside0.mk (below_step bA hb); (try clear hb); (try clear hb2); (try clear hk); (try clear hi)))
          go_roundg k1
          case measure => have := HK1.out; omega
          case rel => exact ⟨(wrap64 (x5_1 + 1)), sA, H', ⟨by have := HK1.out; omega⟩, ⟨bA⟩⟩
         ·rw [if_neg c31] at H
          have c31b0 : ((Int.tmod t107 2) == 1) = false := beq_eq_false_iff_ne.mpr c31
          have c31b1 : ((Int.tmod t107 2) != 1) = true := bne_iff_ne.mpr c31
          have c33b0 := eq_true (of_decide_eq_true asA : 0 ≤ x5_1)
          have c34b0 := eq_true (of_decide_eq_true asA : x5_1 ≤ (a0.size : Int))
          simp only [Option.some.injEq, Prod.mk.injEq] at H
          obtain ⟨rfl, rfl, rfl⟩ := H
          have p25 : 0 ≤ (x5_1 : Int) := of_decide_eq_true asA
          have q25 : x5_1 < (a0.size : Int) := of_decide_eq_true asA
          have hx25 := bt_at a0 x5_1
          replace p25 := eq_true p25
          replace q25 := eq_true q25
          go_wp2_with (first | (go_at_call 25; (with_reducible refine (lines_blank.calls (bt a0 x5_1) true _ A26.out).mono ?_); rintro e w' ⟨rfl, ⟨nd, rfl⟩⟩) | (go_at_call 47; (with_reducible refine (lines_tail.calls (a0.extract 0 (x5_1 : Int).toNat) t107 _ A30.out).mono ?_); rintro e w35 ⟨rfl, hb⟩; replace HB := Aside0.mk (below_step bA hb); (try clear hb); (try clear hb2); (try clear hk); (try clear hi)))
          go_ret3
          exact ⟨eW, bA⟩
        ·rw [if_neg c29] at H
         exact absurd H (by simp)
       ·replace c27 := Bool.eq_false_iff.mpr c27
        subst c27
        have H1 : (lines_word.l0 k1 a0 (wrap64 (x5_1 + 1))) = some (r1, r2, r3) := by rw [if_neg (show ¬ (false = true) by decide)] at H; exact H
        clear H
        have H := H1
        clear H1
        have H' := Aside0.mk H
        clear H
        have p25 : 0 ≤ (x5_1 : Int) := of_decide_eq_true asA
        have q25 : x5_1 < (a0.size : Int) := of_decide_eq_true asA
        have hx25 := bt_at a0 x5_1
        replace p25 := eq_true p25
        replace q25 := eq_true q25
        go_wp2_with (first | (go_at_call 25; (with_reducible refine (lines_blank.calls (bt a0 x5_1) false _ A26.out).mono ?_); rintro e w' ⟨rfl, ⟨nd, rfl⟩⟩))
        go_roundg k1
        case measure => have := HK1.out; omega
        case rel => exact ⟨(wrap64 (x5_1 + 1)), sA, H', ⟨by have := HK1.out; omega⟩, ⟨bA⟩⟩
      ·rw [if_neg c24] at H
       exact absurd H (by simp)
     ·rw [if_neg c23] at H
      have c23b0 : decide (x5_1 < (a0.size : Int)) = false := decide_eq_false c23
      clear c23
      by_cases c36 : 0 ≤ x5_1
      ·rw [if_pos c36] at H
       have c36b0 := eq_true c36
       have c36b1 : decide (0 ≤ x5_1) = true := decide_eq_true c36
       clear c36
       by_cases c37 : x5_1 ≤ (a0.size : Int)
       ·rw [if_pos c37] at H
        have c37b0 := eq_true c37
        have c37b1 : decide (x5_1 ≤ (a0.size : Int)) = true := decide_eq_true c37
        clear c37
        simp only [Option.some.injEq, Prod.mk.injEq] at H
        obtain ⟨rfl, rfl, rfl⟩ := H
        go_wp2
        go_ret3
        exact ⟨eW, bA⟩
       ·rw [if_neg c37] at H
        exact absurd H (by simp)
      ·rw [if_neg c36] at H
       exact absurd H (by simp)
 ·rw [if_neg c2] at H
  exact absurd H (by simp)

/-! ### lines_Args: function 12 -/
def lines_Args.l0 : Nat → ByteArray → List ByteArray → Bool → Option (List ByteArray × Bool)
 | 0, _, _, _ => none
 | k + 1, x0, x4, x5 => if x0.toList = ([] : List UInt8) then (some (x4, x5)) else (if 0 < (x0.size : Int) then ((lines_blank.f (bt x0 0)).bind fun t114 => (if t114 = true then (if 1 ≤ (x0.size : Int) then (lines_Args.l0 k (x0.extract 1 x0.size) x4 x5) else (none)) else ((lines_word.f k x0).bind fun bt115 => (if x4.length < 8796093022208 then (if 0 ≤ bt115.2.1 then (if bt115.2.1 ≤ (x0.size : Int) then (lines_Args.l0 k (x0.extract (bt115.2.1 : Int).toNat x0.size) (x4 ++ [bt115.1]) bt115.2.2) else (none)) else (none)) else (none))))) else (none))
def lines_Args.f (k : Nat) (a0 : ByteArray) : Option (List ByteArray × Bool) := lines_Args.l0 k a0 ([] : List ByteArray) true
theorem lines_Args.mono_l : ∀ k, (∀ y0 y1 y2, LeO (lines_Args.l0 k y0 y1 y2) (lines_Args.l0 (k + 1) y0 y1 y2))
 | 0 => fun _ _ _ r h => by simp [lines_Args.l0] at h
 | k + 1 => by
  have ih0 := lines_Args.mono_l k
  ·intro y0 y1 y2
   unfold lines_Args.l0
   repeat' first
   | (with_reducible exact ih0 _ _ _)
   | (with_reducible exact lines_word.mono _ _)
   | (with_reducible exact LeO.refl _)
   | (with_reducible exact LeO.none _)
   | (with_reducible refine LeO.ite ?_ ?_)
   | (with_reducible refine LeO.bind ?_ (fun _ => ?_))
theorem lines_Args.mono : ∀ a0 k, LeO (lines_Args.f k a0) (lines_Args.f (k + 1) a0) := by
 intro a0 k
 have ih0 := lines_Args.mono_l k
 unfold lines_Args.f
 repeat' first
   | (with_reducible exact ih0 _ _ _)
   | (with_reducible exact lines_word.mono _ _)
   | (with_reducible exact LeO.refl _)
   | (with_reducible exact LeO.none _)
   | (with_reducible refine LeO.ite ?_ ?_)
   | (with_reducible refine LeO.bind ?_ (fun _ => ?_))
def lines_Args.T7 : Bool × List (List Nat × List Nat) := (true, [([], []), ([], []), ([1], [1]), ([0, 2], [0, 2]), ([], []), ([], []), ([4, 5], [4, 5]), ([], []), ([3, 3, 0, 1, 2, 3], [0, 3]), ([6, 8, 0, 1, 2, 3, 4, 5, 6, 8], [4, 6]), ([7, 9, 0, 1, 2, 3, 4, 5, 6, 7, 8, 9], [7])])
def lines_Args.B7 : List Nat := [0, 0, 2, 7, 0, 0, 48, 0, 15, 383, 1023]
theorem lines_Args.tab7 : rtab .any (opsOf Tryd.f12 7) = lines_Args.T7 := by kernel_rfl
theorem lines_Args.bits7 : waitsOk lines_Args.T7.2 lines_Args.B7 = true := by kernel_rfl
theorem lines_Args.calls (k : Nat) (a0 : ByteArray) (r1 : List ByteArray) (r2 : Bool) (w : World) (h : lines_Args.f k a0 = some (r1, r2)) :
  Calls Tryd.prog 12 #[.string a0] w fun e w' => ∃ v0_ : Value, e = .returned (.tuple #[v0_, .bool r2]) ∧ Kd.R Kd.string 9 w' w.heap.size (fun _ => True) v0_ r1 ∧ Below w.heap.size w w' := by
 have HB := Aside0.mk (Below.refl w.heap.size w)
 have H : (lines_Args.l0 k a0 ([] : List ByteArray) true) = some (r1, r2) := h
 clear h
 have H' := Aside0.mk H
 clear H
 go_enter Tryd.func12, Tryd.ntmps12
 go_wp2
 all_goals (try (go_step3; go_wp2))
 all_goals (try (go_step3; go_wp2))
 go_loopg [0, 4, 5] k (fun kq v0 v4 v5 w' => ∃ (x0_1 : ByteArray) (x4_1 : List ByteArray) (x5_1 : Bool), v0 = .string x0_1 ∧ v5 = .bool x5_1 ∧ Aside0 (lines_Args.l0 kq x0_1 x4_1 x5_1 = some (r1, r2)) ∧ Aside0 (kq ≤ k) ∧ Aside0 (Kd.R Kd.string 9 w' w.heap.size (fun _ => True) v4 x4_1) ∧ Aside0 (Below w.heap.size w w'))
 case atStart => exact ⟨(a0), (([] : List ByteArray)), (true), sA, sA, H', ⟨Nat.le_refl _⟩, ⟨by first | exact Kd.R_nil _ _ _ _ _ | exact Kd.N_nil _ _ _ _ _ | exact Kd.V_nil _ _ _ _ _ | exact Kd.Q_nil _ _ _ _ _ | exact Kd.S_nil _ _ _ _ _⟩, ⟨bA⟩⟩
 case round =>
  clear H'
  try clear c1
  obtain ⟨x0_1, x4_1, x5_1, rfl, rfl, HA, HK1, HO_4, HB⟩ := hrel
  cases gk with
  | zero => exact absurd HA.out (by simp [lines_Args.l0])
  | succ k1 =>
   have H := HA.out
   clear HA
   simp only [lines_Args.l0] at H
   by_cases c2 : x0_1.toList = ([] : List UInt8)
   ·rw [if_pos c2] at H
    have c2b0 : (x0_1.toList == ([] : List UInt8)) = true := beq_iff_eq.mpr c2
    have c2b1 : (x0_1.toList != ([] : List UInt8)) = false := bne_eq_false_iff_eq.mpr c2
    clear c2
    simp only [Option.some.injEq, Prod.mk.injEq] at H
    obtain ⟨rfl, rfl⟩ := H
    go_wp2
    all_goals (try (go_step3; go_wp2))
    all_goals (try (go_step3; go_wp2))
    try rw [Exit.noGoto_ret]
    go_ret2
    exact ⟨_, eW, kR HO_4, bA⟩
   ·rw [if_neg c2] at H
    have c2b0 : (x0_1.toList == ([] : List UInt8)) = false := beq_eq_false_iff_ne.mpr c2
    have c2b1 : (x0_1.toList != ([] : List UInt8)) = true := bne_iff_ne.mpr c2
    by_cases c3 : 0 < (x0_1.size : Int)
    ·rw [if_pos c3] at H
     have c3b0 : decide (0 < (x0_1.size : Int)) = true := decide_eq_true c3
     have c3b1 : decide (0 < x0_1.size) = true := decide_eq_true (by omega)
     clear c3
     replace H := Option.bind_eq_some_iff.mp H
     obtain ⟨t114, A50, H⟩ := H
     replace H : (if t114 = true then (if 1 ≤ (x0_1.size : Int) then (lines_Args.l0 k1 (x0_1.extract 1 x0_1.size) x4_1 x5_1) else (none)) else ((lines_word.f k1 x0_1).bind fun bt115 => (if x4_1.length < 8796093022208 then (if 0 ≤ bt115.2.1 then (if bt115.2.1 ≤ (x0_1.size : Int) then (lines_Args.l0 k1 (x0_1.extract (bt115.2.1 : Int).toNat x0_1.size) (x4_1 ++ [bt115.1]) bt115.2.2) else (none)) else (none)) else (none)))) = some (r1, r2) := H
     have A5 := Aside0.mk A50
     clear A50
     by_cases c6 : t114 = true
     ·subst c6
      have H1 : (if 1 ≤ (x0_1.size : Int) then (lines_Args.l0 k1 (x0_1.extract 1 x0_1.size) x4_1 x5_1) else (none)) = some (r1, r2) := by rw [if_pos rfl] at H; exact H
      clear H
      have H := H1
      clear H1
      by_cases c7 : 1 ≤ (x0_1.size : Int)
      ·rw [if_pos c7] at H
       have c7b0 := eq_true c7
       have c7b1 : decide (1 ≤ (x0_1.size : Int)) = true := decide_eq_true c7
       clear c7
       have H' := Aside0.mk H
       clear H
       have p4 : 0 ≤ (0 : Int) := (by omega)
       have q4 : 0 < x0_1.size := (by have : (0 : Int) < (x0_1.size : Int) := of_decide_eq_true asA; omega)
       have hx4 : ∀ h : 0 < x0_1.size, ((x0_1[0]'h).toNat : Int) = bt x0_1 0 := bt_at x0_1 0
       clear p4
       have qi4 : (0 < (x0_1.size : Int)) = True := eq_true (of_decide_eq_true asA)
       replace q4 := eq_true q4
       go_wp2_with (first | ((with_reducible refine gate_callee (f := 25) rfl ?_); refine goesL_ (some 13) rfl rfl Tryd.func25 (by kernel_rfl) rfl #[.int .u8 (bt x0_1 0)] rfl aP ?_; (with_reducible refine (lines_blank.calls (bt x0_1 0) true _ A5.out).mono ?_); rintro e w' ⟨rfl, ⟨nd, rfl⟩⟩; refine ⟨_, rfl, ?_⟩))
       all_goals (try (go_step3; go_wp2_with (first | ((with_reducible refine gate_callee (f := 25) rfl ?_); refine goesL_ (some 13) rfl rfl Tryd.func25 (by kernel_rfl) rfl #[.int .u8 (bt x0_1 0)] rfl aP ?_; (with_reducible refine (lines_blank.calls (bt x0_1 0) true _ A5.out).mono ?_); rintro e w' ⟨rfl, ⟨nd, rfl⟩⟩; refine ⟨_, rfl, ?_⟩))))
       all_goals (try (go_step3; go_wp2_with (first | ((with_reducible refine gate_callee (f := 25) rfl ?_); refine goesL_ (some 13) rfl rfl Tryd.func25 (by kernel_rfl) rfl #[.int .u8 (bt x0_1 0)] rfl aP ?_; (with_reducible refine (lines_blank.calls (bt x0_1 0) true _ A5.out).mono ?_); rintro e w' ⟨rfl, ⟨nd, rfl⟩⟩; refine ⟨_, rfl, ?_⟩))))
       go_roundg k1
       case measure => have := HK1.out; omega
       case rel => exact ⟨(x0_1.extract 1 x0_1.size), (x4_1), (x5_1), sA, sA, H', ⟨by have := HK1.out; omega⟩, ⟨kR HO_4⟩, ⟨bA⟩⟩
      ·rw [if_neg c7] at H
       exact absurd H (by simp)
     ·replace c6 := Bool.eq_false_iff.mpr c6
      subst c6
      have H1 : ((lines_word.f k1 x0_1).bind fun bt115 => (if x4_1.length < 8796093022208 then (if 0 ≤ bt115.2.1 then (if bt115.2.1 ≤ (x0_1.size : Int) then (lines_Args.l0 k1 (x0_1.extract (bt115.2.1 : Int).toNat x0_1.size) (x4_1 ++ [bt115.1]) bt115.2.2) else (none)) else (none)) else (none))) = some (r1, r2) := by rw [if_neg (show ¬ (false = true) by decide)] at H; exact H
      clear H
      have H := H1
      clear H1
      replace H := Option.bind_eq_some_iff.mp H
      obtain ⟨⟨t115, t116, t117⟩, A80, H⟩ := H
      replace H : (if x4_1.length < 8796093022208 then (if 0 ≤ t116 then (if t116 ≤ (x0_1.size : Int) then (lines_Args.l0 k1 (x0_1.extract (t116 : Int).toNat x0_1.size) (x4_1 ++ [t115]) t117) else (none)) else (none)) else (none)) = some (r1, r2) := H
      have A8 := Aside0.mk A80
      clear A80
      by_cases c9 : x4_1.length < 8796093022208
      ·rw [if_pos c9] at H
       have LMc9 := Aside0.mk c9
       clear c9
       obtain ⟨y118, hy118⟩ : ∃ y_ : List ByteArray, y_ = (x4_1 ++ [t115]) := ⟨_, rfl⟩
       replace H : (if 0 ≤ t116 then (if t116 ≤ (x0_1.size : Int) then (lines_Args.l0 k1 (x0_1.extract (t116 : Int).toNat x0_1.size) y118 t117) else (none)) else (none)) = some (r1, r2) := hyA hy118 H
       have Ny118 := Aside0.mk hy118
       clear hy118
       by_cases c10 : 0 ≤ t116
       ·rw [if_pos c10] at H
        have c10b0 := eq_true c10
        have c10b1 : decide (0 ≤ t116) = true := decide_eq_true c10
        clear c10
        by_cases c11 : t116 ≤ (x0_1.size : Int)
        ·rw [if_pos c11] at H
         have c11b0 := eq_true c11
         have c11b1 : decide (t116 ≤ (x0_1.size : Int)) = true := decide_eq_true c11
         clear c11
         have H' := Aside0.mk H
         clear H
         have p4 : 0 ≤ (0 : Int) := (by omega)
         have q4 : 0 < x0_1.size := (by have : (0 : Int) < (x0_1.size : Int) := of_decide_eq_true asA; omega)
         have hx4 : ∀ h : 0 < x0_1.size, ((x0_1[0]'h).toNat : Int) = bt x0_1 0 := bt_at x0_1 0
         clear p4
         have qi4 : (0 < (x0_1.size : Int)) = True := eq_true (of_decide_eq_true asA)
         replace q4 := eq_true q4
         try go_wp2_with (first | ((with_reducible refine gate_callee (f := 25) rfl ?_); refine goesL_ (some 13) rfl rfl Tryd.func25 (by kernel_rfl) rfl #[.int .u8 (bt x0_1 0)] rfl aP ?_; (with_reducible refine (lines_blank.calls (bt x0_1 0) false _ A5.out).mono ?_); rintro e w' ⟨rfl, ⟨nd, rfl⟩⟩; refine ⟨_, rfl, ?_⟩) | ((with_reducible refine gate_callee (f := 26) rfl ?_); refine goesL_ (some 18) rfl rfl Tryd.func26 (by kernel_rfl) rfl #[.string x0_1] rfl aP ?_; (with_reducible refine (lines_word.calls k1 x0_1 t115 t116 t117 _ A8.out).mono ?_); rintro e w12 ⟨rfl, hb⟩; refine ⟨_, rfl, ?_⟩; replace HO_4 := Aside0.mk (Kd.R_below (kR HO_4) hb); replace HB := Aside0.mk (below_step bA hb); (try clear hb); (try clear hb2); (try clear hk); (try clear hi)))
         all_goals (try (go_step3; try go_wp2_with (first | ((with_reducible refine gate_callee (f := 25) rfl ?_); refine goesL_ (some 13) rfl rfl Tryd.func25 (by kernel_rfl) rfl #[.int .u8 (bt x0_1 0)] rfl aP ?_; (with_reducible refine (lines_blank.calls (bt x0_1 0) false _ A5.out).mono ?_); rintro e w' ⟨rfl, ⟨nd, rfl⟩⟩; refine ⟨_, rfl, ?_⟩) | ((with_reducible refine gate_callee (f := 26) rfl ?_); refine goesL_ (some 18) rfl rfl Tryd.func26 (by kernel_rfl) rfl #[.string x0_1] rfl aP ?_; (with_reducible refine (lines_word.calls k1 x0_1 t115 t116 t117 _ A8.out).mono ?_); rintro e w12 ⟨rfl, hb⟩; refine ⟨_, rfl, ?_⟩; replace HO_4 := Aside0.mk (Kd.R_below (kR HO_4) hb); replace HB := Aside0.mk (below_step bA hb); (try clear hb); (try clear hb2); (try clear hk); (try clear hi)))))
         all_goals (try (go_step3; try go_wp2_with (first | ((with_reducible refine gate_callee (f := 25) rfl ?_); refine goesL_ (some 13) rfl rfl Tryd.func25 (by kernel_rfl) rfl #[.int .u8 (bt x0_1 0)] rfl aP ?_; (with_reducible refine (lines_blank.calls (bt x0_1 0) false _ A5.out).mono ?_); rintro e w' ⟨rfl, ⟨nd, rfl⟩⟩; refine ⟨_, rfl, ?_⟩) | ((with_reducible refine gate_callee (f := 26) rfl ?_); refine goesL_ (some 18) rfl rfl Tryd.func26 (by kernel_rfl) rfl #[.string x0_1] rfl aP ?_; (with_reducible refine (lines_word.calls k1 x0_1 t115 t116 t117 _ A8.out).mono ?_); rintro e w12 ⟨rfl, hb⟩; refine ⟨_, rfl, ?_⟩; replace HO_4 := Aside0.mk (Kd.R_below (kR HO_4) hb); replace HB := Aside0.mk (below_step bA hb); (try clear hb); (try clear hb2); (try clear hk); (try clear hi)))))
         have n0_ := Aside0.mk (Kd.R_drew HO_4.out)
         have n1_ := Aside0.mk (below_drew1 HB.out)
         clear HO_4
         clear HB
         have HO_4 := n0_
         have HB := n1_
         clear n0_ n1_
         refine start_ (n := 11) (S := fun w' => True) (ds := []) #[false, false, false, false, false, false, false, false, false, false, false] (by kernel_rfl) rfl rfl trivial (fun hHeld => ?_); refine with_tabW lines_Args.tab7 lines_Args.bits7 (fun HT_ HW_ => ?_)
         generalize w12.drew = w13 at HO_4 HB hHeld ⊢
         refine pure_ (i := 0) (N := some 22) (v := ?_) (a' := ?_) #[true, false, false, false, false, false, false, false, false, false, false] rfl rfl (any_of HT_.out (by kernel_rfl)) (fun _ _ _ h => h) (Or.inl ⟨by rfl, ?_⟩) ?_ ?_
         rotate_left
         ·intro w'
          go_simp
          with_reducible rfl
         rotate_left
         ·simp only [Act.put, List.setIfInBounds_toArray, List.set_cons_zero, List.set_cons_succ, i64_w, i32_w]
          rfl
         refine pure_ (i := 1) (N := some 23) (v := ?_) (a' := ?_) #[true, true, false, false, false, false, false, false, false, false, false] rfl rfl (any_of HT_.out (by kernel_rfl)) (fun _ _ _ h => h) (Or.inl ⟨by rfl, ?_⟩) ?_ ?_
         rotate_left
         ·intro w'
          go_simp
          with_reducible rfl
         rotate_left
         ·simp only [Act.put, List.setIfInBounds_toArray, List.set_cons_zero, List.set_cons_succ, i64_w, i32_w]
          rfl
         refine pure_ (i := 4) (N := some 26) (v := ?_) (a' := ?_) #[true, true, false, false, true, false, false, false, false, false, false] rfl rfl (any_of HT_.out (by kernel_rfl)) (fun _ _ _ h => h) (Or.inl ⟨by rfl, ?_⟩) ?_ ?_
         rotate_left
         ·intro w'
          go_simp
          with_reducible rfl
         rotate_left
         ·simp only [Act.put, List.setIfInBounds_toArray, List.set_cons_zero, List.set_cons_succ, i64_w, i32_w]
          rfl
         refine pure_ (i := 5) (N := some 27) (v := ?_) (a' := ?_) #[true, true, false, false, true, true, false, false, false, false, false] rfl rfl (any_of HT_.out (by kernel_rfl)) (fun _ _ _ h => h) (Or.inl ⟨by rfl, ?_⟩) ?_ ?_
         rotate_left
         ·intro w'
          go_simp
          with_reducible rfl
         rotate_left
         ·simp only [Act.put, List.setIfInBounds_toArray, List.set_cons_zero, List.set_cons_succ, i64_w, i32_w]
          rfl
         refine pure_ (i := 6) (N := some 28) (v := ?_) (a' := ?_) #[true, true, false, false, true, true, true, false, false, false, false] rfl rfl (any_of HT_.out (by kernel_rfl)) (fun _ _ _ h => h) (Or.inl ⟨by rfl, ?_⟩) ?_ ?_
         rotate_left
         ·intro w'
          go_simp
          with_reducible rfl
         rotate_left
         ·simp only [Act.put, List.setIfInBounds_toArray, List.set_cons_zero, List.set_cons_succ, i64_w, i32_w]
          rfl
         refine pure_ (i := 7) (N := some 29) (v := ?_) (a' := ?_) #[true, true, false, false, true, true, true, true, false, false, false] rfl rfl (any_of HT_.out (by kernel_rfl)) (fun _ _ _ h => h) (Or.inl ⟨by rfl, ?_⟩) ?_ ?_
         rotate_left
         ·intro w'
          go_simp
          with_reducible rfl
         rotate_left
         ·simp only [Act.put, List.setIfInBounds_toArray, List.set_cons_zero, List.set_cons_succ, i64_w, i32_w]
          rfl
         refine one_ (i := 2) (N := some 24) #[true, true, true, false, true, true, true, true, false, false, false] rfl rfl (one_of HT_.out (by kernel_rfl)) (by decide) (fun K hK => ?_)
         refine value_ (w1 := ?_) (v := ?_) (by rfl) rfl ?_ ?_
         rotate_left 2
         ·go_simp
          constructor
          ·rfl
          ·rfl
         refine hK.out _ _ trivial (fun hHeld => ?_)
         clear hK K
         refine norm_ (a' := ?_) ?_ ?_
         rotate_left
         ·show Act.put _ (some 24) _ = _
          simp only [Act.put, List.setIfInBounds_toArray, List.set_cons_zero, List.set_cons_succ, i64_w, i32_w]
          rfl
         refine one_ (i := 3) (N := some 25) #[true, true, true, true, true, true, true, true, false, false, false] rfl rfl (one_of HT_.out (by kernel_rfl)) (by decide) (fun K hK => ?_)
         refine Kd.R_append_step Kd.string (w0 := w) w.heap.size (by rfl) (.tmp 22) (.tmp 24) 23 9 (.string ⟨#[]⟩) 16 rfl Tryd.underlying23 info9 rfl (by decide) (by omega) u4 x4_1 t115 [.string t115] (fun _ => True) (fun _ => False) rfl rfl ?aP (fun _ hk => hk.elim) ?aF ?aO ?aB ?aS ?aL ?_
         (case aP => exact rfl)
         (case aB => exact bA)
         (case aF => exact (fun _ _ => trivial))
         (case aO => exact (kR HO_4))
         (case aS => exact (below_size bA))
         (case aL => have := LMc9.out; omega)
         intro v119 w14 ho hb hg hat
         rw [← Ny118.out] at ho
         have n0_ := Aside0.mk (hb)
         have n1_ := Aside0.mk (ho)
         clear HB
         clear HO_4
         have HB := n0_
         have HO120 := n1_
         clear n0_ n1_
         clear ho hb hg hat
         refine hK.out _ _ trivial (fun hHeld => ?_)
         clear hK K
         refine norm_ (a' := ?_) ?_ ?_
         rotate_left
         ·show Act.put _ (some 25) _ = _
          simp only [Act.put, List.setIfInBounds_toArray, List.set_cons_zero, List.set_cons_succ, i64_w, i32_w]
          rfl
         refine pure_ (i := 8) (N := some 4) (v := ?_) (a' := ?_) #[true, true, true, true, true, true, true, true, true, false, false] rfl rfl (any_of HT_.out (by kernel_rfl)) (fun _ _ _ h => h) (Or.inl ⟨by rfl, ?_⟩) ?_ ?_
         rotate_left
         ·intro w'
          go_simp
          with_reducible rfl
         rotate_left
         ·simp only [Act.put, List.setIfInBounds_toArray, List.set_cons_zero, List.set_cons_succ, i64_w, i32_w]
          rfl
         refine pure_ (i := 9) (N := some 0) (v := ?_) (a' := ?_) #[true, true, true, true, true, true, true, true, true, true, false] rfl rfl (any_of HT_.out (by kernel_rfl)) (fun _ _ _ h => h) (Or.inl ⟨by rfl, ?_⟩) ?_ ?_
         rotate_left
         ·intro w'
          go_simp
          with_reducible rfl
         rotate_left
         ·simp only [Act.put, List.setIfInBounds_toArray, List.set_cons_zero, List.set_cons_succ, i64_w, i32_w]
          rfl
         refine pure_ (i := 10) (N := some 5) (v := ?_) (a' := ?_) #[true, true, true, true, true, true, true, true, true, true, true] rfl rfl (any_of HT_.out (by kernel_rfl)) (fun _ _ _ h => h) (Or.inl ⟨by rfl, ?_⟩) ?_ ?_
         rotate_left
         ·intro w'
          go_simp
          with_reducible rfl
         rotate_left
         ·simp only [Act.put, List.setIfInBounds_toArray, List.set_cons_zero, List.set_cons_succ, i64_w, i32_w]
          rfl
         refine done_ (done_of HT_.out (by kernel_rfl)) ?_
         try go_wp2
         all_goals (try (go_step3; try go_wp2))
         all_goals (try (go_step3; try go_wp2))
         go_roundg k1
         case measure => have := HK1.out; omega
         case rel => exact ⟨(x0_1.extract (t116 : Int).toNat x0_1.size), (y118), (t117), sA, sA, H', ⟨by have := HK1.out; omega⟩, ⟨kR HO120⟩, ⟨bA⟩⟩
        ·rw [if_neg c11] at H
         exact absurd H (by simp)
       ·rw [if_neg c10] at H
        exact absurd H (by simp)
      ·rw [if_neg c9] at H
       exact absurd H (by simp)
    ·rw [if_neg c3] at H
     exact absurd H (by simp)

/-! ### lines_control: function 52 -/
def lines_control.f (a0 : ByteArray) : Option (ByteArray × Bool) := if a0.toList = ([] : List UInt8) then (some (a0, false)) else (if 0 < (a0.size : Int) then (if (bt a0 0) = 46 then (if 1 ≤ (a0.size : Int) then ((strings_TrimLeft.f (a0.extract 1 a0.size) (⟨#[32, 9]⟩ : ByteArray)).bind fun t121 => (some (t121, true))) else (none)) else (if (bt a0 0) = 39 then (if 1 ≤ (a0.size : Int) then ((strings_TrimLeft.f (a0.extract 1 a0.size) (⟨#[32, 9]⟩ : ByteArray)).bind fun t122 => (some (t122, true))) else (none)) else (some (a0, false)))) else (none))
theorem lines_control.calls (a0 : ByteArray) (r1 : ByteArray) (r2 : Bool) (w : World) (h : lines_control.f a0 = some (r1, r2)) :
  Calls Tryd.prog 52 #[.string a0] w fun e w' => e = .returned (.tuple #[.string r1, .bool r2]) ∧ Below w.heap.size w w' := by
 have HB := Aside0.mk (Below.refl w.heap.size w)
 have H : (if a0.toList = ([] : List UInt8) then (some (a0, false)) else (if 0 < (a0.size : Int) then (if (bt a0 0) = 46 then (if 1 ≤ (a0.size : Int) then ((strings_TrimLeft.f (a0.extract 1 a0.size) (⟨#[32, 9]⟩ : ByteArray)).bind fun t121 => (some (t121, true))) else (none)) else (if (bt a0 0) = 39 then (if 1 ≤ (a0.size : Int) then ((strings_TrimLeft.f (a0.extract 1 a0.size) (⟨#[32, 9]⟩ : ByteArray)).bind fun t122 => (some (t122, true))) else (none)) else (some (a0, false)))) else (none))) = some (r1, r2) := h
 clear h
 by_cases c2 : a0.toList = ([] : List UInt8)
 ·rw [if_pos c2] at H
  have c2b0 : (a0.toList == ([] : List UInt8)) = true := beq_iff_eq.mpr c2
  have c2b1 : (a0.toList != ([] : List UInt8)) = false := bne_eq_false_iff_eq.mpr c2
  clear c2
  simp only [Option.some.injEq, Prod.mk.injEq] at H
  obtain ⟨rfl, rfl⟩ := H
  go_enter Tryd.func52, Tryd.ntmps52
  go_wp2
  go_ret2
  exact ⟨eW, bA⟩
 ·rw [if_neg c2] at H
  have c2b0 : (a0.toList == ([] : List UInt8)) = false := beq_eq_false_iff_ne.mpr c2
  have c2b1 : (a0.toList != ([] : List UInt8)) = true := bne_iff_ne.mpr c2
  by_cases c3 : 0 < (a0.size : Int)
  ·rw [if_pos c3] at H
   have c3b0 : decide (0 < (a0.size : Int)) = true := decide_eq_true c3
   have c3b1 : decide (0 < a0.size) = true := decide_eq_true (by omega)
   clear c3
   by_cases c5 : (bt a0 0) = 46
   ·rw [if_pos c5] at H
    have c5b0 : ((bt a0 0) == 46) = true := beq_iff_eq.mpr c5
    have c5b1 : ((bt a0 0) != 46) = false := bne_eq_false_iff_eq.mpr c5
    clear c5
    by_cases c6 : 1 ≤ (a0.size : Int)
    ·rw [if_pos c6] at H
     have c6b0 := eq_true c6
     have c6b1 : decide (1 ≤ (a0.size : Int)) = true := decide_eq_true c6
     clear c6
     replace H := Option.bind_eq_some_iff.mp H
     obtain ⟨t121, A70, H⟩ := H
     replace H : (some (t121, true)) = some (r1, r2) := H
     have A7 := Aside0.mk A70
     clear A70
     simp only [Option.some.injEq, Prod.mk.injEq] at H
     obtain ⟨rfl, rfl⟩ := H
     have p4 : 0 ≤ (0 : Int) := (by omega)
     have q4 : 0 < a0.size := (by have : (0 : Int) < (a0.size : Int) := of_decide_eq_true asA; omega)
     have hx4 : ∀ h : 0 < a0.size, ((a0[0]'h).toNat : Int) = bt a0 0 := bt_at a0 0
     clear p4
     have qi4 : (0 < (a0.size : Int)) = True := eq_true (of_decide_eq_true asA)
     replace q4 := eq_true q4
     go_enter Tryd.func52, Tryd.ntmps52
     go_wp2_with (first | ((with_reducible refine gate_callee (f := 65) rfl ?_); refine goesL_ (some 19) rfl rfl Tryd.func65 (by kernel_rfl) rfl #[.string (a0.extract 1 a0.size), .string (⟨#[32, 9]⟩ : ByteArray)] rfl aP ?_; (with_reducible refine (strings_TrimLeft.calls (a0.extract 1 a0.size) (⟨#[32, 9]⟩ : ByteArray) t121 _ A7.out).mono ?_); rintro e w8 ⟨rfl, hb⟩; refine ⟨_, rfl, ?_⟩; replace HB := Aside0.mk (below_step bA hb); (try clear hb); (try clear hb2); (try clear hk); (try clear hi)))
     go_ret2
     exact ⟨eW, bA⟩
    ·rw [if_neg c6] at H
     exact absurd H (by simp)
   ·rw [if_neg c5] at H
    have c5b0 : ((bt a0 0) == 46) = false := beq_eq_false_iff_ne.mpr c5
    have c5b1 : ((bt a0 0) != 46) = true := bne_iff_ne.mpr c5
    by_cases c10 : (bt a0 0) = 39
    ·rw [if_pos c10] at H
     have c10b0 : ((bt a0 0) == 39) = true := beq_iff_eq.mpr c10
     have c10b1 : ((bt a0 0) != 39) = false := bne_eq_false_iff_eq.mpr c10
     clear c10
     by_cases c11 : 1 ≤ (a0.size : Int)
     ·rw [if_pos c11] at H
      have c11b0 := eq_true c11
      have c11b1 : decide (1 ≤ (a0.size : Int)) = true := decide_eq_true c11
      clear c11
      replace H := Option.bind_eq_some_iff.mp H
      obtain ⟨t122, A120, H⟩ := H
      replace H : (some (t122, true)) = some (r1, r2) := H
      have A12 := Aside0.mk A120
      clear A120
      simp only [Option.some.injEq, Prod.mk.injEq] at H
      obtain ⟨rfl, rfl⟩ := H
      have p4 : 0 ≤ (0 : Int) := (by omega)
      have q4 : 0 < a0.size := (by have : (0 : Int) < (a0.size : Int) := of_decide_eq_true asA; omega)
      have hx4 : ∀ h : 0 < a0.size, ((a0[0]'h).toNat : Int) = bt a0 0 := bt_at a0 0
      clear p4
      have qi4 : (0 < (a0.size : Int)) = True := eq_true (of_decide_eq_true asA)
      replace q4 := eq_true q4
      have p9 : 0 ≤ (0 : Int) := (by omega)
      have q9 : 0 < a0.size := (by have : (0 : Int) < (a0.size : Int) := of_decide_eq_true asA; omega)
      have hx9 : ∀ h : 0 < a0.size, ((a0[0]'h).toNat : Int) = bt a0 0 := bt_at a0 0
      clear p9
      have qi9 : (0 < (a0.size : Int)) = True := eq_true (of_decide_eq_true asA)
      replace q9 := eq_true q9
      go_enter Tryd.func52, Tryd.ntmps52
      go_wp2_with (first | ((with_reducible refine gate_callee (f := 65) rfl ?_); refine goesL_ (some 19) rfl rfl Tryd.func65 (by kernel_rfl) rfl #[.string (a0.extract 1 a0.size), .string (⟨#[32, 9]⟩ : ByteArray)] rfl aP ?_; (with_reducible refine (strings_TrimLeft.calls (a0.extract 1 a0.size) (⟨#[32, 9]⟩ : ByteArray) t122 _ A12.out).mono ?_); rintro e w13 ⟨rfl, hb⟩; refine ⟨_, rfl, ?_⟩; replace HB := Aside0.mk (below_step bA hb); (try clear hb); (try clear hb2); (try clear hk); (try clear hi)))
      go_ret2
      exact ⟨eW, bA⟩
     ·rw [if_neg c11] at H
      exact absurd H (by simp)
    ·rw [if_neg c10] at H
     have c10b0 : ((bt a0 0) == 39) = false := beq_eq_false_iff_ne.mpr c10
     have c10b1 : ((bt a0 0) != 39) = true := bne_iff_ne.mpr c10
     simp only [Option.some.injEq, Prod.mk.injEq] at H
     obtain ⟨rfl, rfl⟩ := H
     have p4 : 0 ≤ (0 : Int) := (by omega)
     have q4 : 0 < a0.size := (by have : (0 : Int) < (a0.size : Int) := of_decide_eq_true asA; omega)
     have hx4 : ∀ h : 0 < a0.size, ((a0[0]'h).toNat : Int) = bt a0 0 := bt_at a0 0
     clear p4
     have qi4 : (0 < (a0.size : Int)) = True := eq_true (of_decide_eq_true asA)
     replace q4 := eq_true q4
     have p9 : 0 ≤ (0 : Int) := (by omega)
     have q9 : 0 < a0.size := (by have : (0 : Int) < (a0.size : Int) := of_decide_eq_true asA; omega)
     have hx9 : ∀ h : 0 < a0.size, ((a0[0]'h).toNat : Int) = bt a0 0 := bt_at a0 0
     clear p9
     have qi9 : (0 < (a0.size : Int)) = True := eq_true (of_decide_eq_true asA)
     replace q9 := eq_true q9
     go_enter Tryd.func52, Tryd.ntmps52
     go_wp2
     go_ret2
     exact ⟨eW, bA⟩
  ·rw [if_neg c3] at H
   exact absurd H (by simp)

/-! ### lines_comment: function 51 -/
def lines_comment.l0 : Nat → ByteArray → Int → Option (Int)
 | 0, _, _ => none
 | k + 1, x0, x3 => if x3 < (x0.size : Int) then (if 0 ≤ x3 then (if (bt x0 x3) = 34 then (if x3 ≤ (x0.size : Int) then ((lines_tail.f (x0.extract 0 (x3 : Int).toNat)).bind fun t123 => (if (Int.tmod t123 2) = 1 then (some (wrap64 (x3 - 1))) else (lines_comment.l0 k x0 (wrap64 (x3 + 1))))) else (none)) else (lines_comment.l0 k x0 (wrap64 (x3 + 1)))) else (none)) else (some (-1))
def lines_comment.f (k : Nat) (a0 : ByteArray) : Option (Int) := lines_comment.l0 k a0 1
theorem lines_comment.mono_l : ∀ k, (∀ y0 y1, LeO (lines_comment.l0 k y0 y1) (lines_comment.l0 (k + 1) y0 y1))
 | 0 => fun _ _ r h => by simp [lines_comment.l0] at h
 | k + 1 => by
  have ih0 := lines_comment.mono_l k
  ·intro y0 y1
   unfold lines_comment.l0
   repeat' first
   | (with_reducible exact ih0 _ _)
   | (with_reducible exact LeO.refl _)
   | (with_reducible exact LeO.none _)
   | (with_reducible refine LeO.ite ?_ ?_)
   | (with_reducible refine LeO.bind ?_ (fun _ => ?_))
theorem lines_comment.mono : ∀ a0 k, LeO (lines_comment.f k a0) (lines_comment.f (k + 1) a0) := by
 intro a0 k
 have ih0 := lines_comment.mono_l k
 unfold lines_comment.f
 repeat' first
   | (with_reducible exact ih0 _ _)
   | (with_reducible exact LeO.refl _)
   | (with_reducible exact LeO.none _)
   | (with_reducible refine LeO.ite ?_ ?_)
   | (with_reducible refine LeO.bind ?_ (fun _ => ?_))
theorem lines_comment.calls (k : Nat) (a0 : ByteArray) (r : Int) (w : World) (h : lines_comment.f k a0 = some r) :
  Calls Tryd.prog 51 #[.string a0] w fun e w' => e = .returned (.int .i64 r) ∧ Below w.heap.size w w' := by
 have HB := Aside0.mk (Below.refl w.heap.size w)
 have H : (lines_comment.l0 k a0 1) = some r := h
 clear h
 have H' := Aside0.mk H
 clear H
 go_enter Tryd.func51, Tryd.ntmps51
 go_wp2
 go_loopg [3] k (fun kq v3 w' => ∃ (x3_1 : Int), v3 = .int .i64 x3_1 ∧ Aside0 (lines_comment.l0 kq a0 x3_1 = some r) ∧ Aside0 (kq ≤ k) ∧ Aside0 (Below w.heap.size w w'))
 case atStart => exact ⟨(1), sA, H', ⟨Nat.le_refl _⟩, ⟨bA⟩⟩
 case round =>
  clear H'
  obtain ⟨x3_1, rfl, HA, HK1, HB⟩ := hrel
  cases gk with
  | zero => exact absurd HA.out (by simp [lines_comment.l0])
  | succ k1 =>
   have H := HA.out
   clear HA
   simp only [lines_comment.l0] at H
   by_cases c2 : x3_1 < (a0.size : Int)
   ·rw [if_pos c2] at H
    have c2b0 : decide (x3_1 < (a0.size : Int)) = true := decide_eq_true c2
    clear c2
    by_cases c3 : 0 ≤ x3_1
    ·rw [if_pos c3] at H
     have c3b0 : decide (0 ≤ x3_1) = true := decide_eq_true c3
     clear c3
     by_cases c5 : (bt a0 x3_1) = 34
     ·rw [if_pos c5] at H
      have c5b0 : ((bt a0 x3_1) == 34) = true := beq_iff_eq.mpr c5
      have c5b1 : ((bt a0 x3_1) != 34) = false := bne_eq_false_iff_eq.mpr c5
      clear c5
      have c6b0 := eq_true (of_decide_eq_true asA : 0 ≤ x3_1)
      by_cases c7 : x3_1 ≤ (a0.size : Int)
      ·rw [if_pos c7] at H
       have c7b0 := eq_true c7
       have c7b1 : decide (x3_1 ≤ (a0.size : Int)) = true := decide_eq_true c7
       clear c7
       replace H := Option.bind_eq_some_iff.mp H
       obtain ⟨t123, A80, H⟩ := H
       replace H : (if (Int.tmod t123 2) = 1 then (some (wrap64 (x3_1 - 1))) else (lines_comment.l0 k1 a0 (wrap64 (x3_1 + 1)))) = some r := H
       have A8 := Aside0.mk A80
       clear A80
       by_cases c9 : (Int.tmod t123 2) = 1
       ·rw [if_pos c9] at H
        have c9b0 : ((Int.tmod t123 2) == 1) = true := beq_iff_eq.mpr c9
        have c9b1 : ((Int.tmod t123 2) != 1) = false := bne_eq_false_iff_eq.mpr c9
        clear c9
        obtain rfl := Option.some.inj H
        have p4 : 0 ≤ (x3_1 : Int) := of_decide_eq_true asA
        have q4 : x3_1 < (a0.size : Int) := of_decide_eq_true asA
        have hx4 := bt_at a0 x3_1
        replace p4 := eq_true p4
        replace q4 := eq_true q4
        go_wp2_with (first | (go_at_call 47; (with_reducible refine (lines_tail.calls (a0.extract 0 (x3_1 : Int).toNat) t123 _ A8.out).mono ?_); rintro e w10 ⟨rfl, hb⟩; replace HB := Aside0.mk (below_step bA hb); (try clear hb); (try clear hb2); (try clear hk); (try clear hi)))
        go_ret
        exact ⟨eW, bA⟩
       ·rw [if_neg c9] at H
        have c9b0 : ((Int.tmod t123 2) == 1) = false := beq_eq_false_iff_ne.mpr c9
        have c9b1 : ((Int.tmod t123 2) != 1) = true := bne_iff_ne.mpr c9
        have H' := Aside0.mk H
        clear H
        have p4 : 0 ≤ (x3_1 : Int) := of_decide_eq_true asA
        have q4 : x3_1 < (a0.size : Int) := of_decide_eq_true asA
        have hx4 := bt_at a0 x3_1
        replace p4 := eq_true p4
        replace q4 := eq_true q4
        go_wp2_with (first | (go_at_call 47; (with_reducible refine (lines_tail.calls (a0.extract 0 (x3_1 : Int).toNat) t123 _ A8.out).mono ?_); rintro e w11 ⟨rfl, hb⟩; replace HB := Aside0.mk (below_step bA hb); (try clear hb); (try clear hb2); (try clear hk); (try clear hi)))
        go_roundg k1
        case measure => have := HK1.out; omega
        case rel => exact ⟨(wrap64 (x3_1 + 1)), sA, H', ⟨by have := HK1.out; omega⟩, ⟨bA⟩⟩
      ·rw [if_neg c7] at H
       exact absurd H (by simp)
     ·rw [if_neg c5] at H
      have c5b0 : ((bt a0 x3_1) == 34) = false := beq_eq_false_iff_ne.mpr c5
      have c5b1 : ((bt a0 x3_1) != 34) = true := bne_iff_ne.mpr c5
      have H' := Aside0.mk H
      clear H
      have p4 : 0 ≤ (x3_1 : Int) := of_decide_eq_true asA
      have q4 : x3_1 < (a0.size : Int) := of_decide_eq_true asA
      have hx4 := bt_at a0 x3_1
      replace p4 := eq_true p4
      replace q4 := eq_true q4
      go_wp2
      go_roundg k1
      case measure => have := HK1.out; omega
      case rel => exact ⟨(wrap64 (x3_1 + 1)), sA, H', ⟨by have := HK1.out; omega⟩, ⟨bA⟩⟩
    ·rw [if_neg c3] at H
     exact absurd H (by simp)
   ·rw [if_neg c2] at H
    have c2b0 : decide (x3_1 < (a0.size : Int)) = false := decide_eq_false c2
    clear c2
    obtain rfl := Option.some.inj H
    go_wp2
    go_ret
    exact ⟨eW, bA⟩

/-! ### stringslite_TrimSuffix: function 53 -/
def stringslite_TrimSuffix.f (a0 : ByteArray) (a1 : ByteArray) : Option (ByteArray) := (stringslite_HasSuffix.f a0 a1).bind fun t124 => (if t124 = true then (if 0 ≤ (wrap64 ((a0.size : Int) - (a1.size : Int))) then (if (wrap64 ((a0.size : Int) - (a1.size : Int))) ≤ (a0.size : Int) then (some (a0.extract 0 ((wrap64 ((a0.size : Int) - (a1.size : Int))) : Int).toNat)) else (none)) else (none)) else (some a0))
theorem stringslite_TrimSuffix.calls (a0 : ByteArray) (a1 : ByteArray) (r : ByteArray) (w : World) (h : stringslite_TrimSuffix.f a0 a1 = some r) :
  Calls Tryd.prog 53 #[.string a0, .string a1] w fun e w' => e = .returned (.string r) ∧ Drawn0 w w' := by
 have H : ((stringslite_HasSuffix.f a0 a1).bind fun t124 => (if t124 = true then (if 0 ≤ (wrap64 ((a0.size : Int) - (a1.size : Int))) then (if (wrap64 ((a0.size : Int) - (a1.size : Int))) ≤ (a0.size : Int) then (some (a0.extract 0 ((wrap64 ((a0.size : Int) - (a1.size : Int))) : Int).toNat)) else (none)) else (none)) else (some a0))) = some r := h
 clear h
 replace H := Option.bind_eq_some_iff.mp H
 obtain ⟨t124, A30, H⟩ := H
 replace H : (if t124 = true then (if 0 ≤ (wrap64 ((a0.size : Int) - (a1.size : Int))) then (if (wrap64 ((a0.size : Int) - (a1.size : Int))) ≤ (a0.size : Int) then (some (a0.extract 0 ((wrap64 ((a0.size : Int) - (a1.size : Int))) : Int).toNat)) else (none)) else (none)) else (some a0)) = some r := H
 have A3 := Aside0.mk A30
 clear A30
 by_cases c4 : t124 = true
 ·subst c4
  have H1 : (if 0 ≤ (wrap64 ((a0.size : Int) - (a1.size : Int))) then (if (wrap64 ((a0.size : Int) - (a1.size : Int))) ≤ (a0.size : Int) then (some (a0.extract 0 ((wrap64 ((a0.size : Int) - (a1.size : Int))) : Int).toNat)) else (none)) else (none)) = some r := by rw [if_pos rfl] at H; exact H
  clear H
  have H := H1
  clear H1
  obtain ⟨ji5, hji5⟩ : ∃ j_ : Int, (wrap64 ((a0.size : Int) - (a1.size : Int))) = j_ := ⟨_, rfl⟩
  replace H : (if 0 ≤ (ji5) then (if (ji5) ≤ (a0.size : Int) then (some (a0.extract 0 ((ji5) : Int).toNat)) else (none)) else (none)) = some r := by first | (rw [hji5] at H; exact H) | (simp only [hji5] at H ⊢; exact H)
  (try rw [hji5] at A3)
  have hji5w : (IntKind.i64.wrap ((a0.size : Int) - (a1.size : Int))) = ji5 := (i64_w _).trans hji5
  by_cases c6 : 0 ≤ (ji5)
  ·rw [if_pos c6] at H
   have c6b0 := eq_true c6
   have c6b1 : decide (0 ≤ (ji5)) = true := decide_eq_true c6
   clear c6
   by_cases c7 : (ji5) ≤ (a0.size : Int)
   ·rw [if_pos c7] at H
    have c7b0 := eq_true c7
    have c7b1 : decide ((ji5) ≤ (a0.size : Int)) = true := decide_eq_true c7
    clear c7
    obtain rfl := Option.some.inj H
    go_enter Tryd.func53, Tryd.ntmps53
    go_wp2_with (first | ((with_reducible refine gate_callee (f := 55) rfl ?_); refine goesL_ (some 7) rfl rfl Tryd.func55 (by kernel_rfl) rfl #[.string a0, .string a1] rfl aP ?_; (with_reducible refine (stringslite_HasSuffix.calls a0 a1 true _ A3.out).mono ?_); rintro e w' ⟨rfl, ⟨nd, rfl⟩⟩; refine ⟨_, rfl, ?_⟩))
    go_ret
    exact ⟨by first | rfl | (simp; done) | (simp only [← hji5] <;> (first | rfl | simp)) | (simp [*]; done), by repeat (first | exact Drawn0.refl _ | apply Drawn0.step)⟩
   ·rw [if_neg c7] at H
    exact absurd H (by simp)
  ·rw [if_neg c6] at H
   exact absurd H (by simp)
 ·replace c4 := Bool.eq_false_iff.mpr c4
  subst c4
  have H1 : (some a0) = some r := by rw [if_neg (show ¬ (false = true) by decide)] at H; exact H
  clear H
  have H := H1
  clear H1
  obtain rfl := Option.some.inj H
  go_enter Tryd.func53, Tryd.ntmps53
  go_wp2_with (first | ((with_reducible refine gate_callee (f := 55) rfl ?_); refine goesL_ (some 7) rfl rfl Tryd.func55 (by kernel_rfl) rfl #[.string a0, .string a1] rfl aP ?_; (with_reducible refine (stringslite_HasSuffix.calls a0 a1 false _ A3.out).mono ?_); rintro e w' ⟨rfl, ⟨nd, rfl⟩⟩; refine ⟨_, rfl, ?_⟩))
  go_ret
  exact ⟨sA, by repeat (first | exact Drawn0.refl _ | apply Drawn0.step)⟩

/-! ### strings_TrimSuffix: function 33 -/
def strings_TrimSuffix.f (a0 : ByteArray) (a1 : ByteArray) : Option (ByteArray) := (stringslite_TrimSuffix.f a0 a1).bind fun t125 => (some t125)
theorem strings_TrimSuffix.calls (a0 : ByteArray) (a1 : ByteArray) (r : ByteArray) (w : World) (h : strings_TrimSuffix.f a0 a1 = some r) :
  Calls Tryd.prog 33 #[.string a0, .string a1] w fun e w' => e = .returned (.string r) ∧ Drawn0 w w' := by
 have H : ((stringslite_TrimSuffix.f a0 a1).bind fun t125 => (some t125)) = some r := h
 clear h
 replace H := Option.bind_eq_some_iff.mp H
 obtain ⟨t125, A30, H⟩ := H
 replace H : (some t125) = some r := H
 have A3 := Aside0.mk A30
 clear A30
 obtain rfl := Option.some.inj H
 go_enter Tryd.func33, Tryd.ntmps33
 go_wp2_with (first | ((with_reducible refine gate_callee (f := 53) rfl ?_); refine goesL_ (some 7) rfl rfl Tryd.func53 (by kernel_rfl) rfl #[.string a0, .string a1] rfl aP ?_; (with_reducible refine (stringslite_TrimSuffix.calls a0 a1 t125 _ A3.out).mono ?_); rintro e w' ⟨rfl, ⟨nd, rfl⟩⟩; refine ⟨_, rfl, ?_⟩))
 go_ret
 exact ⟨sA, by repeat (first | exact Drawn0.refl _ | apply Drawn0.step)⟩

/-! ### flongref05_SameTexts: function 14 -/
def flongref05_SameTexts.l0 : Nat → List ByteArray → List ByteArray → Int → Option (Bool)
 | 0, _, _, _ => none
 | k + 1, x0, x1, x5 => if x5 < (x0.length : Int) then (if 0 ≤ x5 then (if x5 < (x1.length : Int) then (if (rdOf ByteArray.empty x0 x5).toList = (rdOf ByteArray.empty x1 x5).toList then (flongref05_SameTexts.l0 k x0 x1 (wrap64 (x5 + 1))) else (some false)) else (none)) else (none)) else (some true)
def flongref05_SameTexts.f (k : Nat) (l0 : List ByteArray) (l1 : List ByteArray) : Option (Bool) := if (l0.length : Int) = (l1.length : Int) then (flongref05_SameTexts.l0 k l0 l1 0) else (some false)
theorem flongref05_SameTexts.mono_l : ∀ k, (∀ y0 y1 y2, LeO (flongref05_SameTexts.l0 k y0 y1 y2) (flongref05_SameTexts.l0 (k + 1) y0 y1 y2))
 | 0 => fun _ _ _ r h => by simp [flongref05_SameTexts.l0] at h
 | k + 1 => by
  have ih0 := flongref05_SameTexts.mono_l k
  ·intro y0 y1 y2
   unfold flongref05_SameTexts.l0
   repeat' first
   | (with_reducible exact ih0 _ _ _)
   | (with_reducible exact LeO.refl _)
   | (with_reducible exact LeO.none _)
   | (with_reducible refine LeO.ite ?_ ?_)
   | (with_reducible refine LeO.bind ?_ (fun _ => ?_))
theorem flongref05_SameTexts.mono : ∀ a0 a1 k, LeO (flongref05_SameTexts.f k a0 a1) (flongref05_SameTexts.f (k + 1) a0 a1) := by
 intro a0 a1 k
 have ih0 := flongref05_SameTexts.mono_l k
 unfold flongref05_SameTexts.f
 repeat' first
   | (with_reducible exact ih0 _ _ _)
   | (with_reducible exact LeO.refl _)
   | (with_reducible exact LeO.none _)
   | (with_reducible refine LeO.ite ?_ ?_)
   | (with_reducible refine LeO.bind ?_ (fun _ => ?_))
theorem flongref05_SameTexts.calls (k : Nat) (A0 : Option Addr) (c0 : Nat) (l0 : List ByteArray) (A1 : Option Addr) (c1 : Nat) (l1 : List ByteArray) (r : Bool) (w : World) (hr0 : Kd.C Kd.string w A0 l0.length l0) (hc0 : l0.length ≤ c0) (hr1 : Kd.C Kd.string w A1 l1.length l1) (hc1 : l1.length ≤ c1) (h : flongref05_SameTexts.f k l0 l1 = some r) :
  Calls Tryd.prog 14 #[.slice A0 l0.length c0, .slice A1 l1.length c1] w fun e w' => e = .returned (.bool r) ∧ Drawn0 w w' := by
 have HR0 := Aside0.mk hr0
 have HC0 := Aside0.mk hc0
 clear hr0 hc0
 have HR1 := Aside0.mk hr1
 have HC1 := Aside0.mk hc1
 clear hr1 hc1
 have H : (if (l0.length : Int) = (l1.length : Int) then (flongref05_SameTexts.l0 k l0 l1 0) else (some false)) = some r := h
 clear h
 by_cases c3 : (l0.length : Int) = (l1.length : Int)
 ·rw [if_pos c3] at H
  have c3b0 : ((l0.length : Int) == (l1.length : Int)) = true := beq_iff_eq.mpr c3
  have c3b1 : ((l0.length : Int) != (l1.length : Int)) = false := bne_eq_false_iff_eq.mpr c3
  have c3b2 : (l0.length == l1.length) = true := by first | simpa using c3 | (simp at c3 ⊢; omega)
  clear c3
  have H' := Aside0.mk H
  clear H
  go_enter Tryd.func14, Tryd.ntmps14
  go_wp2
  repeat (go_quiet (fail); try go_wp2)
  go_loopg [5] k (fun kq v5 w' => ∃ (x5_1 : Int), v5 = .int .i64 x5_1 ∧ Aside0 (flongref05_SameTexts.l0 kq l0 l1 x5_1 = some r) ∧ Aside0 (kq ≤ k) ∧ Drawn0 w w')
  case atStart => exact ⟨(0), sA, H', ⟨Nat.le_refl _⟩, by repeat (first | exact Drawn0.refl _ | apply Drawn0.step)⟩
  case round =>
   clear H'
   try clear c1
   try clear p2
   try clear c3
   try clear c3b0
   try clear c3b1
   try clear c3b2
   obtain ⟨x5_1, rfl, HA, HK1, ⟨m1, rfl⟩⟩ := hrel
   cases gk with
   | zero => exact absurd HA.out (by simp [flongref05_SameTexts.l0])
   | succ k1 =>
    have H := HA.out
    clear HA
    simp only [flongref05_SameTexts.l0] at H
    by_cases c4 : x5_1 < (l0.length : Int)
    ·rw [if_pos c4] at H
     have c4b0 : decide (x5_1 < (l0.length : Int)) = true := decide_eq_true c4
     clear c4
     by_cases c5 : 0 ≤ x5_1
     ·rw [if_pos c5] at H
      have c5b0 : decide (0 ≤ x5_1) = true := decide_eq_true c5
      clear c5
      by_cases c6 : x5_1 < (l1.length : Int)
      ·rw [if_pos c6] at H
       have c6b0 : decide (x5_1 < (l1.length : Int)) = true := decide_eq_true c6
       clear c6
       by_cases c7 : (rdOf ByteArray.empty l0 x5_1).toList = (rdOf ByteArray.empty l1 x5_1).toList
       ·rw [if_pos c7] at H
        have c7b0 : ((rdOf ByteArray.empty l0 x5_1).toList == (rdOf ByteArray.empty l1 x5_1).toList) = true := beq_iff_eq.mpr c7
        have c7b1 : ((rdOf ByteArray.empty l0 x5_1).toList != (rdOf ByteArray.empty l1 x5_1).toList) = false := bne_eq_false_iff_eq.mpr c7
        clear c7
        have H' := Aside0.mk H
        clear H
        have p126 : 0 ≤ (x5_1 : Int) := of_decide_eq_true asA
        have q126 : x5_1 < (l0.length : Int) := of_decide_eq_true asA
        obtain ⟨ad126, e126, hx126_0⟩ := Kd.at_string HR0.out x5_1 p126 q126
        cases e126
        replace p126 := eq_true p126
        replace q126 := eq_true q126
        have p127 : 0 ≤ (x5_1 : Int) := of_decide_eq_true asA
        have q127 : x5_1 < (l1.length : Int) := of_decide_eq_true asA
        obtain ⟨ad127, e127, hx127_0⟩ := Kd.at_string HR1.out x5_1 p127 q127
        cases e127
        replace p127 := eq_true p127
        replace q127 := eq_true q127
        go_wp2
        repeat (go_quiet (fail); try go_wp2)
        go_roundg k1
        case measure => have := HK1.out; omega
        case rel => exact ⟨(wrap64 (x5_1 + 1)), sA, H', ⟨by have := HK1.out; omega⟩, by repeat (first | exact Drawn0.refl _ | apply Drawn0.step)⟩
       ·rw [if_neg c7] at H
        have c7b0 : ((rdOf ByteArray.empty l0 x5_1).toList == (rdOf ByteArray.empty l1 x5_1).toList) = false := beq_eq_false_iff_ne.mpr c7
        have c7b1 : ((rdOf ByteArray.empty l0 x5_1).toList != (rdOf ByteArray.empty l1 x5_1).toList) = true := bne_iff_ne.mpr c7
        obtain rfl := Option.some.inj H
        have p126 : 0 ≤ (x5_1 : Int) := of_decide_eq_true asA
        have q126 : x5_1 < (l0.length : Int) := of_decide_eq_true asA
        obtain ⟨ad126, e126, hx126_0⟩ := Kd.at_string HR0.out x5_1 p126 q126
        cases e126
        replace p126 := eq_true p126
        replace q126 := eq_true q126
        have p127 : 0 ≤ (x5_1 : Int) := of_decide_eq_true asA
        have q127 : x5_1 < (l1.length : Int) := of_decide_eq_true asA
        obtain ⟨ad127, e127, hx127_0⟩ := Kd.at_string HR1.out x5_1 p127 q127
        cases e127
        replace p127 := eq_true p127
        replace q127 := eq_true q127
        go_wp2
        repeat (go_quiet (fail); try go_wp2)
        go_ret
        exact ⟨sA, by repeat (first | exact Drawn0.refl _ | apply Drawn0.step)⟩
      ·rw [if_neg c6] at H
       exact absurd H (by simp)
     ·rw [if_neg c5] at H
      exact absurd H (by simp)
    ·rw [if_neg c4] at H
     have c4b0 : decide (x5_1 < (l0.length : Int)) = false := decide_eq_false c4
     clear c4
     obtain rfl := Option.some.inj H
     go_wp2
     repeat (go_quiet (fail); try go_wp2)
     go_ret
     exact ⟨sA, by repeat (first | exact Drawn0.refl _ | apply Drawn0.step)⟩
 ·rw [if_neg c3] at H
  have c3b0 : ((l0.length : Int) == (l1.length : Int)) = false := beq_eq_false_iff_ne.mpr c3
  have c3b1 : ((l0.length : Int) != (l1.length : Int)) = true := bne_iff_ne.mpr c3
  have c3b2 : (l0.length == l1.length) = false := by first | simpa using c3 | (simp at c3 ⊢; omega)
  obtain rfl := Option.some.inj H
  go_enter Tryd.func14, Tryd.ntmps14
  go_wp2
  repeat (go_quiet (fail); try go_wp2)
  go_ret
  exact ⟨sA, by repeat (first | exact Drawn0.refl _ | apply Drawn0.step)⟩

end Go.Proofs.YtmfkokjbjmahkaaDoor.X
