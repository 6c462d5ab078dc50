-- Written by this session's xprint.py (a variant of the kit's printer). Not trusted: Lean checks it.
import Derived.Test.YtdjepocklmlnbaaDoorX0
import Derived.Test.YtdjepocklmlnbaaDoorSlim
import Derived.Test.YtdjepocklmlnbaaDoorX2
import Derived.Test.YtdjepocklmlnbaaDoorX3
import Derived.Test.YtdjepocklmlnbaaDoorX5
import Derived.Test.YtdjepocklmlnbaaDoorX7
import Derived.Test.YtdjepocklmlnbaaDoorX8
import Derived.Test.YtdjepocklmlnbaaDoorHandA
import Derived.Test.YtdjepocklmlnbaaDoorHandW
namespace Go.Proofs.YtdjepocklmlnbaaDoor.X
open Go.Proofs.YtdjepocklmlnbaaDoor.Hand
open Go.RowKit Go.Proofs.YtdjepocklmlnbaaDoorW.PrintWords Go.Proofs.YtdjepocklmlnbaaDoorW.PrintLast Go.Proofs.YtdjepocklmlnbaaDoorW.PrintMore
attribute [local go_sem] max2_int min2_int max_two min_two max_three min_three max_four min_four   -- for this text's walks alone
set_option linter.unusedVariables false
set_option maxHeartbeats 8000000
set_option maxRecDepth 100000
set_option linter.unusedSimpArgs false

/-! ### flonglaw19_AnsiJoins: function 6 -/
def flonglaw19_AnsiJoins.j0 : Nat → List (S35) → List (S35) → List (S44) → Bool → Option (Bool)
 | 0, _, _, _, _ => none
 | k + 1, x0, x1, x2, x21 => if x21 = true then ((flonglaw19_known.f k).bind fun t325 => (some t325)) else (if ([] : List (S35)).length + x0.length < 3518437208883 then ((some (([] : List (S35)) ++ x0 : List (S35))).bind fun y326 => (if y326.length + x1.length < 3518437208883 then ((ansi_Write.f k x0).bind fun t332 => ((ansi_Write.f k x1).bind fun t335 => (if t332.length + t335.length < 140737488355328 then ((flongref17_Erase.f k x2).bind fun t341 => ((flongref17_Normal.f k x2).bind fun t344 => ((flongref03_Text.f k t344).bind fun t347 => ((ansi_Write.f k (y326 ++ x1)).bind fun t348 => ((flongref00_Same.f t348 (t332 ++ t335)).bind fun t351 => (if t351 = true then ((ansi_Row.f k t341).bind fun t352 => ((flongref17_Normal.f k t341).bind fun t355 => ((flongref03_Text.f k t355).bind fun t358 => (if (strOfNums t352).toList = t358.toList then ((ansi_Row.f k x2).bind fun t359 => ((ansi_Strip.f k t359).bind fun t362 => (if (strOfNums t362).toList = t347.toList then ((flonglaw19_known.f k).bind fun t365 => (some t365)) else (some false)))) else (some false))))) else (some false))))))) else (none)))) else (none))) else (none))
def flonglaw19_AnsiJoins.f (k : Nat) (l0 : List (S35)) (l1 : List (S35)) (l2 : List (S44)) : Option (Bool) := (flongref17_Long.f k l0).bind fun t323 => (if t323 = true then (flonglaw19_AnsiJoins.j0 k l0 l1 l2 true) else ((flongref17_Long.f k l1).bind fun t324 => (if t324 = true then (flonglaw19_AnsiJoins.j0 k l0 l1 l2 true) else (flonglaw19_AnsiJoins.j0 k l0 l1 l2 (decide ((l2.length : Int) > 200))))))
theorem flonglaw19_AnsiJoins.mono_l : ∀ k, (∀ y0 y1 y2 y3, LeO (flonglaw19_AnsiJoins.j0 k y0 y1 y2 y3) (flonglaw19_AnsiJoins.j0 (k + 1) y0 y1 y2 y3))
 | 0 => fun _ _ _ _ r h => by simp [flonglaw19_AnsiJoins.j0] at h
 | k + 1 => by
  have ih0 := flonglaw19_AnsiJoins.mono_l k
  ·intro y0 y1 y2 y3
   unfold flonglaw19_AnsiJoins.j0
   repeat' first
   | (with_reducible exact ih0 _ _ _ _)
   | (with_reducible exact ansi_Row.mono _ _)
   | (with_reducible exact ansi_Strip.mono _ _)
   | (with_reducible exact ansi_Write.mono _ _)
   | (with_reducible exact flonglaw19_known.mono _)
   | (with_reducible exact flongref03_Text.mono _ _)
   | (with_reducible exact flongref17_Erase.mono _ _)
   | (with_reducible exact flongref17_Long.mono _ _)
   | (with_reducible exact flongref17_Normal.mono _ _)
   | (with_reducible exact LeO.refl _)
   | (with_reducible exact LeO.none _)
   | (with_reducible refine LeO.ite ?_ ?_)
   | (with_reducible refine LeO.bind ?_ (fun _ => ?_))
theorem flonglaw19_AnsiJoins.mono : ∀ a0 a1 a2 k, LeO (flonglaw19_AnsiJoins.f k a0 a1 a2) (flonglaw19_AnsiJoins.f (k + 1) a0 a1 a2) := by
 intro a0 a1 a2 k
 have ih0 := flonglaw19_AnsiJoins.mono_l k
 unfold flonglaw19_AnsiJoins.f
 repeat' first
   | (with_reducible exact ih0 _ _ _ _)
   | (with_reducible exact ansi_Row.mono _ _)
   | (with_reducible exact ansi_Strip.mono _ _)
   | (with_reducible exact ansi_Write.mono _ _)
   | (with_reducible exact flonglaw19_known.mono _)
   | (with_reducible exact flongref03_Text.mono _ _)
   | (with_reducible exact flongref17_Erase.mono _ _)
   | (with_reducible exact flongref17_Long.mono _ _)
   | (with_reducible exact flongref17_Normal.mono _ _)
   | (with_reducible exact LeO.refl _)
   | (with_reducible exact LeO.none _)
   | (with_reducible refine LeO.ite ?_ ?_)
   | (with_reducible refine LeO.bind ?_ (fun _ => ?_))
def flonglaw19_AnsiJoins.T10 : Bool × List (List Nat × List Nat) := (true, [([], []), ([0], [0]), ([], []), ([1, 2, 1], [1, 2]), ([3, 3], [3]), ([4], [4]), ([5, 4, 4], [4, 5]), ([6, 4], [4, 6]), ([4], [4]), ([8, 6, 4], [4, 8]), ([9, 9, 4], [4, 9]), ([7, 10, 4], [4, 7, 10]), ([4, 11], [4, 11]), ([12, 10], [12]), ([13], [13]), ([14, 13, 13], [13, 14]), ([15, 15, 13], [13, 15]), ([16, 13], [13, 16]), ([13], [13]), ([17, 18, 13], [13, 17, 18]), ([13, 19], [13, 19]), ([20, 16], [20]), ([21, 21], [21]), ([21, 22], [21, 22]), ([23, 22, 0, 1, 2, 3, 4, 5, 6, 7, 8, 9, 10, 11, 12, 13, 14, 15, 16, 17, 18, 19, 20, 21, 22, 23], [23])])
def flonglaw19_AnsiJoins.B10 : List Nat := [0, 1, 0, 7, 15, 31, 63, 127, 31, 383, 895, 2047, 4095, 8191, 16383, 32767, 65535, 131071, 16383, 524287, 1048575, 2097151, 4194303, 8388607, 16777215]
theorem flonglaw19_AnsiJoins.tab10 : rtab .any (opsOf Tryd.f6 10) = flonglaw19_AnsiJoins.T10 := by kernel_rfl
theorem flonglaw19_AnsiJoins.bits10 : waitsOk flonglaw19_AnsiJoins.T10.2 flonglaw19_AnsiJoins.B10 = true := by kernel_rfl
theorem flonglaw19_AnsiJoins.calls (k : Nat) (P0_ : Nat → Prop) (A0 : Option Addr) (c0 : Nat) (l0 : List (S35)) (P1_ : Nat → Prop) (A1 : Option Addr) (c1 : Nat) (l1 : List (S35)) (A2 : Option Addr) (c2 : Nat) (l2 : List (S44)) (r : Bool) (w : World) (hs0 : Kd.V k35 35 w w.heap.size (fun k_ => P0_ k_) (.slice A0 l0.length c0) l0) (hs1 : Kd.V k35 35 w w.heap.size (fun k_ => P1_ k_) (.slice A1 l1.length c1) l1) (hr2 : Kd.C k44 w A2 l2.length l2) (hc2 : l2.length ≤ c2) (hG : GOK [0,1,2] w) (h : flonglaw19_AnsiJoins.f k l0 l1 l2 = some r) :
  Calls Tryd.prog 6 #[.slice A0 l0.length c0, .slice A1 l1.length c1, .slice A2 l2.length c2] w fun e w' => e = .returned (.bool r) ∧ Below w.heap.size w w' := by
 have HG := Aside0.mk hG
 clear hG
 have HO0 := Aside0.mk (show Kd.V k35 35 w w.heap.size (fun k_ => ((P0_ k_ ∨ P1_ k_) ∨ w.heap.size ≤ k_)) (.slice A0 l0.length c0) l0 from Kd.V_mono hs0 (fun k_ hk => .inl (.inl hk)))
 have HO1 := Aside0.mk (show Kd.V k35 35 w w.heap.size (fun k_ => ((P0_ k_ ∨ P1_ k_) ∨ w.heap.size ≤ k_)) (.slice A1 l1.length c1) l1 from Kd.V_mono hs1 (fun k_ hk => .inl (.inr hk)))
 have HR2 := Aside0.mk hr2
 have HC2 := Aside0.mk hc2
 clear hr2 hc2
 have HB := Aside0.mk (Below.refl w.heap.size w)
 have H : ((flongref17_Long.f k l0).bind fun t323 => (if t323 = true then (flonglaw19_AnsiJoins.j0 k l0 l1 l2 true) else ((flongref17_Long.f k l1).bind fun t324 => (if t324 = true then (flonglaw19_AnsiJoins.j0 k l0 l1 l2 true) else (flonglaw19_AnsiJoins.j0 k l0 l1 l2 (decide ((l2.length : Int) > 200))))))) = some r := h
 clear h
 have HC4 := Aside0.mk H
 clear H
 go_enter Tryd.func6, Tryd.ntmps6
 go_upto_region 1 with (fail)
 go_cut [21] (fun v21 wc => ∃ (kq : Nat) (x21_3 : Bool), v21 = .bool x21_3 ∧ Aside0 (flonglaw19_AnsiJoins.j0 kq l0 l1 l2 x21_3 = some r) ∧ Aside0 (kq ≤ k) ∧ Aside0 (Kd.V k35 35 wc w.heap.size (fun k_ => ((P0_ k_ ∨ P1_ k_) ∨ w.heap.size ≤ k_)) (.slice A0 l0.length c0) l0) ∧ Aside0 (Kd.V k35 35 wc w.heap.size (fun k_ => ((P0_ k_ ∨ P1_ k_) ∨ w.heap.size ≤ k_)) (.slice A1 l1.length c1) l1) ∧ Aside0 (Below w.heap.size w wc))
 case first =>
  have H := HC4.out
  clear HC4
  replace H := Option.bind_eq_some_iff.mp H
  obtain ⟨t323, A50, H⟩ := H
  replace H : (if t323 = true then (flonglaw19_AnsiJoins.j0 k l0 l1 l2 true) else ((flongref17_Long.f k l1).bind fun t324 => (if t324 = true then (flonglaw19_AnsiJoins.j0 k l0 l1 l2 true) else (flonglaw19_AnsiJoins.j0 k l0 l1 l2 (decide ((l2.length : Int) > 200)))))) = some r := H
  have A5 := Aside0.mk A50
  clear A50
  by_cases c6 : t323 = true
  ·subst c6
   have H1 : (flonglaw19_AnsiJoins.j0 k l0 l1 l2 true) = some r := by rw [if_pos rfl] at H; exact H
   clear H
   have H := H1
   clear H1
   have H' := Aside0.mk H
   clear H
   go_wp2_with (first | ((with_reducible refine gate_callee (f := 15) rfl ?_); refine goesL_ (some 12) rfl rfl Tryd.func15 (by kernel_rfl) rfl #[.slice A0 l0.length c0] rfl aP ?_; (with_reducible refine (flongref17_Long.calls k _ _ l0 true _ ?side1 ?side2 A5.out).mono ?_); (case side1 => repeat (first | exact (Kd.V_reads' HO0.out).2.2 | (with_reducible refine Kd.C_alloc ?_ _) | (with_reducible refine Kd.C_drewN ?_ _) | (with_reducible refine Kd.C_drew ?_))); (case side2 => exact (Kd.V_reads' HO0.out).2.1); rintro e w' ⟨rfl, ⟨nd, rfl⟩⟩; refine ⟨_, rfl, ?_⟩))
   go_meet
   case rel => exact ⟨_, (true), sA, H', ⟨by first | omega | exact Nat.le_refl _⟩, ⟨kV HO0⟩, ⟨kV HO1⟩, ⟨bA⟩⟩
  ·replace c6 := Bool.eq_false_iff.mpr c6
   subst c6
   have H1 : ((flongref17_Long.f k l1).bind fun t324 => (if t324 = true then (flonglaw19_AnsiJoins.j0 k l0 l1 l2 true) else (flonglaw19_AnsiJoins.j0 k l0 l1 l2 (decide ((l2.length : Int) > 200))))) = some r := by rw [if_neg (show ¬ (false = true) by decide)] at H; exact H
   clear H
   have H := H1
   clear H1
   replace H := Option.bind_eq_some_iff.mp H
   obtain ⟨t324, A70, H⟩ := H
   replace H : (if t324 = true then (flonglaw19_AnsiJoins.j0 k l0 l1 l2 true) else (flonglaw19_AnsiJoins.j0 k l0 l1 l2 (decide ((l2.length : Int) > 200)))) = some r := H
   have A7 := Aside0.mk A70
   clear A70
   by_cases c8 : t324 = true
   ·subst c8
    have H1 : (flonglaw19_AnsiJoins.j0 k l0 l1 l2 true) = some r := by rw [if_pos rfl] at H; exact H
    clear H
    have H := H1
    clear H1
    have H' := Aside0.mk H
    clear H
    go_wp2_with (first | ((with_reducible refine gate_callee (f := 15) rfl ?_); refine goesL_ (some 12) rfl rfl Tryd.func15 (by kernel_rfl) rfl #[.slice A0 l0.length c0] rfl aP ?_; (with_reducible refine (flongref17_Long.calls k _ _ l0 false _ ?side1 ?side2 A5.out).mono ?_); (case side1 => repeat (first | exact (Kd.V_reads' HO0.out).2.2 | (with_reducible refine Kd.C_alloc ?_ _) | (with_reducible refine Kd.C_drewN ?_ _) | (with_reducible refine Kd.C_drew ?_))); (case side2 => exact (Kd.V_reads' HO0.out).2.1); rintro e w' ⟨rfl, ⟨nd, rfl⟩⟩; refine ⟨_, rfl, ?_⟩) | (go_at_call 15; (with_reducible refine (flongref17_Long.calls k _ _ l1 true _ ?side1 ?side2 A7.out).mono ?_); (case side1 => repeat (first | exact (Kd.V_reads' HO1.out).2.2 | (with_reducible refine Kd.C_alloc ?_ _) | (with_reducible refine Kd.C_drewN ?_ _) | (with_reducible refine Kd.C_drew ?_))); (case side2 => exact (Kd.V_reads' HO1.out).2.1); rintro e w' ⟨rfl, ⟨nd, rfl⟩⟩))
    go_meet
    case rel => exact ⟨_, (true), sA, H', ⟨by first | omega | exact Nat.le_refl _⟩, ⟨kV HO0⟩, ⟨kV HO1⟩, ⟨bA⟩⟩
   ·replace c8 := Bool.eq_false_iff.mpr c8
    subst c8
    have H1 : (flonglaw19_AnsiJoins.j0 k l0 l1 l2 (decide ((l2.length : Int) > 200))) = some r := by rw [if_neg (show ¬ (false = true) by decide)] at H; exact H
    clear H
    have H := H1
    clear H1
    have H' := Aside0.mk H
    clear H
    go_wp2_with (first | ((with_reducible refine gate_callee (f := 15) rfl ?_); refine goesL_ (some 12) rfl rfl Tryd.func15 (by kernel_rfl) rfl #[.slice A0 l0.length c0] rfl aP ?_; (with_reducible refine (flongref17_Long.calls k _ _ l0 false _ ?side1 ?side2 A5.out).mono ?_); (case side1 => repeat (first | exact (Kd.V_reads' HO0.out).2.2 | (with_reducible refine Kd.C_alloc ?_ _) | (with_reducible refine Kd.C_drewN ?_ _) | (with_reducible refine Kd.C_drew ?_))); (case side2 => exact (Kd.V_reads' HO0.out).2.1); rintro e w' ⟨rfl, ⟨nd, rfl⟩⟩; refine ⟨_, rfl, ?_⟩) | (go_at_call 15; (with_reducible refine (flongref17_Long.calls k _ _ l1 false _ ?side1 ?side2 A7.out).mono ?_); (case side1 => repeat (first | exact (Kd.V_reads' HO1.out).2.2 | (with_reducible refine Kd.C_alloc ?_ _) | (with_reducible refine Kd.C_drewN ?_ _) | (with_reducible refine Kd.C_drew ?_))); (case side2 => exact (Kd.V_reads' HO1.out).2.1); rintro e w' ⟨rfl, ⟨nd, rfl⟩⟩))
    go_meet
    case rel => exact ⟨_, (decide ((l2.length : Int) > 200)), sA, H', ⟨by first | omega | exact Nat.le_refl _⟩, ⟨kV HO0⟩, ⟨kV HO1⟩, ⟨bA⟩⟩
 case rest =>
  clear HC4
  try clear c1
  try clear c2
  try clear p2
  try clear c6
  try clear c8
  obtain ⟨kq, x21_3, rfl, HA, HJ3, HO_0, HO_1, HB⟩ := hcut
  cases kq with
  | zero => exact absurd HA.out (by simp [flonglaw19_AnsiJoins.j0])
  | succ kj3 =>
   have H := HA.out
   clear HA
   simp only [flonglaw19_AnsiJoins.j0] at H
   by_cases c9 : x21_3 = true
   ·subst c9
    have H1 : ((flonglaw19_known.f kj3).bind fun t325 => (some t325)) = some r := by rw [if_pos rfl] at H; exact H
    clear H
    have H := H1
    clear H1
    replace H := Option.bind_eq_some_iff.mp H
    obtain ⟨t325, A100, H⟩ := H
    replace H : (some t325) = some r := H
    have A10 := Aside0.mk A100
    clear A100
    obtain rfl := Option.some.inj H
    go_wp2_with (first | ((with_reducible refine gate_callee (f := 10) rfl ?_); refine goesL_ (some 22) rfl rfl Tryd.func10 (by kernel_rfl) rfl #[] rfl aP ?_; (with_reducible refine (flonglaw19_known.calls kj3  t325 _ ?side1 A10.out).mono ?_); (case side1 => exact GOK.of_below (GOK.sub HG.out rfl) bA); rintro e w11 ⟨rfl, hb⟩; refine ⟨_, rfl, ?_⟩; replace HO_0 := Aside0.mk (Kd.V_below (kV HO_0) hb); replace HO_1 := Aside0.mk (Kd.V_below (kV HO_1) hb); replace HB := Aside0.mk (below_step bA hb); (try clear hb); (try clear hb2); (try clear hk); (try clear hi)))
    go_ret
    exact ⟨eW, bA⟩
   ·replace c9 := Bool.eq_false_iff.mpr c9
    subst c9
    have H1 : (if ([] : List (S35)).length + l0.length < 3518437208883 then ((some (([] : List (S35)) ++ l0 : List (S35))).bind fun y326 => (if y326.length + l1.length < 3518437208883 then ((ansi_Write.f kj3 l0).bind fun t332 => ((ansi_Write.f kj3 l1).bind fun t335 => (if t332.length + t335.length < 140737488355328 then ((flongref17_Erase.f kj3 l2).bind fun t341 => ((flongref17_Normal.f kj3 l2).bind fun t344 => ((flongref03_Text.f kj3 t344).bind fun t347 => ((ansi_Write.f kj3 (y326 ++ l1)).bind fun t348 => ((flongref00_Same.f t348 (t332 ++ t335)).bind fun t351 => (if t351 = true then ((ansi_Row.f kj3 t341).bind fun t352 => ((flongref17_Normal.f kj3 t341).bind fun t355 => ((flongref03_Text.f kj3 t355).bind fun t358 => (if (strOfNums t352).toList = t358.toList then ((ansi_Row.f kj3 l2).bind fun t359 => ((ansi_Strip.f kj3 t359).bind fun t362 => (if (strOfNums t362).toList = t347.toList then ((flonglaw19_known.f kj3).bind fun t365 => (some t365)) else (some false)))) else (some false))))) else (some false))))))) else (none)))) else (none))) else (none)) = some r := by rw [if_neg (show ¬ (false = true) by decide)] at H; exact H
    clear H
    have H := H1
    clear H1
    by_cases c12 : ([] : List (S35)).length + l0.length < 3518437208883
    ·rw [if_pos c12] at H
     have LMc12 := Aside0.mk c12
     clear c12
     obtain ⟨y326, hy326⟩ : ∃ y_ : List (S35), y_ = (([] : List (S35)) ++ l0) := ⟨_, rfl⟩
     replace H : (if y326.length + l1.length < 3518437208883 then ((ansi_Write.f kj3 l0).bind fun t332 => ((ansi_Write.f kj3 l1).bind fun t335 => (if t332.length + t335.length < 140737488355328 then ((flongref17_Erase.f kj3 l2).bind fun t341 => ((flongref17_Normal.f kj3 l2).bind fun t344 => ((flongref03_Text.f kj3 t344).bind fun t347 => ((ansi_Write.f kj3 (y326 ++ l1)).bind fun t348 => ((flongref00_Same.f t348 (t332 ++ t335)).bind fun t351 => (if t351 = true then ((ansi_Row.f kj3 t341).bind fun t352 => ((flongref17_Normal.f kj3 t341).bind fun t355 => ((flongref03_Text.f kj3 t355).bind fun t358 => (if (strOfNums t352).toList = t358.toList then ((ansi_Row.f kj3 l2).bind fun t359 => ((ansi_Strip.f kj3 t359).bind fun t362 => (if (strOfNums t362).toList = t347.toList then ((flonglaw19_known.f kj3).bind fun t365 => (some t365)) else (some false)))) else (some false))))) else (some false))))))) else (none)))) else (none)) = some r := hyA hy326 H
     have Ny326 := Aside0.mk hy326
     clear hy326
     by_cases c13 : y326.length + l1.length < 3518437208883
     ·rw [if_pos c13] at H
      have LMc13 := Aside0.mk c13
      clear c13
      obtain ⟨y329, hy329⟩ : ∃ y_ : List (S35), y_ = (y326 ++ l1) := ⟨_, rfl⟩
      replace H : ((ansi_Write.f kj3 l0).bind fun t332 => ((ansi_Write.f kj3 l1).bind fun t335 => (if t332.length + t335.length < 140737488355328 then ((flongref17_Erase.f kj3 l2).bind fun t341 => ((flongref17_Normal.f kj3 l2).bind fun t344 => ((flongref03_Text.f kj3 t344).bind fun t347 => ((ansi_Write.f kj3 y329).bind fun t348 => ((flongref00_Same.f t348 (t332 ++ t335)).bind fun t351 => (if t351 = true then ((ansi_Row.f kj3 t341).bind fun t352 => ((flongref17_Normal.f kj3 t341).bind fun t355 => ((flongref03_Text.f kj3 t355).bind fun t358 => (if (strOfNums t352).toList = t358.toList then ((ansi_Row.f kj3 l2).bind fun t359 => ((ansi_Strip.f kj3 t359).bind fun t362 => (if (strOfNums t362).toList = t347.toList then ((flonglaw19_known.f kj3).bind fun t365 => (some t365)) else (some false)))) else (some false))))) else (some false))))))) else (none)))) = some r := hyA hy329 H
      have Ny329 := Aside0.mk hy329
      clear hy329
      replace H := Option.bind_eq_some_iff.mp H
      obtain ⟨t332, A140, H⟩ := H
      replace H : ((ansi_Write.f kj3 l1).bind fun t335 => (if t332.length + t335.length < 140737488355328 then ((flongref17_Erase.f kj3 l2).bind fun t341 => ((flongref17_Normal.f kj3 l2).bind fun t344 => ((flongref03_Text.f kj3 t344).bind fun t347 => ((ansi_Write.f kj3 y329).bind fun t348 => ((flongref00_Same.f t348 (t332 ++ t335)).bind fun t351 => (if t351 = true then ((ansi_Row.f kj3 t341).bind fun t352 => ((flongref17_Normal.f kj3 t341).bind fun t355 => ((flongref03_Text.f kj3 t355).bind fun t358 => (if (strOfNums t352).toList = t358.toList then ((ansi_Row.f kj3 l2).bind fun t359 => ((ansi_Strip.f kj3 t359).bind fun t362 => (if (strOfNums t362).toList = t347.toList then ((flonglaw19_known.f kj3).bind fun t365 => (some t365)) else (some false)))) else (some false))))) else (some false))))))) else (none))) = some r := H
      have A14 := Aside0.mk A140
      clear A140
      replace H := Option.bind_eq_some_iff.mp H
      obtain ⟨t335, A150, H⟩ := H
      replace H : (if t332.length + t335.length < 140737488355328 then ((flongref17_Erase.f kj3 l2).bind fun t341 => ((flongref17_Normal.f kj3 l2).bind fun t344 => ((flongref03_Text.f kj3 t344).bind fun t347 => ((ansi_Write.f kj3 y329).bind fun t348 => ((flongref00_Same.f t348 (t332 ++ t335)).bind fun t351 => (if t351 = true then ((ansi_Row.f kj3 t341).bind fun t352 => ((flongref17_Normal.f kj3 t341).bind fun t355 => ((flongref03_Text.f kj3 t355).bind fun t358 => (if (strOfNums t352).toList = t358.toList then ((ansi_Row.f kj3 l2).bind fun t359 => ((ansi_Strip.f kj3 t359).bind fun t362 => (if (strOfNums t362).toList = t347.toList then ((flonglaw19_known.f kj3).bind fun t365 => (some t365)) else (some false)))) else (some false))))) else (some false))))))) else (none)) = some r := H
      have A15 := Aside0.mk A150
      clear A150
      by_cases c16 : t332.length + t335.length < 140737488355328
      ·rw [if_pos c16] at H
       have LMc16 := Aside0.mk c16
       clear c16
       obtain ⟨y338, hy338⟩ : ∃ y_ : List Int, y_ = (t332 ++ t335) := ⟨_, rfl⟩
       replace H : ((flongref17_Erase.f kj3 l2).bind fun t341 => ((flongref17_Normal.f kj3 l2).bind fun t344 => ((flongref03_Text.f kj3 t344).bind fun t347 => ((ansi_Write.f kj3 y329).bind fun t348 => ((flongref00_Same.f t348 y338).bind fun t351 => (if t351 = true then ((ansi_Row.f kj3 t341).bind fun t352 => ((flongref17_Normal.f kj3 t341).bind fun t355 => ((flongref03_Text.f kj3 t355).bind fun t358 => (if (strOfNums t352).toList = t358.toList then ((ansi_Row.f kj3 l2).bind fun t359 => ((ansi_Strip.f kj3 t359).bind fun t362 => (if (strOfNums t362).toList = t347.toList then ((flonglaw19_known.f kj3).bind fun t365 => (some t365)) else (some false)))) else (some false))))) else (some false))))))) = some r := hyA hy338 H
       have Ny338 := Aside0.mk hy338
       clear hy338
       replace H := Option.bind_eq_some_iff.mp H
       obtain ⟨t341, A170, H⟩ := H
       replace H : ((flongref17_Normal.f kj3 l2).bind fun t344 => ((flongref03_Text.f kj3 t344).bind fun t347 => ((ansi_Write.f kj3 y329).bind fun t348 => ((flongref00_Same.f t348 y338).bind fun t351 => (if t351 = true then ((ansi_Row.f kj3 t341).bind fun t352 => ((flongref17_Normal.f kj3 t341).bind fun t355 => ((flongref03_Text.f kj3 t355).bind fun t358 => (if (strOfNums t352).toList = t358.toList then ((ansi_Row.f kj3 l2).bind fun t359 => ((ansi_Strip.f kj3 t359).bind fun t362 => (if (strOfNums t362).toList = t347.toList then ((flonglaw19_known.f kj3).bind fun t365 => (some t365)) else (some false)))) else (some false))))) else (some false)))))) = some r := H
       have A17 := Aside0.mk A170
       clear A170
       replace H := Option.bind_eq_some_iff.mp H
       obtain ⟨t344, A180, H⟩ := H
       replace H : ((flongref03_Text.f kj3 t344).bind fun t347 => ((ansi_Write.f kj3 y329).bind fun t348 => ((flongref00_Same.f t348 y338).bind fun t351 => (if t351 = true then ((ansi_Row.f kj3 t341).bind fun t352 => ((flongref17_Normal.f kj3 t341).bind fun t355 => ((flongref03_Text.f kj3 t355).bind fun t358 => (if (strOfNums t352).toList = t358.toList then ((ansi_Row.f kj3 l2).bind fun t359 => ((ansi_Strip.f kj3 t359).bind fun t362 => (if (strOfNums t362).toList = t347.toList then ((flonglaw19_known.f kj3).bind fun t365 => (some t365)) else (some false)))) else (some false))))) else (some false))))) = some r := H
       have A18 := Aside0.mk A180
       clear A180
       replace H := Option.bind_eq_some_iff.mp H
       obtain ⟨t347, A190, H⟩ := H
       replace H : ((ansi_Write.f kj3 y329).bind fun t348 => ((flongref00_Same.f t348 y338).bind fun t351 => (if t351 = true then ((ansi_Row.f kj3 t341).bind fun t352 => ((flongref17_Normal.f kj3 t341).bind fun t355 => ((flongref03_Text.f kj3 t355).bind fun t358 => (if (strOfNums t352).toList = t358.toList then ((ansi_Row.f kj3 l2).bind fun t359 => ((ansi_Strip.f kj3 t359).bind fun t362 => (if (strOfNums t362).toList = t347.toList then ((flonglaw19_known.f kj3).bind fun t365 => (some t365)) else (some false)))) else (some false))))) else (some false)))) = some r := H
       have A19 := Aside0.mk A190
       clear A190
       replace H := Option.bind_eq_some_iff.mp H
       obtain ⟨t348, A200, H⟩ := H
       replace H : ((flongref00_Same.f t348 y338).bind fun t351 => (if t351 = true then ((ansi_Row.f kj3 t341).bind fun t352 => ((flongref17_Normal.f kj3 t341).bind fun t355 => ((flongref03_Text.f kj3 t355).bind fun t358 => (if (strOfNums t352).toList = t358.toList then ((ansi_Row.f kj3 l2).bind fun t359 => ((ansi_Strip.f kj3 t359).bind fun t362 => (if (strOfNums t362).toList = t347.toList then ((flonglaw19_known.f kj3).bind fun t365 => (some t365)) else (some false)))) else (some false))))) else (some false))) = some r := H
       have A20 := Aside0.mk A200
       clear A200
       replace H := Option.bind_eq_some_iff.mp H
       obtain ⟨t351, A210, H⟩ := H
       replace H : (if t351 = true then ((ansi_Row.f kj3 t341).bind fun t352 => ((flongref17_Normal.f kj3 t341).bind fun t355 => ((flongref03_Text.f kj3 t355).bind fun t358 => (if (strOfNums t352).toList = t358.toList then ((ansi_Row.f kj3 l2).bind fun t359 => ((ansi_Strip.f kj3 t359).bind fun t362 => (if (strOfNums t362).toList = t347.toList then ((flonglaw19_known.f kj3).bind fun t365 => (some t365)) else (some false)))) else (some false))))) else (some false)) = some r := H
       have A21 := Aside0.mk A210
       clear A210
       by_cases c22 : t351 = true
       ·subst c22
        have H1 : ((ansi_Row.f kj3 t341).bind fun t352 => ((flongref17_Normal.f kj3 t341).bind fun t355 => ((flongref03_Text.f kj3 t355).bind fun t358 => (if (strOfNums t352).toList = t358.toList then ((ansi_Row.f kj3 l2).bind fun t359 => ((ansi_Strip.f kj3 t359).bind fun t362 => (if (strOfNums t362).toList = t347.toList then ((flonglaw19_known.f kj3).bind fun t365 => (some t365)) else (some false)))) else (some false))))) = some r := by rw [if_pos rfl] at H; exact H
        clear H
        have H := H1
        clear H1
        replace H := Option.bind_eq_some_iff.mp H
        obtain ⟨t352, A230, H⟩ := H
        replace H : ((flongref17_Normal.f kj3 t341).bind fun t355 => ((flongref03_Text.f kj3 t355).bind fun t358 => (if (strOfNums t352).toList = t358.toList then ((ansi_Row.f kj3 l2).bind fun t359 => ((ansi_Strip.f kj3 t359).bind fun t362 => (if (strOfNums t362).toList = t347.toList then ((flonglaw19_known.f kj3).bind fun t365 => (some t365)) else (some false)))) else (some false)))) = some r := H
        have A23 := Aside0.mk A230
        clear A230
        replace H := Option.bind_eq_some_iff.mp H
        obtain ⟨t355, A240, H⟩ := H
        replace H : ((flongref03_Text.f kj3 t355).bind fun t358 => (if (strOfNums t352).toList = t358.toList then ((ansi_Row.f kj3 l2).bind fun t359 => ((ansi_Strip.f kj3 t359).bind fun t362 => (if (strOfNums t362).toList = t347.toList then ((flonglaw19_known.f kj3).bind fun t365 => (some t365)) else (some false)))) else (some false))) = some r := H
        have A24 := Aside0.mk A240
        clear A240
        replace H := Option.bind_eq_some_iff.mp H
        obtain ⟨t358, A250, H⟩ := H
        replace H : (if (strOfNums t352).toList = t358.toList then ((ansi_Row.f kj3 l2).bind fun t359 => ((ansi_Strip.f kj3 t359).bind fun t362 => (if (strOfNums t362).toList = t347.toList then ((flonglaw19_known.f kj3).bind fun t365 => (some t365)) else (some false)))) else (some false)) = some r := H
        have A25 := Aside0.mk A250
        clear A250
        by_cases c26 : (strOfNums t352).toList = t358.toList
        ·rw [if_pos c26] at H
         have c26b0 : ((strOfNums t352).toList == t358.toList) = true := beq_iff_eq.mpr c26
         have c26b1 : ((strOfNums t352).toList != t358.toList) = false := bne_eq_false_iff_eq.mpr c26
         clear c26
         replace H := Option.bind_eq_some_iff.mp H
         obtain ⟨t359, A270, H⟩ := H
         replace H : ((ansi_Strip.f kj3 t359).bind fun t362 => (if (strOfNums t362).toList = t347.toList then ((flonglaw19_known.f kj3).bind fun t365 => (some t365)) else (some false))) = some r := H
         have A27 := Aside0.mk A270
         clear A270
         replace H := Option.bind_eq_some_iff.mp H
         obtain ⟨t362, A280, H⟩ := H
         replace H : (if (strOfNums t362).toList = t347.toList then ((flonglaw19_known.f kj3).bind fun t365 => (some t365)) else (some false)) = some r := H
         have A28 := Aside0.mk A280
         clear A280
         by_cases c29 : (strOfNums t362).toList = t347.toList
         ·rw [if_pos c29] at H
          have c29b0 : ((strOfNums t362).toList == t347.toList) = true := beq_iff_eq.mpr c29
          have c29b1 : ((strOfNums t362).toList != t347.toList) = false := bne_eq_false_iff_eq.mpr c29
          clear c29
          replace H := Option.bind_eq_some_iff.mp H
          obtain ⟨t365, A300, H⟩ := H
          replace H : (some t365) = some r := H
          have A30 := Aside0.mk A300
          clear A300
          obtain rfl := Option.some.inj H
          try go_wp2_with (first | ((with_reducible refine gate_builtin (b := .append) (xs := #[.tmp 23, .tmp 24]) rfl ?_); (try (refine gate_guard (by rfl) ?_; dsimp only)); at_builtin; refine Kd.N_append_rows k35 (w0 := w) w.heap.size rfl (.tmp 23) (.tmp 24) 30 35 (.agg #[(.int .i64 0), (.slice none 0 0), (.bool false)]) 40 rfl Tryd.underlying30 info35 rfl (by decide) (by omega) (.slice none 0 0) ([] : List (S35)) l0 _ _ _ (fun k_ => ((P0_ k_ ∨ P1_ k_) ∨ w.heap.size ≤ k_)) (fun k_ => ((fun k_ => ((P0_ k_ ∨ P1_ k_) ∨ w.heap.size ≤ k_))) k_ ∧ some k_ ≠ (.slice none 0 0 : Value).ownBlock) rfl rfl ?aO ?aR (fun _ hk => hk) ?aF ?aB ?aS ?aL ?_; (case aR => exact (by skip; exact Kd.V_F (Kd.V_mono (ok' := (fun k_ => ((fun k_ => ((P0_ k_ ∨ P1_ k_) ∨ w.heap.size ≤ k_))) k_ ∧ some k_ ≠ (.slice none 0 0 : Value).ownBlock)) (HO_0.out) (fun k_ hk => ⟨hk, (by simp [Value.ownBlock])⟩)))); (case aB => exact bA); (case aF => exact (fun k_ hk => (.inr (Nat.le_trans (below_size bA) hk)))); (case aO => exact ((Kd.N_nil _ _ _ _ (fun k_ => ((P0_ k_ ∨ P1_ k_) ∨ w.heap.size ≤ k_))))); (case aS => exact (below_size bA)); (case aL => have := LMc12.out; omega); intro v327 w31 ho hb hg hat; rw [← Ny326.out] at ho; replace HO_0 := Aside0.mk (Kd.V_afterv (Kd.V_apart_nil (kV HO_0)) hg hat); replace HO_1 := Aside0.mk (Kd.V_afterv (Kd.V_apart_nil (kV HO_1)) hg hat); have HO328 := Aside0.mk (ho); replace HB := Aside0.mk (hb); clear ho hb hg hat) | ((with_reducible refine gate_builtin (b := .append) (xs := #[.tmp 26, .tmp 27]) rfl ?_); (try (refine gate_guard (by rfl) ?_; dsimp only)); at_builtin; refine Kd.N_append_rows k35 (w0 := w) w.heap.size rfl (.tmp 26) (.tmp 27) 30 35 (.agg #[(.int .i64 0), (.slice none 0 0), (.bool false)]) 40 rfl Tryd.underlying30 info35 rfl (by decide) (by omega) v327 y326 l1 _ _ _ (fun k_ => ((P0_ k_ ∨ P1_ k_) ∨ w.heap.size ≤ k_)) (fun k_ => ((fun k_ => ((P0_ k_ ∨ P1_ k_) ∨ w.heap.size ≤ k_))) k_ ∧ some k_ ≠ (v327 : Value).ownBlock) rfl rfl ?aO ?aR (fun _ hk => hk) ?aF ?aB ?aS ?aL ?_; (case aR => exact (by skip; exact Kd.V_F (Kd.V_mono (ok' := (fun k_ => ((fun k_ => ((P0_ k_ ∨ P1_ k_) ∨ w.heap.size ≤ k_))) k_ ∧ some k_ ≠ (v327 : Value).ownBlock)) (HO_1.out) (fun k_ hk => ⟨hk.1, hk.2⟩)))); (case aB => exact bA); (case aF => exact (fun k_ hk => (.inr (Nat.le_trans (below_size bA) hk)))); (case aO => exact (by (with_reducible repeat (first | apply Kd.N_alloc | apply Kd.N_drewN | apply Kd.N_drew)); exact HO328.out)); (case aS => exact (below_size bA)); (case aL => have := LMc13.out; omega); intro v330 w32 ho hb hg hat; rw [← Ny329.out] at ho; have n0_ := Aside0.mk (Kd.V_afterv (ok := (fun k_ => ((P0_ k_ ∨ P1_ k_) ∨ w.heap.size ≤ k_))) (kV HO_0) hg hat); have n1_ := Aside0.mk (Kd.V_afterv (ok := (fun k_ => ((P0_ k_ ∨ P1_ k_) ∨ w.heap.size ≤ k_))) (kV HO_1) hg hat); have n2_ := Aside0.mk (hb); have n3_ := Aside0.mk (ho); clear HO_0; clear HO_1; clear HB; clear HO328; have HO_0 := n0_; have HO_1 := n1_; have HB := n2_; have HO331 := n3_; clear n0_ n1_ n2_ n3_; clear ho hb hg hat) | ((with_reducible refine gate_callee (f := 18) rfl ?_); refine goesL_ (some 30) rfl rfl Tryd.func18 (by kernel_rfl) rfl #[.slice A0 l0.length c0] rfl aP ?_; (with_reducible refine (ansi_Write.calls kj3 _ _ l0 t332 _ ?side1 ?side2 ?side3 A14.out).mono ?_); (case side1 => repeat (first | exact (Kd.V_reads' HO_0.out).2.2 | (with_reducible refine Kd.C_alloc ?_ _) | (with_reducible refine Kd.C_drewN ?_ _) | (with_reducible refine Kd.C_drew ?_))); (case side2 => exact (Kd.V_reads' HO_0.out).2.1); (case side3 => exact GOK.of_below (GOK.sub HG.out rfl) bA); rintro e w33 ⟨v333, rfl, ho0, hb⟩; refine ⟨_, rfl, ?_⟩; have n0_ := Aside0.mk (Kd.V_elder' (kV HO_0) (Kd.R_base ho0) hb); have n1_ := Aside0.mk (Kd.V_elder' (kV HO_1) (Kd.R_base ho0) hb); have n2_ := Aside0.mk (Kd.N_elder' (by (with_reducible repeat (first | apply Kd.N_alloc | apply Kd.N_drewN | apply Kd.N_drew)); exact HO331.out) (Kd.R_base ho0) hb); have n3_ := Aside0.mk (Kd.R_lower (Kd.R_newM (M := fun k_ => (w.heap.size ≤ k_)) ho0 (below_size bA) (fun k_ h_ => h_)) (below_size bA)); have n4_ := Aside0.mk (below_step bA hb); clear HO_0; clear HO_1; clear HO331; clear HB; have HO_0 := n0_; have HO_1 := n1_; have HO331 := n2_; have HO334 := n3_; have HB := n4_; clear n0_ n1_ n2_ n3_ n4_; (try clear hb); (try clear hb2); (try clear hk); (try clear hi); (try clear ho0)) | ((with_reducible refine gate_callee (f := 18) rfl ?_); refine goesL_ (some 33) rfl rfl Tryd.func18 (by kernel_rfl) rfl #[.slice A1 l1.length c1] rfl aP ?_; (with_reducible refine (ansi_Write.calls kj3 _ _ l1 t335 _ ?side1 ?side2 ?side3 A15.out).mono ?_); (case side1 => repeat (first | exact (Kd.V_reads' HO_1.out).2.2 | (with_reducible refine Kd.C_alloc ?_ _) | (with_reducible refine Kd.C_drewN ?_ _) | (with_reducible refine Kd.C_drew ?_))); (case side2 => exact (Kd.V_reads' HO_1.out).2.1); (case side3 => exact GOK.of_below (GOK.sub HG.out rfl) bA); rintro e w34 ⟨v336, rfl, ho0, hb⟩; refine ⟨_, rfl, ?_⟩; have n0_ := Aside0.mk (Kd.V_elder' (kV HO_0) (Kd.R_base ho0) hb); have n1_ := Aside0.mk (Kd.V_elder' (kV HO_1) (Kd.R_base ho0) hb); have n2_ := Aside0.mk (Kd.N_elder' (by (with_reducible repeat (first | apply Kd.N_alloc | apply Kd.N_drewN | apply Kd.N_drew)); exact HO331.out) (Kd.R_base ho0) hb); have n3_ := Aside0.mk (Kd.R_elder' (kR HO334) (Kd.R_base ho0) hb); have n4_ := Aside0.mk (Kd.R_lower (Kd.R_new' (Kd.R_newM (M := fun k_ => (w.heap.size ≤ k_)) ho0 (below_size bA) (fun k_ h_ => h_)) (Kd.R_lt (kR HO334))) (below_size bA)); have n5_ := Aside0.mk (below_step bA hb); clear HO_0; clear HO_1; clear HO331; clear HO334; clear HB; have HO_0 := n0_; have HO_1 := n1_; have HO331 := n2_; have HO334 := n3_; have HO337 := n4_; have HB := n5_; clear n0_ n1_ n2_ n3_ n4_ n5_; (try clear hb); (try clear hb2); (try clear hk); (try clear hi); (try clear ho0); obtain ⟨Ao36, co36, eo36⟩ := Kd.R_slice HO337.out; subst eo36) | ((with_reducible refine gate_builtin (b := .append) (xs := #[.tmp 31, .tmp 33]) rfl ?_); (try (refine gate_guard (by rfl) ?_; dsimp only)); at_builtin; refine Kd.R_append_rows (Kd.int .u8) (w0 := w) w.heap.size rfl (.tmp 31) (.tmp 33) 22 5 (.int .u8 0) 1 rfl Tryd.underlying22 info5 rfl (by decide) (by omega) v333 t332 t335 _ _ _ (fun k_ => (w.heap.size ≤ k_) ∧ some k_ ≠ (.slice Ao36 t335.length co36 : Value).ownBlock) (fun _ => False) rfl rfl ?aO ?aR (fun _ _ h => h) (fun _ h => h.elim) ?aF ?aB ?aS ?aL ?_; (case aR => repeat (first | exact (Kd.R_reads' HO337.out).2.2 | (with_reducible refine Kd.C_alloc ?_ _) | (with_reducible refine Kd.C_drewN ?_ _) | (with_reducible refine Kd.C_drew ?_))); (case aB => exact bA); (case aF => exact (fun k_ hk => ⟨(Nat.le_trans (below_size bA) hk), Kd.fresh' (Kd.R_lt (kR HO337)) k_ hk⟩)); (case aO => exact (by (with_reducible repeat (first | apply Kd.R_alloc | apply Kd.R_drewN | apply Kd.R_drew)); exact Kd.R_mono HO334.out (fun _ hk => ⟨hk.1.1, hk.2⟩))); (case aS => exact (below_size bA)); (case aL => have := LMc16.out; omega); intro v339 w35 ho hb hg hat; rw [← Ny338.out] at ho; have n0_ := Aside0.mk (Kd.V_afterv (ok := (fun k_ => ((P0_ k_ ∨ P1_ k_) ∨ w.heap.size ≤ k_) ∧ some k_ ≠ (v330 : Value).ownBlock ∧ some k_ ≠ (.slice Ao36 t335.length co36 : Value).ownBlock)) (by (with_reducible repeat (first | apply Kd.V_alloc | apply Kd.V_drewN | apply Kd.V_drew)); exact Kd.V_mono HO_0.out (fun _ hk => ⟨⟨hk.1.1.1, ⟨hk.1.1.2, hk.2⟩⟩, hk.1.2⟩)) hg hat); have n1_ := Aside0.mk (Kd.V_afterv (ok := (fun k_ => ((P0_ k_ ∨ P1_ k_) ∨ w.heap.size ≤ k_) ∧ some k_ ≠ (v330 : Value).ownBlock ∧ some k_ ≠ (.slice Ao36 t335.length co36 : Value).ownBlock)) (by (with_reducible repeat (first | apply Kd.V_alloc | apply Kd.V_drewN | apply Kd.V_drew)); exact Kd.V_mono HO_1.out (fun _ hk => ⟨⟨hk.1.1.1, ⟨hk.1.1.2, hk.2⟩⟩, hk.1.2⟩)) hg hat); have n2_ := Aside0.mk (Kd.N_afterv (ok := (fun k_ => ((P0_ k_ ∨ P1_ k_) ∨ w.heap.size ≤ k_) ∧ some k_ ≠ (.slice Ao36 t335.length co36 : Value).ownBlock)) (by (with_reducible repeat (first | apply Kd.N_alloc | apply Kd.N_drewN | apply Kd.N_drew)); exact Kd.N_mono HO331.out (fun _ hk => ⟨⟨hk.1.1, hk.2⟩, hk.1.2⟩)) hg hat); have n3_ := Aside0.mk (Kd.R_after (ok := (fun k_ => (w.heap.size ≤ k_))) (by (with_reducible repeat (first | apply Kd.R_alloc | apply Kd.R_drewN | apply Kd.R_drew)); exact Kd.R_mono HO337.out (fun _ hk => ⟨hk.1.1, hk.2⟩)) hg hat); have n4_ := Aside0.mk (hb); have n5_ := Aside0.mk (ho); clear HO_0; clear HO_1; clear HO331; clear HO337; clear HB; clear HO334; have HO_0 := n0_; have HO_1 := n1_; have HO331 := n2_; have HO337 := n3_; have HB := n4_; have HO340 := n5_; clear n0_ n1_ n2_ n3_ n4_ n5_; clear ho hb hg hat) | ((with_reducible refine gate_callee (f := 23) rfl ?_); refine goesL_ (some 36) rfl rfl Tryd.func23 (by kernel_rfl) rfl #[.slice A2 l2.length c2] rfl aP ?_; (with_reducible refine (flongref17_Erase.calls kj3 _ _ l2 t341 _ ?side1 ?side2 A17.out).mono ?_); (case side1 => repeat (first | exact (Kd.C_below HR2.out HB.out) | (with_reducible refine Kd.C_alloc ?_ _) | (with_reducible refine Kd.C_drewN ?_ _) | (with_reducible refine Kd.C_drew ?_))); (case side2 => exact HC2.out); rintro e w37 ⟨v342, rfl, ho0, hb⟩; refine ⟨_, rfl, ?_⟩; have n0_ := Aside0.mk (Kd.V_elder' (kV HO_0) (Kd.R_base ho0) hb); have n1_ := Aside0.mk (Kd.V_elder' (kV HO_1) (Kd.R_base ho0) hb); have n2_ := Aside0.mk (Kd.N_elder' (by (with_reducible repeat (first | apply Kd.N_alloc | apply Kd.N_drewN | apply Kd.N_drew)); exact HO331.out) (Kd.R_base ho0) hb); have n3_ := Aside0.mk (Kd.R_below (kR HO337) hb); have n4_ := Aside0.mk (Kd.R_below (kR HO340) hb); have n5_ := Aside0.mk (Kd.R_lower (Kd.R_newM (M := fun k_ => (w.heap.size ≤ k_)) ho0 (below_size bA) (fun k_ h_ => h_)) (below_size bA)); have n6_ := Aside0.mk (below_step bA hb); clear HO_0; clear HO_1; clear HO331; clear HO337; clear HO340; clear HB; have HO_0 := n0_; have HO_1 := n1_; have HO331 := n2_; have HO337 := n3_; have HO340 := n4_; have HO343 := n5_; have HB := n6_; clear n0_ n1_ n2_ n3_ n4_ n5_ n6_; (try clear hb); (try clear hb2); (try clear hk); (try clear hi); (try clear ho0)) | ((with_reducible refine gate_callee (f := 25) rfl ?_); refine goesL_ (some 38) rfl rfl Tryd.func25 (by kernel_rfl) rfl #[.slice A2 l2.length c2] rfl aP ?_; (with_reducible refine (flongref17_Normal.calls kj3 _ _ l2 t344 _ ?side1 ?side2 A18.out).mono ?_); (case side1 => repeat (first | exact (Kd.C_below HR2.out HB.out) | (with_reducible refine Kd.C_alloc ?_ _) | (with_reducible refine Kd.C_drewN ?_ _) | (with_reducible refine Kd.C_drew ?_))); (case side2 => exact HC2.out); rintro e w38 ⟨v345, rfl, ho0, hb⟩; refine ⟨_, rfl, ?_⟩; have n0_ := Aside0.mk (Kd.V_elder' (kV HO_0) (Kd.R_base ho0) hb); have n1_ := Aside0.mk (Kd.V_elder' (kV HO_1) (Kd.R_base ho0) hb); have n2_ := Aside0.mk (Kd.N_elder' (by (with_reducible repeat (first | apply Kd.N_alloc | apply Kd.N_drewN | apply Kd.N_drew)); exact HO331.out) (Kd.R_base ho0) hb); have n3_ := Aside0.mk (Kd.R_below (kR HO337) hb); have n4_ := Aside0.mk (Kd.R_below (kR HO340) hb); have n5_ := Aside0.mk (Kd.R_elder' (kR HO343) (Kd.R_base ho0) hb); have n6_ := Aside0.mk (Kd.R_lower (Kd.R_new' (Kd.R_newM (M := fun k_ => (w.heap.size ≤ k_)) ho0 (below_size bA) (fun k_ h_ => h_)) (Kd.R_lt (kR HO343))) (below_size bA)); have n7_ := Aside0.mk (below_step bA hb); clear HO_0; clear HO_1; clear HO331; clear HO337; clear HO340; clear HO343; clear HB; have HO_0 := n0_; have HO_1 := n1_; have HO331 := n2_; have HO337 := n3_; have HO340 := n4_; have HO343 := n5_; have HO346 := n6_; have HB := n7_; clear n0_ n1_ n2_ n3_ n4_ n5_ n6_ n7_; (try clear hb); (try clear hb2); (try clear hk); (try clear hi); (try clear ho0); obtain ⟨Ao39, co39, eo39⟩ := Kd.R_slice HO346.out; subst eo39) | ((with_reducible refine gate_callee (f := 24) rfl ?_); refine goesL_ (some 39) rfl rfl Tryd.func24 (by kernel_rfl) rfl #[.slice Ao39 t344.length co39] rfl aP ?_; (with_reducible refine (flongref03_Text.calls kj3 _ _ t344 t347 _ ?side1 ?side2 A19.out).mono ?_); (case side1 => repeat (first | exact (Kd.R_reads' HO346.out).2.2 | (with_reducible refine Kd.C_alloc ?_ _) | (with_reducible refine Kd.C_drewN ?_ _) | (with_reducible refine Kd.C_drew ?_))); (case side2 => exact (Kd.R_reads' HO346.out).2.1); rintro e w40 ⟨rfl, hb⟩; refine ⟨_, rfl, ?_⟩; have n0_ := Aside0.mk (Kd.V_below (kV HO_0) hb); have n1_ := Aside0.mk (Kd.V_below (kV HO_1) hb); have n2_ := Aside0.mk (Kd.N_below (by (with_reducible repeat (first | apply Kd.N_alloc | apply Kd.N_drewN | apply Kd.N_drew)); exact HO331.out) hb); have n3_ := Aside0.mk (Kd.R_below (kR HO337) hb); have n4_ := Aside0.mk (Kd.R_below (kR HO340) hb); have n5_ := Aside0.mk (Kd.R_below (kR HO343) hb); have n6_ := Aside0.mk (Kd.R_below (kR HO346) hb); have n7_ := Aside0.mk (below_step bA hb); clear HO_0; clear HO_1; clear HO331; clear HO337; clear HO340; clear HO343; clear HO346; clear HB; have HO_0 := n0_; have HO_1 := n1_; have HO331 := n2_; have HO337 := n3_; have HO340 := n4_; have HO343 := n5_; have HO346 := n6_; have HB := n7_; clear n0_ n1_ n2_ n3_ n4_ n5_ n6_ n7_; (try clear hb); (try clear hb2); (try clear hk); (try clear hi); obtain ⟨Ao41, co41, eo41⟩ := Kd.N_slice HO331.out; subst eo41; obtain ⟨Ao42, co42, eo42⟩ := Kd.R_slice HO340.out; subst eo42; obtain ⟨Ao43, co43, eo43⟩ := Kd.R_slice HO343.out; subst eo43))
          have n0_ := Aside0.mk (Kd.V_drew HO_0.out)
          have n1_ := Aside0.mk (Kd.V_drew HO_1.out)
          have n2_ := Aside0.mk (Kd.N_drew HO331.out)
          have n3_ := Aside0.mk (Kd.R_drew HO337.out)
          have n4_ := Aside0.mk (Kd.R_drew HO340.out)
          have n5_ := Aside0.mk (Kd.R_drew HO343.out)
          have n6_ := Aside0.mk (Kd.R_drew HO346.out)
          have n7_ := Aside0.mk (below_drew1 HB.out)
          clear HO_0
          clear HO_1
          clear HO331
          clear HO337
          clear HO340
          clear HO343
          clear HO346
          clear HB
          have HO_0 := n0_
          have HO_1 := n1_
          have HO331 := n2_
          have HO337 := n3_
          have HO340 := n4_
          have HO343 := n5_
          have HO346 := n6_
          have HB := n7_
          clear n0_ n1_ n2_ n3_ n4_ n5_ n6_ n7_
          refine start_ (n := 25) (S := fun w' => True) (ds := []) #[false, false, false, false, false, false, false, false, false, false, false, false, false, false, false, false, false, false, false, false, false, false, false, false, false] (by kernel_rfl) rfl rfl trivial (fun hHeld => ?_); refine with_tabW flonglaw19_AnsiJoins.tab10 flonglaw19_AnsiJoins.bits10 (fun HT_ HW_ => ?_)
          generalize w40.drew = w44 at HO_0 HO_1 HO331 HO337 HO340 HO343 HO346 HB hHeld ⊢
          refine pure_ (i := 0) (N := some 40) (v := ?_) (a' := ?_) #[true, false, false, false, false, false, false, false, false, false, false, false, false, false, false, false, false, false, false, false, false, false, false, false, false] rfl rfl (any_of HT_.out (by kernel_rfl)) (fun _ _ _ h => h) (Or.inl ⟨by rfl, ?_⟩) ?_ ?_
          rotate_left
          ·intro w'
           go_simp
           with_reducible rfl
          rotate_left
          ·simp only [Act.put, List.setIfInBounds_toArray, List.set_cons_zero, List.set_cons_succ, i64_w, i32_w]
           rfl
          refine pure_ (i := 2) (N := some 42) (v := ?_) (a' := ?_) #[true, false, true, false, false, false, false, false, false, false, false, false, false, false, false, false, false, false, false, false, false, false, false, false, false] rfl rfl (any_of HT_.out (by kernel_rfl)) (fun _ _ _ h => h) (Or.inl ⟨by rfl, ?_⟩) ?_ ?_
          rotate_left
          ·intro w'
           go_simp
           with_reducible rfl
          rotate_left
          ·simp only [Act.put, List.setIfInBounds_toArray, List.set_cons_zero, List.set_cons_succ, i64_w, i32_w]
           rfl
          refine one_ (i := 1) (N := some 41) #[true, true, true, false, false, false, false, false, false, false, false, false, false, false, false, false, false, false, false, false, false, false, false, false, false] rfl rfl (one_of HT_.out (by kernel_rfl)) (by decide) (fun K hK => ?_)
          refine goes_ Tryd.func18 (by kernel_rfl) rfl #[.slice Ao41 y329.length co41] (by rfl) rfl rfl aP ?_
          with_reducible refine (ansi_Write.calls kj3 _ _ y329 t348 _ ?side1 ?side2 ?side3 A20.out).mono ?_
          (case side1 => repeat (first | exact (Kd.N_reads' HO331.out).2.2 | (with_reducible refine Kd.C_alloc ?_ _) | (with_reducible refine Kd.C_drewN ?_ _) | (with_reducible refine Kd.C_drew ?_)))
          (case side2 => exact (Kd.N_reads' HO331.out).2.1)
          (case side3 => exact GOK.of_below (GOK.sub HG.out rfl) bA)
          rintro e w45 ⟨v349, rfl, ho0, hb⟩
          refine ⟨_, rfl, ?_⟩
          have n0_ := Aside0.mk (Kd.V_elder' (kV HO_0) (Kd.R_base ho0) hb)
          have n1_ := Aside0.mk (Kd.V_elder' (kV HO_1) (Kd.R_base ho0) hb)
          have n2_ := Aside0.mk (Kd.N_elder' (by (with_reducible repeat (first | apply Kd.N_alloc | apply Kd.N_drewN | apply Kd.N_drew)); exact HO331.out) (Kd.R_base ho0) hb)
          have n3_ := Aside0.mk (Kd.R_elder' (kR HO337) (Kd.R_base ho0) hb)
          have n4_ := Aside0.mk (Kd.R_elder' (kR HO340) (Kd.R_base ho0) hb)
          have n5_ := Aside0.mk (Kd.R_below (kR HO343) hb)
          have n6_ := Aside0.mk (Kd.R_below (kR HO346) hb)
          have n7_ := Aside0.mk (Kd.R_lower (Kd.R_new' (Kd.R_new' (Kd.R_newM (M := fun k_ => (w.heap.size ≤ k_)) ho0 (below_size bA) (fun k_ h_ => h_)) (Kd.R_lt (kR HO337))) (Kd.R_lt (kR HO340))) (below_size bA))
          have n8_ := Aside0.mk (below_step bA hb)
          clear HO_0
          clear HO_1
          clear HO331
          clear HO337
          clear HO340
          clear HO343
          clear HO346
          clear HB
          have HO_0 := n0_
          have HO_1 := n1_
          have HO331 := n2_
          have HO337 := n3_
          have HO340 := n4_
          have HO343 := n5_
          have HO346 := n6_
          have HO350 := n7_
          have HB := n8_
          clear n0_ n1_ n2_ n3_ n4_ n5_ n6_ n7_ n8_
          (try clear hb)
          (try clear hb2)
          (try clear hk)
          (try clear hi)
          (try clear ho0)
          obtain ⟨Ao46, co46, eo46⟩ := Kd.R_slice HO350.out
          (first | subst eo46 | (injection eo46 with f1_ f2_ f3_; have f4_ := f1_.symm; have f5_ := f3_.symm; clear f1_ f2_ f3_; subst f4_; subst f5_))
          refine hK.out _ _ trivial (fun hHeld => ?_)
          clear hK K
          refine norm_ (a' := ?_) ?_ ?_
          rotate_left
          ·show Act.put _ (some 41) _ = _
           simp only [Act.put, List.setIfInBounds_toArray, List.set_cons_zero, List.set_cons_succ, i64_w, i32_w]
           rfl
          refine one_ (i := 3) (N := some 43) #[true, true, true, true, false, false, false, false, false, false, false, false, false, false, false, false, false, false, false, false, false, false, false, false, false] rfl rfl (one_of HT_.out (by kernel_rfl)) (by decide) (fun K hK => ?_)
          refine goes_ Tryd.func13 (by kernel_rfl) rfl #[.slice Ao46 t348.length co46, .slice Ao42 y338.length co42] (by rfl) rfl rfl aP ?_
          with_reducible refine (flongref00_Same.calls _ _ t348 _ _ y338 true _ ?side1 ?side2 ?side3 ?side4 A21.out).mono ?_
          (case side1 => repeat (first | exact (Kd.R_reads' HO350.out).2.2 | (with_reducible refine Kd.C_alloc ?_ _) | (with_reducible refine Kd.C_drewN ?_ _) | (with_reducible refine Kd.C_drew ?_)))
          (case side2 => exact (Kd.R_reads' HO350.out).2.1)
          (case side3 => repeat (first | exact (Kd.R_reads' HO340.out).2.2 | (with_reducible refine Kd.C_alloc ?_ _) | (with_reducible refine Kd.C_drewN ?_ _) | (with_reducible refine Kd.C_drew ?_)))
          (case side4 => exact (Kd.R_reads' HO340.out).2.1)
          rintro e w' ⟨rfl, ⟨nd, rfl⟩⟩
          refine ⟨_, rfl, ?_⟩
          refine hK.out _ _ trivial (fun hHeld => ?_)
          clear hK K
          refine norm_ (a' := ?_) ?_ ?_
          rotate_left
          ·show Act.put _ (some 43) _ = _
           simp only [Act.put, List.setIfInBounds_toArray, List.set_cons_zero, List.set_cons_succ, i64_w, i32_w]
           rfl
          refine pure_ (i := 4) (N := some 44) (v := ?_) (a' := ?_) #[true, true, true, true, true, false, false, false, false, false, false, false, false, false, false, false, false, false, false, false, false, false, false, false, false] rfl rfl (any_of HT_.out (by kernel_rfl)) (fun _ _ _ h => h) (Or.inl ⟨by rfl, ?_⟩) ?_ ?_
          rotate_left
          ·intro w'
           go_simp
           with_reducible rfl
          rotate_left
          ·simp only [Act.put, List.setIfInBounds_toArray, List.set_cons_zero, List.set_cons_succ, i64_w, i32_w]
           rfl
          refine pure_ (i := 5) (N := some 45) (v := ?_) (a' := ?_) #[true, true, true, true, true, true, false, false, false, false, false, false, false, false, false, false, false, false, false, false, false, false, false, false, false] rfl rfl (any_of HT_.out (by kernel_rfl)) (fun _ _ _ h => h) (Or.inl ⟨by rfl, ?_⟩) ?_ ?_
          rotate_left
          ·intro w'
           go_simp
           with_reducible rfl
          rotate_left
          ·simp only [Act.put, List.setIfInBounds_toArray, List.set_cons_zero, List.set_cons_succ, i64_w, i32_w]
           rfl
          refine pure_ (i := 8) (N := some 48) (v := ?_) (a' := ?_) #[true, true, true, true, true, true, false, false, true, false, false, false, false, false, false, false, false, false, false, false, false, false, false, false, false] rfl rfl (any_of HT_.out (by kernel_rfl)) (fun _ _ _ h => h) (Or.inl ⟨by rfl, ?_⟩) ?_ ?_
          rotate_left
          ·intro w'
           go_simp
           with_reducible rfl
          rotate_left
          ·simp only [Act.put, List.setIfInBounds_toArray, List.set_cons_zero, List.set_cons_succ, i64_w, i32_w]
           rfl
          refine one_ (i := 6) (N := some 46) #[true, true, true, true, true, true, true, false, true, false, false, false, false, false, false, false, false, false, false, false, false, false, false, false, false] rfl rfl (one_of HT_.out (by kernel_rfl)) (by decide) (fun K hK => ?_)
          refine goes_ Tryd.func16 (by kernel_rfl) rfl #[.slice Ao43 t341.length co43] (by rfl) rfl rfl aP ?_
          with_reducible refine (ansi_Row.calls kj3 _ _ t341 t352 _ ?side1 ?side2 ?side3 A23.out).mono ?_
          (case side1 => repeat (first | exact (Kd.R_reads' HO343.out).2.2 | (with_reducible refine Kd.C_alloc ?_ _) | (with_reducible refine Kd.C_drewN ?_ _) | (with_reducible refine Kd.C_drew ?_)))
          (case side2 => exact (Kd.R_reads' HO343.out).2.1)
          (case side3 => exact GOK.of_below (GOK.sub HG.out rfl) bA)
          rintro e w47 ⟨v353, rfl, ho0, hb⟩
          refine ⟨_, rfl, ?_⟩
          have n0_ := Aside0.mk (Kd.V_elder' (kV HO_0) (Kd.R_base ho0) hb)
          have n1_ := Aside0.mk (Kd.V_elder' (kV HO_1) (Kd.R_base ho0) hb)
          have n2_ := Aside0.mk (Kd.N_elder' (by (with_reducible repeat (first | apply Kd.N_alloc | apply Kd.N_drewN | apply Kd.N_drew)); exact HO331.out) (Kd.R_base ho0) hb)
          have n3_ := Aside0.mk (Kd.R_elder' (kR HO337) (Kd.R_base ho0) hb)
          have n4_ := Aside0.mk (Kd.R_elder' (kR HO340) (Kd.R_base ho0) hb)
          have n5_ := Aside0.mk (Kd.R_below (kR HO343) hb)
          have n6_ := Aside0.mk (Kd.R_below (kR HO346) hb)
          have n7_ := Aside0.mk (Kd.R_elder' (kR HO350) (Kd.R_base ho0) hb)
          have n8_ := Aside0.mk (Kd.R_lower (Kd.R_new' (Kd.R_new' (Kd.R_new' (Kd.R_newM (M := fun k_ => (w.heap.size ≤ k_)) ho0 (below_size bA) (fun k_ h_ => h_)) (Kd.R_lt (kR HO337))) (Kd.R_lt (kR HO340))) (Kd.R_lt (kR HO350))) (below_size bA))
          have n9_ := Aside0.mk (below_step bA hb)
          clear HO_0
          clear HO_1
          clear HO331
          clear HO337
          clear HO340
          clear HO343
          clear HO346
          clear HO350
          clear HB
          have HO_0 := n0_
          have HO_1 := n1_
          have HO331 := n2_
          have HO337 := n3_
          have HO340 := n4_
          have HO343 := n5_
          have HO346 := n6_
          have HO350 := n7_
          have HO354 := n8_
          have HB := n9_
          clear n0_ n1_ n2_ n3_ n4_ n5_ n6_ n7_ n8_ n9_
          (try clear hb)
          (try clear hb2)
          (try clear hk)
          (try clear hi)
          (try clear ho0)
          refine hK.out _ _ trivial (fun hHeld => ?_)
          clear hK K
          refine norm_ (a' := ?_) ?_ ?_
          rotate_left
          ·show Act.put _ (some 46) _ = _
           simp only [Act.put, List.setIfInBounds_toArray, List.set_cons_zero, List.set_cons_succ, i64_w, i32_w]
           rfl
          refine join_ (σ := Value) 14 #[true, true, true, true, true, true, true, true, true, true, true, false, false, false, false, false, false, false, false, false, false, false, false, false, false] (fun s_ => [(47, .string (strOfNums t352)), (49, s_), (50, .string t358)]) (fun s_ w' => (Kd.N k35 35 w' w.heap.size (fun k_ => ((P0_ k_ ∨ P1_ k_) ∨ w.heap.size ≤ k_) ∧ some k_ ≠ (.slice Ao36 t335.length co36 : Value).ownBlock ∧ some k_ ≠ (.slice Ao42 y338.length co42 : Value).ownBlock ∧ some k_ ≠ (.slice Ao43 t341.length co43 : Value).ownBlock ∧ some k_ ≠ (.slice Ao39 t344.length co39 : Value).ownBlock ∧ some k_ ≠ (.slice Ao46 t348.length co46 : Value).ownBlock ∧ some k_ ≠ (v353 : Value).ownBlock ∧ some k_ ≠ (s_ : Value).ownBlock) (.slice Ao41 y329.length co41) y329) ∧ (Kd.R (Kd.int .u8) 5 w' w.heap.size (fun k_ => (w.heap.size ≤ k_) ∧ some k_ ≠ (.slice Ao42 y338.length co42 : Value).ownBlock ∧ some k_ ≠ (.slice Ao46 t348.length co46 : Value).ownBlock ∧ some k_ ≠ (v353 : Value).ownBlock) (.slice Ao36 t335.length co36) t335) ∧ (Kd.R (Kd.int .u8) 5 w' w.heap.size (fun k_ => (w.heap.size ≤ k_) ∧ some k_ ≠ (.slice Ao36 t335.length co36 : Value).ownBlock ∧ some k_ ≠ (.slice Ao46 t348.length co46 : Value).ownBlock ∧ some k_ ≠ (v353 : Value).ownBlock) (.slice Ao42 y338.length co42) y338) ∧ (Kd.R k44 44 w' w.heap.size (fun k_ => (w.heap.size ≤ k_) ∧ some k_ ≠ (.slice Ao39 t344.length co39 : Value).ownBlock ∧ some k_ ≠ (s_ : Value).ownBlock) (.slice Ao43 t341.length co43) t341) ∧ (Kd.R k44 44 w' w.heap.size (fun k_ => (w.heap.size ≤ k_) ∧ some k_ ≠ (.slice Ao43 t341.length co43 : Value).ownBlock ∧ some k_ ≠ (s_ : Value).ownBlock) (.slice Ao39 t344.length co39) t344) ∧ (Kd.R (Kd.int .u8) 5 w' w.heap.size (fun k_ => (w.heap.size ≤ k_) ∧ some k_ ≠ (.slice Ao36 t335.length co36 : Value).ownBlock ∧ some k_ ≠ (.slice Ao42 y338.length co42 : Value).ownBlock ∧ some k_ ≠ (v353 : Value).ownBlock) (.slice Ao46 t348.length co46) t348) ∧ (Kd.R (Kd.int .u8) 5 w' w.heap.size (fun k_ => (w.heap.size ≤ k_) ∧ some k_ ≠ (.slice Ao36 t335.length co36 : Value).ownBlock ∧ some k_ ≠ (.slice Ao42 y338.length co42 : Value).ownBlock ∧ some k_ ≠ (.slice Ao46 t348.length co46 : Value).ownBlock) v353 t352) ∧ (Kd.R k44 44 w' w.heap.size (fun k_ => (w.heap.size ≤ k_) ∧ some k_ ≠ (.slice Ao43 t341.length co43 : Value).ownBlock ∧ some k_ ≠ (.slice Ao39 t344.length co39 : Value).ownBlock) s_ t355) ∧ (Kd.V k35 35 w' w.heap.size (fun k_ => ((P0_ k_ ∨ P1_ k_) ∨ w.heap.size ≤ k_) ∧ some k_ ≠ (.slice Ao41 y329.length co41 : Value).ownBlock ∧ some k_ ≠ (.slice Ao36 t335.length co36 : Value).ownBlock ∧ some k_ ≠ (.slice Ao42 y338.length co42 : Value).ownBlock ∧ some k_ ≠ (.slice Ao43 t341.length co43 : Value).ownBlock ∧ some k_ ≠ (.slice Ao39 t344.length co39 : Value).ownBlock ∧ some k_ ≠ (.slice Ao46 t348.length co46 : Value).ownBlock ∧ some k_ ≠ (v353 : Value).ownBlock ∧ some k_ ≠ (s_ : Value).ownBlock) (.slice A0 l0.length c0) l0) ∧ (Kd.V k35 35 w' w.heap.size (fun k_ => ((P0_ k_ ∨ P1_ k_) ∨ w.heap.size ≤ k_) ∧ some k_ ≠ (.slice Ao41 y329.length co41 : Value).ownBlock ∧ some k_ ≠ (.slice Ao36 t335.length co36 : Value).ownBlock ∧ some k_ ≠ (.slice Ao42 y338.length co42 : Value).ownBlock ∧ some k_ ≠ (.slice Ao43 t341.length co43 : Value).ownBlock ∧ some k_ ≠ (.slice Ao39 t344.length co39 : Value).ownBlock ∧ some k_ ≠ (.slice Ao46 t348.length co46 : Value).ownBlock ∧ some k_ ≠ (v353 : Value).ownBlock ∧ some k_ ≠ (s_ : Value).ownBlock) (.slice A1 l1.length c1) l1) ∧ (Below w.heap.size w w')) ?_ ?_
          rotate_left
          ·intro hCont
           refine two_ (i := 7) (j := 9) (Ni := some 47) (Nj := some 49) #[true, true, true, true, true, true, true, true, true, false, false, false, false, false, false, false, false, false, false, false, false, false, false, false, false] #[true, true, true, true, true, true, true, false, true, true, false, false, false, false, false, false, false, false, false, false, false, false, false, false, false] rfl rfl rfl rfl (two_of HT_.out (by kernel_rfl)) (by decide) (by decide) (fun K hK => ?_) (fun K hK => ?_)
           ·skip
            have hcv48 := own_string (P := Tryd.prog) Tryd.underlying22 Tryd.underlying5 Tryd.underlying9 (Kd.own_of_R HO354.out)
            refine value_ (w1 := ?_) (v := ?_) (by rfl) rfl ?_ ?_
            rotate_left 2
            ·go_simp
             constructor
             ·rfl
             ·rfl
            clear hcv48
            refine hK.out _ _ trivial (fun hHeld => ?_)
            clear hK K
            refine norm_ (a' := ?_) ?_ ?_
            rotate_left
            ·show Act.put _ (some 47) _ = _
             simp only [Act.put, List.setIfInBounds_toArray, List.set_cons_zero, List.set_cons_succ, i64_w, i32_w]
             rfl
            refine one_ (i := 9) (N := some 49) #[true, true, true, true, true, true, true, true, true, true, false, false, false, false, false, false, false, false, false, false, false, false, false, false, false] rfl rfl (one_of HT_.out (by kernel_rfl)) (by decide) (fun K hK => ?_)
            refine goes_ Tryd.func25 (by kernel_rfl) rfl #[.slice Ao43 t341.length co43] (by rfl) rfl rfl aP ?_
            with_reducible refine (flongref17_Normal.calls kj3 _ _ t341 t355 _ ?side1 ?side2 A24.out).mono ?_
            (case side1 => repeat (first | exact (Kd.R_reads' HO343.out).2.2 | (with_reducible refine Kd.C_alloc ?_ _) | (with_reducible refine Kd.C_drewN ?_ _) | (with_reducible refine Kd.C_drew ?_)))
            (case side2 => exact (Kd.R_reads' HO343.out).2.1)
            rintro e w49 ⟨v356, rfl, ho0, hb⟩
            refine ⟨_, rfl, ?_⟩
            have n0_ := Aside0.mk (Kd.V_elder' (kV HO_0) (Kd.R_base ho0) hb)
            have n1_ := Aside0.mk (Kd.V_elder' (kV HO_1) (Kd.R_base ho0) hb)
            have n2_ := Aside0.mk (Kd.N_elder' (by (with_reducible repeat (first | apply Kd.N_alloc | apply Kd.N_drewN | apply Kd.N_drew)); exact HO331.out) (Kd.R_base ho0) hb)
            have n3_ := Aside0.mk (Kd.R_below (kR HO337) hb)
            have n4_ := Aside0.mk (Kd.R_below (kR HO340) hb)
            have n5_ := Aside0.mk (Kd.R_elder' (kR HO343) (Kd.R_base ho0) hb)
            have n6_ := Aside0.mk (Kd.R_elder' (kR HO346) (Kd.R_base ho0) hb)
            have n7_ := Aside0.mk (Kd.R_below (kR HO350) hb)
            have n8_ := Aside0.mk (Kd.R_below (kR HO354) hb)
            have n9_ := Aside0.mk (Kd.R_lower (Kd.R_new' (Kd.R_new' (Kd.R_newM (M := fun k_ => (w.heap.size ≤ k_)) ho0 (below_size bA) (fun k_ h_ => h_)) (Kd.R_lt (kR HO343))) (Kd.R_lt (kR HO346))) (below_size bA))
            have n10_ := Aside0.mk (below_step bA hb)
            clear HO_0
            clear HO_1
            clear HO331
            clear HO337
            clear HO340
            clear HO343
            clear HO346
            clear HO350
            clear HO354
            clear HB
            have HO_0 := n0_
            have HO_1 := n1_
            have HO331 := n2_
            have HO337 := n3_
            have HO340 := n4_
            have HO343 := n5_
            have HO346 := n6_
            have HO350 := n7_
            have HO354 := n8_
            have HO357 := n9_
            have HB := n10_
            clear n0_ n1_ n2_ n3_ n4_ n5_ n6_ n7_ n8_ n9_ n10_
            (try clear hb)
            (try clear hb2)
            (try clear hk)
            (try clear hi)
            (try clear ho0)
            obtain ⟨Ao50, co50, eo50⟩ := Kd.R_slice HO357.out
            (first | subst eo50 | (injection eo50 with f1_ f2_ f3_; have f4_ := f1_.symm; have f5_ := f3_.symm; clear f1_ f2_ f3_; subst f4_; subst f5_))
            refine hK.out _ _ trivial (fun hHeld => ?_)
            clear hK K
            refine norm_ (a' := ?_) ?_ ?_
            rotate_left
            ·show Act.put _ (some 49) _ = _
             simp only [Act.put, List.setIfInBounds_toArray, List.set_cons_zero, List.set_cons_succ, i64_w, i32_w]
             rfl
            refine one_ (i := 10) (N := some 50) #[true, true, true, true, true, true, true, true, true, true, true, false, false, false, false, false, false, false, false, false, false, false, false, false, false] rfl rfl (one_of HT_.out (by kernel_rfl)) (by decide) (fun K hK => ?_)
            refine goes_ Tryd.func24 (by kernel_rfl) rfl #[.slice Ao50 t355.length co50] (by rfl) rfl rfl aP ?_
            with_reducible refine (flongref03_Text.calls kj3 _ _ t355 t358 _ ?side1 ?side2 A25.out).mono ?_
            (case side1 => repeat (first | exact (Kd.R_reads' HO357.out).2.2 | (with_reducible refine Kd.C_alloc ?_ _) | (with_reducible refine Kd.C_drewN ?_ _) | (with_reducible refine Kd.C_drew ?_)))
            (case side2 => exact (Kd.R_reads' HO357.out).2.1)
            rintro e w51 ⟨rfl, hb⟩
            refine ⟨_, rfl, ?_⟩
            have n0_ := Aside0.mk (Kd.V_below (kV HO_0) hb)
            have n1_ := Aside0.mk (Kd.V_below (kV HO_1) hb)
            have n2_ := Aside0.mk (Kd.N_below (by (with_reducible repeat (first | apply Kd.N_alloc | apply Kd.N_drewN | apply Kd.N_drew)); exact HO331.out) hb)
            have n3_ := Aside0.mk (Kd.R_below (kR HO337) hb)
            have n4_ := Aside0.mk (Kd.R_below (kR HO340) hb)
            have n5_ := Aside0.mk (Kd.R_below (kR HO343) hb)
            have n6_ := Aside0.mk (Kd.R_below (kR HO346) hb)
            have n7_ := Aside0.mk (Kd.R_below (kR HO350) hb)
            have n8_ := Aside0.mk (Kd.R_below (kR HO354) hb)
            have n9_ := Aside0.mk (Kd.R_below (kR HO357) hb)
            have n10_ := Aside0.mk (below_step bA hb)
            clear HO_0
            clear HO_1
            clear HO331
            clear HO337
            clear HO340
            clear HO343
            clear HO346
            clear HO350
            clear HO354
            clear HO357
            clear HB
            have HO_0 := n0_
            have HO_1 := n1_
            have HO331 := n2_
            have HO337 := n3_
            have HO340 := n4_
            have HO343 := n5_
            have HO346 := n6_
            have HO350 := n7_
            have HO354 := n8_
            have HO357 := n9_
            have HB := n10_
            clear n0_ n1_ n2_ n3_ n4_ n5_ n6_ n7_ n8_ n9_ n10_
            (try clear hb)
            (try clear hb2)
            (try clear hk)
            (try clear hi)
            refine hK.out _ _ trivial (fun hHeld => ?_)
            clear hK K
            refine norm_ (a' := ?_) ?_ ?_
            rotate_left
            ·show Act.put _ (some 50) _ = _
             simp only [Act.put, List.setIfInBounds_toArray, List.set_cons_zero, List.set_cons_succ, i64_w, i32_w]
             rfl
            exact norm_ (by simp only [putAll, Act.put, List.setIfInBounds_toArray, List.set_cons_zero, List.set_cons_succ]) (hCont (.slice Ao50 t355.length co50) _ ⟨(by (with_reducible repeat (first | apply Kd.N_alloc | apply Kd.N_drewN | apply Kd.N_drew)); exact Kd.N_mono HO331.out (fun _ hk => ⟨hk.1.1.1.1.1.1.1, ⟨hk.1.1.1.1.1.1.2, ⟨hk.1.1.1.1.1.2, ⟨hk.1.1.1.1.2, ⟨hk.1.1.1.2, ⟨hk.1.1.2, ⟨hk.1.2, hk.2⟩⟩⟩⟩⟩⟩⟩)), (by (with_reducible repeat (first | apply Kd.R_alloc | apply Kd.R_drewN | apply Kd.R_drew)); exact Kd.R_mono HO337.out (fun _ hk => ⟨hk.1.1.1, ⟨hk.1.1.2, ⟨hk.1.2, hk.2⟩⟩⟩)), (by (with_reducible repeat (first | apply Kd.R_alloc | apply Kd.R_drewN | apply Kd.R_drew)); exact Kd.R_mono HO340.out (fun _ hk => ⟨hk.1.1.1, ⟨hk.1.1.2, ⟨hk.1.2, hk.2⟩⟩⟩)), (by (with_reducible repeat (first | apply Kd.R_alloc | apply Kd.R_drewN | apply Kd.R_drew)); exact Kd.R_mono HO343.out (fun _ hk => ⟨hk.1.1.1, ⟨hk.1.2, hk.2⟩⟩)), (by (with_reducible repeat (first | apply Kd.R_alloc | apply Kd.R_drewN | apply Kd.R_drew)); exact Kd.R_mono HO346.out (fun _ hk => ⟨hk.1.1.1, ⟨hk.1.2, hk.2⟩⟩)), (by (with_reducible repeat (first | apply Kd.R_alloc | apply Kd.R_drewN | apply Kd.R_drew)); exact Kd.R_mono HO350.out (fun _ hk => ⟨hk.1.1.1.1, ⟨hk.1.1.2, ⟨hk.1.2, hk.2⟩⟩⟩)), (by (with_reducible repeat (first | apply Kd.R_alloc | apply Kd.R_drewN | apply Kd.R_drew)); exact Kd.R_mono HO354.out (fun _ hk => ⟨hk.1.1.1.1, ⟨hk.1.1.2, ⟨hk.1.2, hk.2⟩⟩⟩)), (by (with_reducible repeat (first | apply Kd.R_alloc | apply Kd.R_drewN | apply Kd.R_drew)); exact Kd.R_mono HO357.out (fun _ hk => ⟨hk.1.1.1, ⟨hk.1.2, hk.2⟩⟩)), (by (with_reducible repeat (first | apply Kd.V_alloc | apply Kd.V_drewN | apply Kd.V_drew)); exact Kd.V_mono HO_0.out (fun _ hk => ⟨hk.1.1.1.1.1.1.1, ⟨hk.1.1.1.1.1.1.2.1, ⟨hk.1.1.1.1.1.1.2.2, ⟨hk.1.1.1.1.1.2, ⟨hk.1.1.1.1.2, ⟨hk.1.1.1.2, ⟨hk.1.1.2, ⟨hk.1.2, hk.2⟩⟩⟩⟩⟩⟩⟩⟩)), (by (with_reducible repeat (first | apply Kd.V_alloc | apply Kd.V_drewN | apply Kd.V_drew)); exact Kd.V_mono HO_1.out (fun _ hk => ⟨hk.1.1.1.1.1.1.1, ⟨hk.1.1.1.1.1.1.2.1, ⟨hk.1.1.1.1.1.1.2.2, ⟨hk.1.1.1.1.1.2, ⟨hk.1.1.1.1.2, ⟨hk.1.1.1.2, ⟨hk.1.1.2, ⟨hk.1.2, hk.2⟩⟩⟩⟩⟩⟩⟩⟩)), bA⟩)
           ·skip
            refine goes_ Tryd.func25 (by kernel_rfl) rfl #[.slice Ao43 t341.length co43] (by rfl) rfl rfl aP ?_
            with_reducible refine (flongref17_Normal.calls kj3 _ _ t341 t355 _ ?side1 ?side2 A24.out).mono ?_
            (case side1 => repeat (first | exact (Kd.R_reads' HO343.out).2.2 | (with_reducible refine Kd.C_alloc ?_ _) | (with_reducible refine Kd.C_drewN ?_ _) | (with_reducible refine Kd.C_drew ?_)))
            (case side2 => exact (Kd.R_reads' HO343.out).2.1)
            rintro e w48 ⟨v356, rfl, ho0, hb⟩
            refine ⟨_, rfl, ?_⟩
            have n0_ := Aside0.mk (Kd.V_elder' (kV HO_0) (Kd.R_base ho0) hb)
            have n1_ := Aside0.mk (Kd.V_elder' (kV HO_1) (Kd.R_base ho0) hb)
            have n2_ := Aside0.mk (Kd.N_elder' (by (with_reducible repeat (first | apply Kd.N_alloc | apply Kd.N_drewN | apply Kd.N_drew)); exact HO331.out) (Kd.R_base ho0) hb)
            have n3_ := Aside0.mk (Kd.R_below (kR HO337) hb)
            have n4_ := Aside0.mk (Kd.R_below (kR HO340) hb)
            have n5_ := Aside0.mk (Kd.R_elder' (kR HO343) (Kd.R_base ho0) hb)
            have n6_ := Aside0.mk (Kd.R_elder' (kR HO346) (Kd.R_base ho0) hb)
            have n7_ := Aside0.mk (Kd.R_below (kR HO350) hb)
            have n8_ := Aside0.mk (Kd.R_below (kR HO354) hb)
            have n9_ := Aside0.mk (Kd.R_lower (Kd.R_new' (Kd.R_new' (Kd.R_newM (M := fun k_ => (w.heap.size ≤ k_)) ho0 (below_size bA) (fun k_ h_ => h_)) (Kd.R_lt (kR HO343))) (Kd.R_lt (kR HO346))) (below_size bA))
            have n10_ := Aside0.mk (below_step bA hb)
            clear HO_0
            clear HO_1
            clear HO331
            clear HO337
            clear HO340
            clear HO343
            clear HO346
            clear HO350
            clear HO354
            clear HB
            have HO_0 := n0_
            have HO_1 := n1_
            have HO331 := n2_
            have HO337 := n3_
            have HO340 := n4_
            have HO343 := n5_
            have HO346 := n6_
            have HO350 := n7_
            have HO354 := n8_
            have HO357 := n9_
            have HB := n10_
            clear n0_ n1_ n2_ n3_ n4_ n5_ n6_ n7_ n8_ n9_ n10_
            (try clear hb)
            (try clear hb2)
            (try clear hk)
            (try clear hi)
            (try clear ho0)
            obtain ⟨Ao50, co50, eo50⟩ := Kd.R_slice HO357.out
            (first | subst eo50 | (injection eo50 with f1_ f2_ f3_; have f4_ := f1_.symm; have f5_ := f3_.symm; clear f1_ f2_ f3_; subst f4_; subst f5_))
            refine hK.out _ _ trivial (fun hHeld => ?_)
            clear hK K
            refine norm_ (a' := ?_) ?_ ?_
            rotate_left
            ·show Act.put _ (some 49) _ = _
             simp only [Act.put, List.setIfInBounds_toArray, List.set_cons_zero, List.set_cons_succ, i64_w, i32_w]
             rfl
            refine two_ (i := 7) (j := 10) (Ni := some 47) (Nj := some 50) #[true, true, true, true, true, true, true, true, true, true, false, false, false, false, false, false, false, false, false, false, false, false, false, false, false] #[true, true, true, true, true, true, true, false, true, true, true, false, false, false, false, false, false, false, false, false, false, false, false, false, false] rfl rfl rfl rfl (two_of HT_.out (by kernel_rfl)) (by decide) (by decide) (fun K hK => ?_) (fun K hK => ?_)
            ·skip
             have hcv49 := own_string (P := Tryd.prog) Tryd.underlying22 Tryd.underlying5 Tryd.underlying9 (Kd.own_of_R HO354.out)
             refine value_ (w1 := ?_) (v := ?_) (by rfl) rfl ?_ ?_
             rotate_left 2
             ·go_simp
              constructor
              ·rfl
              ·rfl
             clear hcv49
             refine hK.out _ _ trivial (fun hHeld => ?_)
             clear hK K
             refine norm_ (a' := ?_) ?_ ?_
             rotate_left
             ·show Act.put _ (some 47) _ = _
              simp only [Act.put, List.setIfInBounds_toArray, List.set_cons_zero, List.set_cons_succ, i64_w, i32_w]
              rfl
             refine one_ (i := 10) (N := some 50) #[true, true, true, true, true, true, true, true, true, true, true, false, false, false, false, false, false, false, false, false, false, false, false, false, false] rfl rfl (one_of HT_.out (by kernel_rfl)) (by decide) (fun K hK => ?_)
             refine goes_ Tryd.func24 (by kernel_rfl) rfl #[.slice Ao50 t355.length co50] (by rfl) rfl rfl aP ?_
             with_reducible refine (flongref03_Text.calls kj3 _ _ t355 t358 _ ?side1 ?side2 A25.out).mono ?_
             (case side1 => repeat (first | exact (Kd.R_reads' HO357.out).2.2 | (with_reducible refine Kd.C_alloc ?_ _) | (with_reducible refine Kd.C_drewN ?_ _) | (with_reducible refine Kd.C_drew ?_)))
             (case side2 => exact (Kd.R_reads' HO357.out).2.1)
             rintro e w51 ⟨rfl, hb⟩
             refine ⟨_, rfl, ?_⟩
             have n0_ := Aside0.mk (Kd.V_below (kV HO_0) hb)
             have n1_ := Aside0.mk (Kd.V_below (kV HO_1) hb)
             have n2_ := Aside0.mk (Kd.N_below (by (with_reducible repeat (first | apply Kd.N_alloc | apply Kd.N_drewN | apply Kd.N_drew)); exact HO331.out) hb)
             have n3_ := Aside0.mk (Kd.R_below (kR HO337) hb)
             have n4_ := Aside0.mk (Kd.R_below (kR HO340) hb)
             have n5_ := Aside0.mk (Kd.R_below (kR HO343) hb)
             have n6_ := Aside0.mk (Kd.R_below (kR HO346) hb)
             have n7_ := Aside0.mk (Kd.R_below (kR HO350) hb)
             have n8_ := Aside0.mk (Kd.R_below (kR HO354) hb)
             have n9_ := Aside0.mk (Kd.R_below (kR HO357) hb)
             have n10_ := Aside0.mk (below_step bA hb)
             clear HO_0
             clear HO_1
             clear HO331
             clear HO337
             clear HO340
             clear HO343
             clear HO346
             clear HO350
             clear HO354
             clear HO357
             clear HB
             have HO_0 := n0_
             have HO_1 := n1_
             have HO331 := n2_
             have HO337 := n3_
             have HO340 := n4_
             have HO343 := n5_
             have HO346 := n6_
             have HO350 := n7_
             have HO354 := n8_
             have HO357 := n9_
             have HB := n10_
             clear n0_ n1_ n2_ n3_ n4_ n5_ n6_ n7_ n8_ n9_ n10_
             (try clear hb)
             (try clear hb2)
             (try clear hk)
             (try clear hi)
             refine hK.out _ _ trivial (fun hHeld => ?_)
             clear hK K
             refine norm_ (a' := ?_) ?_ ?_
             rotate_left
             ·show Act.put _ (some 50) _ = _
              simp only [Act.put, List.setIfInBounds_toArray, List.set_cons_zero, List.set_cons_succ, i64_w, i32_w]
              rfl
             exact norm_ (by simp only [putAll, Act.put, List.setIfInBounds_toArray, List.set_cons_zero, List.set_cons_succ]) (hCont (.slice Ao50 t355.length co50) _ ⟨(by (with_reducible repeat (first | apply Kd.N_alloc | apply Kd.N_drewN | apply Kd.N_drew)); exact Kd.N_mono HO331.out (fun _ hk => ⟨hk.1.1.1.1.1.1.1, ⟨hk.1.1.1.1.1.1.2, ⟨hk.1.1.1.1.1.2, ⟨hk.1.1.1.1.2, ⟨hk.1.1.1.2, ⟨hk.1.1.2, ⟨hk.1.2, hk.2⟩⟩⟩⟩⟩⟩⟩)), (by (with_reducible repeat (first | apply Kd.R_alloc | apply Kd.R_drewN | apply Kd.R_drew)); exact Kd.R_mono HO337.out (fun _ hk => ⟨hk.1.1.1, ⟨hk.1.1.2, ⟨hk.1.2, hk.2⟩⟩⟩)), (by (with_reducible repeat (first | apply Kd.R_alloc | apply Kd.R_drewN | apply Kd.R_drew)); exact Kd.R_mono HO340.out (fun _ hk => ⟨hk.1.1.1, ⟨hk.1.1.2, ⟨hk.1.2, hk.2⟩⟩⟩)), (by (with_reducible repeat (first | apply Kd.R_alloc | apply Kd.R_drewN | apply Kd.R_drew)); exact Kd.R_mono HO343.out (fun _ hk => ⟨hk.1.1.1, ⟨hk.1.2, hk.2⟩⟩)), (by (with_reducible repeat (first | apply Kd.R_alloc | apply Kd.R_drewN | apply Kd.R_drew)); exact Kd.R_mono HO346.out (fun _ hk => ⟨hk.1.1.1, ⟨hk.1.2, hk.2⟩⟩)), (by (with_reducible repeat (first | apply Kd.R_alloc | apply Kd.R_drewN | apply Kd.R_drew)); exact Kd.R_mono HO350.out (fun _ hk => ⟨hk.1.1.1.1, ⟨hk.1.1.2, ⟨hk.1.2, hk.2⟩⟩⟩)), (by (with_reducible repeat (first | apply Kd.R_alloc | apply Kd.R_drewN | apply Kd.R_drew)); exact Kd.R_mono HO354.out (fun _ hk => ⟨hk.1.1.1.1, ⟨hk.1.1.2, ⟨hk.1.2, hk.2⟩⟩⟩)), (by (with_reducible repeat (first | apply Kd.R_alloc | apply Kd.R_drewN | apply Kd.R_drew)); exact Kd.R_mono HO357.out (fun _ hk => ⟨hk.1.1.1, ⟨hk.1.2, hk.2⟩⟩)), (by (with_reducible repeat (first | apply Kd.V_alloc | apply Kd.V_drewN | apply Kd.V_drew)); exact Kd.V_mono HO_0.out (fun _ hk => ⟨hk.1.1.1.1.1.1.1, ⟨hk.1.1.1.1.1.1.2.1, ⟨hk.1.1.1.1.1.1.2.2, ⟨hk.1.1.1.1.1.2, ⟨hk.1.1.1.1.2, ⟨hk.1.1.1.2, ⟨hk.1.1.2, ⟨hk.1.2, hk.2⟩⟩⟩⟩⟩⟩⟩⟩)), (by (with_reducible repeat (first | apply Kd.V_alloc | apply Kd.V_drewN | apply Kd.V_drew)); exact Kd.V_mono HO_1.out (fun _ hk => ⟨hk.1.1.1.1.1.1.1, ⟨hk.1.1.1.1.1.1.2.1, ⟨hk.1.1.1.1.1.1.2.2, ⟨hk.1.1.1.1.1.2, ⟨hk.1.1.1.1.2, ⟨hk.1.1.1.2, ⟨hk.1.1.2, ⟨hk.1.2, hk.2⟩⟩⟩⟩⟩⟩⟩⟩)), bA⟩)
            ·skip
             refine goes_ Tryd.func24 (by kernel_rfl) rfl #[.slice Ao50 t355.length co50] (by rfl) rfl rfl aP ?_
             with_reducible refine (flongref03_Text.calls kj3 _ _ t355 t358 _ ?side1 ?side2 A25.out).mono ?_
             (case side1 => repeat (first | exact (Kd.R_reads' HO357.out).2.2 | (with_reducible refine Kd.C_alloc ?_ _) | (with_reducible refine Kd.C_drewN ?_ _) | (with_reducible refine Kd.C_drew ?_)))
             (case side2 => exact (Kd.R_reads' HO357.out).2.1)
             rintro e w50 ⟨rfl, hb⟩
             refine ⟨_, rfl, ?_⟩
             have n0_ := Aside0.mk (Kd.V_below (kV HO_0) hb)
             have n1_ := Aside0.mk (Kd.V_below (kV HO_1) hb)
             have n2_ := Aside0.mk (Kd.N_below (by (with_reducible repeat (first | apply Kd.N_alloc | apply Kd.N_drewN | apply Kd.N_drew)); exact HO331.out) hb)
             have n3_ := Aside0.mk (Kd.R_below (kR HO337) hb)
             have n4_ := Aside0.mk (Kd.R_below (kR HO340) hb)
             have n5_ := Aside0.mk (Kd.R_below (kR HO343) hb)
             have n6_ := Aside0.mk (Kd.R_below (kR HO346) hb)
             have n7_ := Aside0.mk (Kd.R_below (kR HO350) hb)
             have n8_ := Aside0.mk (Kd.R_below (kR HO354) hb)
             have n9_ := Aside0.mk (Kd.R_below (kR HO357) hb)
             have n10_ := Aside0.mk (below_step bA hb)
             clear HO_0
             clear HO_1
             clear HO331
             clear HO337
             clear HO340
             clear HO343
             clear HO346
             clear HO350
             clear HO354
             clear HO357
             clear HB
             have HO_0 := n0_
             have HO_1 := n1_
             have HO331 := n2_
             have HO337 := n3_
             have HO340 := n4_
             have HO343 := n5_
             have HO346 := n6_
             have HO350 := n7_
             have HO354 := n8_
             have HO357 := n9_
             have HB := n10_
             clear n0_ n1_ n2_ n3_ n4_ n5_ n6_ n7_ n8_ n9_ n10_
             (try clear hb)
             (try clear hb2)
             (try clear hk)
             (try clear hi)
             refine hK.out _ _ trivial (fun hHeld => ?_)
             clear hK K
             refine norm_ (a' := ?_) ?_ ?_
             rotate_left
             ·show Act.put _ (some 50) _ = _
              simp only [Act.put, List.setIfInBounds_toArray, List.set_cons_zero, List.set_cons_succ, i64_w, i32_w]
              rfl
             refine one_ (i := 7) (N := some 47) #[true, true, true, true, true, true, true, true, true, true, true, false, false, false, false, false, false, false, false, false, false, false, false, false, false] rfl rfl (one_of HT_.out (by kernel_rfl)) (by decide) (fun K hK => ?_)
             have hcv51 := own_string (P := Tryd.prog) Tryd.underlying22 Tryd.underlying5 Tryd.underlying9 (Kd.own_of_R HO354.out)
             refine value_ (w1 := ?_) (v := ?_) (by rfl) rfl ?_ ?_
             rotate_left 2
             ·go_simp
              constructor
              ·rfl
              ·rfl
             clear hcv51
             refine hK.out _ _ trivial (fun hHeld => ?_)
             clear hK K
             refine norm_ (a' := ?_) ?_ ?_
             rotate_left
             ·show Act.put _ (some 47) _ = _
              simp only [Act.put, List.setIfInBounds_toArray, List.set_cons_zero, List.set_cons_succ, i64_w, i32_w]
              rfl
             exact norm_ (by simp only [putAll, Act.put, List.setIfInBounds_toArray, List.set_cons_zero, List.set_cons_succ]) (hCont (.slice Ao50 t355.length co50) _ ⟨(by (with_reducible repeat (first | apply Kd.N_alloc | apply Kd.N_drewN | apply Kd.N_drew)); exact Kd.N_mono HO331.out (fun _ hk => ⟨hk.1.1.1.1.1.1.1, ⟨hk.1.1.1.1.1.1.2, ⟨hk.1.1.1.1.1.2, ⟨hk.1.1.1.1.2, ⟨hk.1.1.1.2, ⟨hk.1.1.2, ⟨hk.1.2, hk.2⟩⟩⟩⟩⟩⟩⟩)), (by (with_reducible repeat (first | apply Kd.R_alloc | apply Kd.R_drewN | apply Kd.R_drew)); exact Kd.R_mono HO337.out (fun _ hk => ⟨hk.1.1.1, ⟨hk.1.1.2, ⟨hk.1.2, hk.2⟩⟩⟩)), (by (with_reducible repeat (first | apply Kd.R_alloc | apply Kd.R_drewN | apply Kd.R_drew)); exact Kd.R_mono HO340.out (fun _ hk => ⟨hk.1.1.1, ⟨hk.1.1.2, ⟨hk.1.2, hk.2⟩⟩⟩)), (by (with_reducible repeat (first | apply Kd.R_alloc | apply Kd.R_drewN | apply Kd.R_drew)); exact Kd.R_mono HO343.out (fun _ hk => ⟨hk.1.1.1, ⟨hk.1.2, hk.2⟩⟩)), (by (with_reducible repeat (first | apply Kd.R_alloc | apply Kd.R_drewN | apply Kd.R_drew)); exact Kd.R_mono HO346.out (fun _ hk => ⟨hk.1.1.1, ⟨hk.1.2, hk.2⟩⟩)), (by (with_reducible repeat (first | apply Kd.R_alloc | apply Kd.R_drewN | apply Kd.R_drew)); exact Kd.R_mono HO350.out (fun _ hk => ⟨hk.1.1.1.1, ⟨hk.1.1.2, ⟨hk.1.2, hk.2⟩⟩⟩)), (by (with_reducible repeat (first | apply Kd.R_alloc | apply Kd.R_drewN | apply Kd.R_drew)); exact Kd.R_mono HO354.out (fun _ hk => ⟨hk.1.1.1.1, ⟨hk.1.1.2, ⟨hk.1.2, hk.2⟩⟩⟩)), (by (with_reducible repeat (first | apply Kd.R_alloc | apply Kd.R_drewN | apply Kd.R_drew)); exact Kd.R_mono HO357.out (fun _ hk => ⟨hk.1.1.1, ⟨hk.1.2, hk.2⟩⟩)), (by (with_reducible repeat (first | apply Kd.V_alloc | apply Kd.V_drewN | apply Kd.V_drew)); exact Kd.V_mono HO_0.out (fun _ hk => ⟨hk.1.1.1.1.1.1.1, ⟨hk.1.1.1.1.1.1.2.1, ⟨hk.1.1.1.1.1.1.2.2, ⟨hk.1.1.1.1.1.2, ⟨hk.1.1.1.1.2, ⟨hk.1.1.1.2, ⟨hk.1.1.2, ⟨hk.1.2, hk.2⟩⟩⟩⟩⟩⟩⟩⟩)), (by (with_reducible repeat (first | apply Kd.V_alloc | apply Kd.V_drewN | apply Kd.V_drew)); exact Kd.V_mono HO_1.out (fun _ hk => ⟨hk.1.1.1.1.1.1.1, ⟨hk.1.1.1.1.1.1.2.1, ⟨hk.1.1.1.1.1.1.2.2, ⟨hk.1.1.1.1.1.2, ⟨hk.1.1.1.1.2, ⟨hk.1.1.1.2, ⟨hk.1.1.2, ⟨hk.1.2, hk.2⟩⟩⟩⟩⟩⟩⟩⟩)), bA⟩)
          rintro v356 w52 ⟨h0_, h1_, h2_, h3_, h4_, h5_, h6_, h7_, h8_, h9_, h10_⟩
          have n0_ : Aside0 (Kd.N k35 35 w52 w.heap.size (fun k_ => ((P0_ k_ ∨ P1_ k_) ∨ w.heap.size ≤ k_) ∧ some k_ ≠ (.slice Ao36 t335.length co36 : Value).ownBlock ∧ some k_ ≠ (.slice Ao42 y338.length co42 : Value).ownBlock ∧ some k_ ≠ (.slice Ao43 t341.length co43 : Value).ownBlock ∧ some k_ ≠ (.slice Ao39 t344.length co39 : Value).ownBlock ∧ some k_ ≠ (.slice Ao46 t348.length co46 : Value).ownBlock ∧ some k_ ≠ (v353 : Value).ownBlock ∧ some k_ ≠ (v356 : Value).ownBlock) (.slice Ao41 y329.length co41) y329) := ⟨h0_⟩
          have n1_ : Aside0 (Kd.R (Kd.int .u8) 5 w52 w.heap.size (fun k_ => (w.heap.size ≤ k_) ∧ some k_ ≠ (.slice Ao42 y338.length co42 : Value).ownBlock ∧ some k_ ≠ (.slice Ao46 t348.length co46 : Value).ownBlock ∧ some k_ ≠ (v353 : Value).ownBlock) (.slice Ao36 t335.length co36) t335) := ⟨h1_⟩
          have n2_ : Aside0 (Kd.R (Kd.int .u8) 5 w52 w.heap.size (fun k_ => (w.heap.size ≤ k_) ∧ some k_ ≠ (.slice Ao36 t335.length co36 : Value).ownBlock ∧ some k_ ≠ (.slice Ao46 t348.length co46 : Value).ownBlock ∧ some k_ ≠ (v353 : Value).ownBlock) (.slice Ao42 y338.length co42) y338) := ⟨h2_⟩
          have n3_ : Aside0 (Kd.R k44 44 w52 w.heap.size (fun k_ => (w.heap.size ≤ k_) ∧ some k_ ≠ (.slice Ao39 t344.length co39 : Value).ownBlock ∧ some k_ ≠ (v356 : Value).ownBlock) (.slice Ao43 t341.length co43) t341) := ⟨h3_⟩
          have n4_ : Aside0 (Kd.R k44 44 w52 w.heap.size (fun k_ => (w.heap.size ≤ k_) ∧ some k_ ≠ (.slice Ao43 t341.length co43 : Value).ownBlock ∧ some k_ ≠ (v356 : Value).ownBlock) (.slice Ao39 t344.length co39) t344) := ⟨h4_⟩
          have n5_ : Aside0 (Kd.R (Kd.int .u8) 5 w52 w.heap.size (fun k_ => (w.heap.size ≤ k_) ∧ some k_ ≠ (.slice Ao36 t335.length co36 : Value).ownBlock ∧ some k_ ≠ (.slice Ao42 y338.length co42 : Value).ownBlock ∧ some k_ ≠ (v353 : Value).ownBlock) (.slice Ao46 t348.length co46) t348) := ⟨h5_⟩
          have n6_ : Aside0 (Kd.R (Kd.int .u8) 5 w52 w.heap.size (fun k_ => (w.heap.size ≤ k_) ∧ some k_ ≠ (.slice Ao36 t335.length co36 : Value).ownBlock ∧ some k_ ≠ (.slice Ao42 y338.length co42 : Value).ownBlock ∧ some k_ ≠ (.slice Ao46 t348.length co46 : Value).ownBlock) v353 t352) := ⟨h6_⟩
          have n7_ : Aside0 (Kd.R k44 44 w52 w.heap.size (fun k_ => (w.heap.size ≤ k_) ∧ some k_ ≠ (.slice Ao43 t341.length co43 : Value).ownBlock ∧ some k_ ≠ (.slice Ao39 t344.length co39 : Value).ownBlock) v356 t355) := ⟨h7_⟩
          have n8_ : Aside0 (Kd.V k35 35 w52 w.heap.size (fun k_ => ((P0_ k_ ∨ P1_ k_) ∨ w.heap.size ≤ k_) ∧ some k_ ≠ (.slice Ao41 y329.length co41 : Value).ownBlock ∧ some k_ ≠ (.slice Ao36 t335.length co36 : Value).ownBlock ∧ some k_ ≠ (.slice Ao42 y338.length co42 : Value).ownBlock ∧ some k_ ≠ (.slice Ao43 t341.length co43 : Value).ownBlock ∧ some k_ ≠ (.slice Ao39 t344.length co39 : Value).ownBlock ∧ some k_ ≠ (.slice Ao46 t348.length co46 : Value).ownBlock ∧ some k_ ≠ (v353 : Value).ownBlock ∧ some k_ ≠ (v356 : Value).ownBlock) (.slice A0 l0.length c0) l0) := ⟨h8_⟩
          have n9_ : Aside0 (Kd.V k35 35 w52 w.heap.size (fun k_ => ((P0_ k_ ∨ P1_ k_) ∨ w.heap.size ≤ k_) ∧ some k_ ≠ (.slice Ao41 y329.length co41 : Value).ownBlock ∧ some k_ ≠ (.slice Ao36 t335.length co36 : Value).ownBlock ∧ some k_ ≠ (.slice Ao42 y338.length co42 : Value).ownBlock ∧ some k_ ≠ (.slice Ao43 t341.length co43 : Value).ownBlock ∧ some k_ ≠ (.slice Ao39 t344.length co39 : Value).ownBlock ∧ some k_ ≠ (.slice Ao46 t348.length co46 : Value).ownBlock ∧ some k_ ≠ (v353 : Value).ownBlock ∧ some k_ ≠ (v356 : Value).ownBlock) (.slice A1 l1.length c1) l1) := ⟨h9_⟩
          have n10_ : Aside0 (Below w.heap.size w w52) := ⟨h10_⟩
          clear HO_0
          clear HO_1
          clear HO331
          clear HO337
          clear HO340
          clear HO343
          clear HO346
          clear HB
          clear h0_ h1_ h2_ h3_ h4_ h5_ h6_ h7_ h8_ h9_ h10_
          have HO331 := n0_
          have HO337 := n1_
          have HO340 := n2_
          have HO343 := n3_
          have HO346 := n4_
          have HO350 := n5_
          have HO354 := n6_
          have HO357 := n7_
          have HO_0 := n8_
          have HO_1 := n9_
          have HB := n10_
          clear n0_ n1_ n2_ n3_ n4_ n5_ n6_ n7_ n8_ n9_ n10_
          have hHeld := trivial
          refine norm_ (a' := ?_) ?_ ?_
          rotate_left
          ·simp only [putAll, Act.put, List.setIfInBounds_toArray, List.set_cons_zero, List.set_cons_succ]
           rfl
          refine pure_ (i := 11) (N := some 51) (v := ?_) (a' := ?_) #[true, true, true, true, true, true, true, true, true, true, true, true, false, false, false, false, false, false, false, false, false, false, false, false, false] rfl rfl (any_of HT_.out (by kernel_rfl)) (fun _ _ _ h => h) (Or.inl ⟨by rfl, ?_⟩) ?_ ?_
          rotate_left
          ·intro w'
           go_simp
           with_reducible rfl
          rotate_left
          ·simp only [Act.put, List.setIfInBounds_toArray, List.set_cons_zero, List.set_cons_succ, i64_w, i32_w]
           rfl
          refine pure_ (i := 12) (N := some 52) (v := ?_) (a' := ?_) #[true, true, true, true, true, true, true, true, true, true, true, true, true, false, false, false, false, false, false, false, false, false, false, false, false] rfl rfl (any_of HT_.out (by kernel_rfl)) (fun _ _ _ h => h) (Or.inl ⟨by rfl, ?_⟩) ?_ ?_
          rotate_left
          ·intro w'
           go_simp
           with_reducible rfl
          rotate_left
          ·simp only [Act.put, List.setIfInBounds_toArray, List.set_cons_zero, List.set_cons_succ, i64_w, i32_w]
           rfl
          refine pure_ (i := 13) (N := some 53) (v := ?_) (a' := ?_) #[true, true, true, true, true, true, true, true, true, true, true, true, true, true, false, false, false, false, false, false, false, false, false, false, false] rfl rfl (any_of HT_.out (by kernel_rfl)) (fun _ _ _ h => h) (Or.inl ⟨by rfl, ?_⟩) ?_ ?_
          rotate_left
          ·intro w'
           go_simp
           with_reducible rfl
          rotate_left
          ·simp only [Act.put, List.setIfInBounds_toArray, List.set_cons_zero, List.set_cons_succ, i64_w, i32_w]
           rfl
          refine pure_ (i := 14) (N := some 54) (v := ?_) (a' := ?_) #[true, true, true, true, true, true, true, true, true, true, true, true, true, true, true, false, false, false, false, false, false, false, false, false, false] rfl rfl (any_of HT_.out (by kernel_rfl)) (fun _ _ _ h => h) (Or.inl ⟨by rfl, ?_⟩) ?_ ?_
          rotate_left
          ·intro w'
           go_simp
           with_reducible rfl
          rotate_left
          ·simp only [Act.put, List.setIfInBounds_toArray, List.set_cons_zero, List.set_cons_succ, i64_w, i32_w]
           rfl
          refine pure_ (i := 18) (N := some 58) (v := ?_) (a' := ?_) #[true, true, true, true, true, true, true, true, true, true, true, true, true, true, true, false, false, false, true, false, false, false, false, false, false] rfl rfl (any_of HT_.out (by kernel_rfl)) (fun _ _ _ h => h) (Or.inl ⟨by rfl, ?_⟩) ?_ ?_
          rotate_left
          ·intro w'
           go_simp
           with_reducible rfl
          rotate_left
          ·simp only [Act.put, List.setIfInBounds_toArray, List.set_cons_zero, List.set_cons_succ, i64_w, i32_w]
           rfl
          refine one_ (i := 15) (N := some 55) #[true, true, true, true, true, true, true, true, true, true, true, true, true, true, true, true, false, false, true, false, false, false, false, false, false] rfl rfl (one_of HT_.out (by kernel_rfl)) (by decide) (fun K hK => ?_)
          refine goes_ Tryd.func16 (by kernel_rfl) rfl #[.slice A2 l2.length c2] (by rfl) rfl rfl aP ?_
          with_reducible refine (ansi_Row.calls kj3 _ _ l2 t359 _ ?side1 ?side2 ?side3 A27.out).mono ?_
          (case side1 => repeat (first | exact (Kd.C_below HR2.out HB.out) | (with_reducible refine Kd.C_alloc ?_ _) | (with_reducible refine Kd.C_drewN ?_ _) | (with_reducible refine Kd.C_drew ?_)))
          (case side2 => exact HC2.out)
          (case side3 => exact GOK.of_below (GOK.sub HG.out rfl) bA)
          rintro e w53 ⟨v360, rfl, ho0, hb⟩
          refine ⟨_, rfl, ?_⟩
          have n0_ := Aside0.mk (Kd.V_elder' (kV HO_0) (Kd.R_base ho0) hb)
          have n1_ := Aside0.mk (Kd.V_elder' (kV HO_1) (Kd.R_base ho0) hb)
          have n2_ := Aside0.mk (Kd.N_elder' (by (with_reducible repeat (first | apply Kd.N_alloc | apply Kd.N_drewN | apply Kd.N_drew)); exact HO331.out) (Kd.R_base ho0) hb)
          have n3_ := Aside0.mk (Kd.R_elder' (kR HO337) (Kd.R_base ho0) hb)
          have n4_ := Aside0.mk (Kd.R_elder' (kR HO340) (Kd.R_base ho0) hb)
          have n5_ := Aside0.mk (Kd.R_below (kR HO343) hb)
          have n6_ := Aside0.mk (Kd.R_below (kR HO346) hb)
          have n7_ := Aside0.mk (Kd.R_elder' (kR HO350) (Kd.R_base ho0) hb)
          have n8_ := Aside0.mk (Kd.R_elder' (kR HO354) (Kd.R_base ho0) hb)
          have n9_ := Aside0.mk (Kd.R_below (kR HO357) hb)
          have n10_ := Aside0.mk (Kd.R_lower (Kd.R_new' (Kd.R_new' (Kd.R_new' (Kd.R_new' (Kd.R_newM (M := fun k_ => (w.heap.size ≤ k_)) ho0 (below_size bA) (fun k_ h_ => h_)) (Kd.R_lt (kR HO337))) (Kd.R_lt (kR HO340))) (Kd.R_lt (kR HO350))) (Kd.R_lt (kR HO354))) (below_size bA))
          have n11_ := Aside0.mk (below_step bA hb)
          clear HO_0
          clear HO_1
          clear HO331
          clear HO337
          clear HO340
          clear HO343
          clear HO346
          clear HO350
          clear HO354
          clear HO357
          clear HB
          have HO_0 := n0_
          have HO_1 := n1_
          have HO331 := n2_
          have HO337 := n3_
          have HO340 := n4_
          have HO343 := n5_
          have HO346 := n6_
          have HO350 := n7_
          have HO354 := n8_
          have HO357 := n9_
          have HO361 := n10_
          have HB := n11_
          clear n0_ n1_ n2_ n3_ n4_ n5_ n6_ n7_ n8_ n9_ n10_ n11_
          (try clear hb)
          (try clear hb2)
          (try clear hk)
          (try clear hi)
          (try clear ho0)
          obtain ⟨Ao54, co54, eo54⟩ := Kd.R_slice HO361.out
          (first | subst eo54 | (injection eo54 with f1_ f2_ f3_; have f4_ := f1_.symm; have f5_ := f3_.symm; clear f1_ f2_ f3_; subst f4_; subst f5_))
          refine hK.out _ _ trivial (fun hHeld => ?_)
          clear hK K
          refine norm_ (a' := ?_) ?_ ?_
          rotate_left
          ·show Act.put _ (some 55) _ = _
           simp only [Act.put, List.setIfInBounds_toArray, List.set_cons_zero, List.set_cons_succ, i64_w, i32_w]
           rfl
          refine one_ (i := 16) (N := some 56) #[true, true, true, true, true, true, true, true, true, true, true, true, true, true, true, true, true, false, true, false, false, false, false, false, false] rfl rfl (one_of HT_.out (by kernel_rfl)) (by decide) (fun K hK => ?_)
          refine goes_ Tryd.func14 (by kernel_rfl) rfl #[.slice Ao54 t359.length co54] (by rfl) rfl rfl aP ?_
          with_reducible refine (ansi_Strip.calls kj3 (fun k_ => some k_ = (.slice Ao54 t359.length co54 : Value).ownBlock) _ _ t359 t362 _ ?side1 ?side2 A28.out).mono ?_
          (case side1 => exact Kd.R_V (Kd.R_tight rfl (Kd.R_apart' (Kd.R_apart' (Kd.R_apart' (Kd.R_apart' (HO361.out) (Kd.N_typed HO331.out) (by decide)) (Kd.R_typed HO343.out) (by decide)) (Kd.R_typed HO346.out) (by decide)) (Kd.R_typed HO357.out) (by decide))))
          (case side2 => exact GOK.of_below (GOK.sub HG.out rfl) bA)
          rintro e w55 ⟨v363, rfl, ho0, hb⟩
          refine ⟨_, rfl, ?_⟩
          have n0_ := Aside0.mk (Kd.V_elder' (kV HO_0) (Kd.R_base ho0) hb)
          have n1_ := Aside0.mk (Kd.V_elder' (kV HO_1) (Kd.R_base ho0) hb)
          have n2_ := Aside0.mk (Kd.N_elder' (by (with_reducible repeat (first | apply Kd.N_alloc | apply Kd.N_drewN | apply Kd.N_drew)); exact HO331.out) (Kd.R_base ho0) hb)
          have n3_ := Aside0.mk (Kd.R_elder' (kR HO337) (Kd.R_base ho0) hb)
          have n4_ := Aside0.mk (Kd.R_elder' (kR HO340) (Kd.R_base ho0) hb)
          have n5_ := Aside0.mk (Kd.R_below (kR HO343) hb)
          have n6_ := Aside0.mk (Kd.R_below (kR HO346) hb)
          have n7_ := Aside0.mk (Kd.R_elder' (kR HO350) (Kd.R_base ho0) hb)
          have n8_ := Aside0.mk (Kd.R_elder' (kR HO354) (Kd.R_base ho0) hb)
          have n9_ := Aside0.mk (Kd.R_below (kR HO357) hb)
          have n10_ := Aside0.mk (Kd.R_elder' (kR HO361) (Kd.R_base ho0) hb)
          have n11_ := Aside0.mk (Kd.R_lower (Kd.R_new' (Kd.R_new' (Kd.R_new' (Kd.R_new' (Kd.R_new' (Kd.R_newM (M := fun k_ => (w.heap.size ≤ k_)) (Kd.R_mono (ok' := fun k_ => True) ho0 (fun _ hk_ => trivial)) (below_size bA) (fun k_ h_ => h_)) (Kd.R_lt (kR HO337))) (Kd.R_lt (kR HO340))) (Kd.R_lt (kR HO350))) (Kd.R_lt (kR HO354))) (Kd.R_lt (kR HO361))) (below_size bA))
          have n12_ := Aside0.mk (below_step bA hb)
          clear HO_0
          clear HO_1
          clear HO331
          clear HO337
          clear HO340
          clear HO343
          clear HO346
          clear HO350
          clear HO354
          clear HO357
          clear HO361
          clear HB
          have HO_0 := n0_
          have HO_1 := n1_
          have HO331 := n2_
          have HO337 := n3_
          have HO340 := n4_
          have HO343 := n5_
          have HO346 := n6_
          have HO350 := n7_
          have HO354 := n8_
          have HO357 := n9_
          have HO361 := n10_
          have HO364 := n11_
          have HB := n12_
          clear n0_ n1_ n2_ n3_ n4_ n5_ n6_ n7_ n8_ n9_ n10_ n11_ n12_
          (try clear hb)
          (try clear hb2)
          (try clear hk)
          (try clear hi)
          (try clear ho0)
          refine hK.out _ _ trivial (fun hHeld => ?_)
          clear hK K
          refine norm_ (a' := ?_) ?_ ?_
          rotate_left
          ·show Act.put _ (some 56) _ = _
           simp only [Act.put, List.setIfInBounds_toArray, List.set_cons_zero, List.set_cons_succ, i64_w, i32_w]
           rfl
          refine one_ (i := 17) (N := some 57) #[true, true, true, true, true, true, true, true, true, true, true, true, true, true, true, true, true, true, true, false, false, false, false, false, false] rfl rfl (one_of HT_.out (by kernel_rfl)) (by decide) (fun K hK => ?_)
          have hcv56 := own_string (P := Tryd.prog) Tryd.underlying22 Tryd.underlying5 Tryd.underlying9 (Kd.own_of_R HO364.out)
          refine value_ (w1 := ?_) (v := ?_) (by rfl) rfl ?_ ?_
          rotate_left 2
          ·go_simp
           constructor
           ·rfl
           ·rfl
          clear hcv56
          refine hK.out _ _ trivial (fun hHeld => ?_)
          clear hK K
          refine norm_ (a' := ?_) ?_ ?_
          rotate_left
          ·show Act.put _ (some 57) _ = _
           simp only [Act.put, List.setIfInBounds_toArray, List.set_cons_zero, List.set_cons_succ, i64_w, i32_w]
           rfl
          refine pure_ (i := 19) (N := some 59) (v := ?_) (a' := ?_) #[true, true, true, true, true, true, true, true, true, true, true, true, true, true, true, true, true, true, true, true, false, false, false, false, false] rfl rfl (any_of HT_.out (by kernel_rfl)) (fun _ _ _ h => h) (Or.inl ⟨by rfl, ?_⟩) ?_ ?_
          rotate_left
          ·intro w'
           go_simp
           with_reducible rfl
          rotate_left
          ·simp only [Act.put, List.setIfInBounds_toArray, List.set_cons_zero, List.set_cons_succ, i64_w, i32_w]
           rfl
          refine pure_ (i := 20) (N := some 60) (v := ?_) (a' := ?_) #[true, true, true, true, true, true, true, true, true, true, true, true, true, true, true, true, true, true, true, true, true, false, false, false, false] rfl rfl (any_of HT_.out (by kernel_rfl)) (fun _ _ _ h => h) (Or.inl ⟨by rfl, ?_⟩) ?_ ?_
          rotate_left
          ·intro w'
           go_simp
           with_reducible rfl
          rotate_left
          ·simp only [Act.put, List.setIfInBounds_toArray, List.set_cons_zero, List.set_cons_succ, i64_w, i32_w]
           rfl
          refine pure_ (i := 21) (N := some 61) (v := ?_) (a' := ?_) #[true, true, true, true, true, true, true, true, true, true, true, true, true, true, true, true, true, true, true, true, true, true, false, false, false] rfl rfl (any_of HT_.out (by kernel_rfl)) (fun _ _ _ h => h) (Or.inl ⟨by rfl, ?_⟩) ?_ ?_
          rotate_left
          ·intro w'
           go_simp
           with_reducible rfl
          rotate_left
          ·simp only [Act.put, List.setIfInBounds_toArray, List.set_cons_zero, List.set_cons_succ, i64_w, i32_w]
           rfl
          refine one_ (i := 22) (N := some 62) #[true, true, true, true, true, true, true, true, true, true, true, true, true, true, true, true, true, true, true, true, true, true, true, false, false] rfl rfl (one_of HT_.out (by kernel_rfl)) (by decide) (fun K hK => ?_)
          refine goes_ Tryd.func10 (by kernel_rfl) rfl #[] (by rfl) rfl rfl aP ?_
          with_reducible refine (flonglaw19_known.calls kj3  t365 _ ?side1 A30.out).mono ?_
          (case side1 => exact GOK.of_below (GOK.sub HG.out rfl) bA)
          rintro e w57 ⟨rfl, hb⟩
          refine ⟨_, rfl, ?_⟩
          have n0_ := Aside0.mk (Kd.V_below (kV HO_0) hb)
          have n1_ := Aside0.mk (Kd.V_below (kV HO_1) hb)
          have n2_ := Aside0.mk (Kd.N_below (by (with_reducible repeat (first | apply Kd.N_alloc | apply Kd.N_drewN | apply Kd.N_drew)); exact HO331.out) hb)
          have n3_ := Aside0.mk (Kd.R_below (kR HO337) hb)
          have n4_ := Aside0.mk (Kd.R_below (kR HO340) hb)
          have n5_ := Aside0.mk (Kd.R_below (kR HO343) hb)
          have n6_ := Aside0.mk (Kd.R_below (kR HO346) hb)
          have n7_ := Aside0.mk (Kd.R_below (kR HO350) hb)
          have n8_ := Aside0.mk (Kd.R_below (kR HO354) hb)
          have n9_ := Aside0.mk (Kd.R_below (kR HO357) hb)
          have n10_ := Aside0.mk (Kd.R_below (kR HO361) hb)
          have n11_ := Aside0.mk (Kd.R_below (kR HO364) hb)
          have n12_ := Aside0.mk (below_step bA hb)
          clear HO_0
          clear HO_1
          clear HO331
          clear HO337
          clear HO340
          clear HO343
          clear HO346
          clear HO350
          clear HO354
          clear HO357
          clear HO361
          clear HO364
          clear HB
          have HO_0 := n0_
          have HO_1 := n1_
          have HO331 := n2_
          have HO337 := n3_
          have HO340 := n4_
          have HO343 := n5_
          have HO346 := n6_
          have HO350 := n7_
          have HO354 := n8_
          have HO357 := n9_
          have HO361 := n10_
          have HO364 := n11_
          have HB := n12_
          clear n0_ n1_ n2_ n3_ n4_ n5_ n6_ n7_ n8_ n9_ n10_ n11_ n12_
          (try clear hb)
          (try clear hb2)
          (try clear hk)
          (try clear hi)
          refine hK.out _ _ trivial (fun hHeld => ?_)
          clear hK K
          refine norm_ (a' := ?_) ?_ ?_
          rotate_left
          ·show Act.put _ (some 62) _ = _
           simp only [Act.put, List.setIfInBounds_toArray, List.set_cons_zero, List.set_cons_succ, i64_w, i32_w]
           rfl
          refine pure_ (i := 23) (N := some 63) (v := ?_) (a' := ?_) #[true, true, true, true, true, true, true, true, true, true, true, true, true, true, true, true, true, true, true, true, true, true, true, true, false] rfl rfl (any_of HT_.out (by kernel_rfl)) (fun _ _ _ h => h) (Or.inl ⟨by rfl, ?_⟩) ?_ ?_
          rotate_left
          ·intro w'
           go_simp
           with_reducible rfl
          rotate_left
          ·simp only [Act.put, List.setIfInBounds_toArray, List.set_cons_zero, List.set_cons_succ, i64_w, i32_w]
           rfl
          refine pure_ (i := 24) (N := some 6) (v := ?_) (a' := ?_) #[true, true, true, true, true, true, true, true, true, true, true, true, true, true, true, true, true, true, true, true, true, true, true, true, true] rfl rfl (any_of HT_.out (by kernel_rfl)) (fun _ _ _ h => h) (Or.inl ⟨by rfl, ?_⟩) ?_ ?_
          rotate_left
          ·intro w'
           go_simp
           with_reducible rfl
          rotate_left
          ·simp only [Act.put, List.setIfInBounds_toArray, List.set_cons_zero, List.set_cons_succ, i64_w, i32_w]
           rfl
          refine done_ (done_of HT_.out (by kernel_rfl)) ?_
          try go_wp2
          go_ret
          exact ⟨eW, bA⟩
         ·rw [if_neg c29] at H
          have c29b0 : ((strOfNums t362).toList == t347.toList) = false := beq_eq_false_iff_ne.mpr c29
          have c29b1 : ((strOfNums t362).toList != t347.toList) = true := bne_iff_ne.mpr c29
          obtain rfl := Option.some.inj H
          try go_wp2_with (first | ((with_reducible refine gate_builtin (b := .append) (xs := #[.tmp 23, .tmp 24]) rfl ?_); (try (refine gate_guard (by rfl) ?_; dsimp only)); at_builtin; refine Kd.N_append_rows k35 (w0 := w) w.heap.size rfl (.tmp 23) (.tmp 24) 30 35 (.agg #[(.int .i64 0), (.slice none 0 0), (.bool false)]) 40 rfl Tryd.underlying30 info35 rfl (by decide) (by omega) (.slice none 0 0) ([] : List (S35)) l0 _ _ _ (fun k_ => ((P0_ k_ ∨ P1_ k_) ∨ w.heap.size ≤ k_)) (fun k_ => ((fun k_ => ((P0_ k_ ∨ P1_ k_) ∨ w.heap.size ≤ k_))) k_ ∧ some k_ ≠ (.slice none 0 0 : Value).ownBlock) rfl rfl ?aO ?aR (fun _ hk => hk) ?aF ?aB ?aS ?aL ?_; (case aR => exact (by skip; exact Kd.V_F (Kd.V_mono (ok' := (fun k_ => ((fun k_ => ((P0_ k_ ∨ P1_ k_) ∨ w.heap.size ≤ k_))) k_ ∧ some k_ ≠ (.slice none 0 0 : Value).ownBlock)) (HO_0.out) (fun k_ hk => ⟨hk, (by simp [Value.ownBlock])⟩)))); (case aB => exact bA); (case aF => exact (fun k_ hk => (.inr (Nat.le_trans (below_size bA) hk)))); (case aO => exact ((Kd.N_nil _ _ _ _ (fun k_ => ((P0_ k_ ∨ P1_ k_) ∨ w.heap.size ≤ k_))))); (case aS => exact (below_size bA)); (case aL => have := LMc12.out; omega); intro v327 w58 ho hb hg hat; rw [← Ny326.out] at ho; replace HO_0 := Aside0.mk (Kd.V_afterv (Kd.V_apart_nil (kV HO_0)) hg hat); replace HO_1 := Aside0.mk (Kd.V_afterv (Kd.V_apart_nil (kV HO_1)) hg hat); have HO328 := Aside0.mk (ho); replace HB := Aside0.mk (hb); clear ho hb hg hat) | ((with_reducible refine gate_builtin (b := .append) (xs := #[.tmp 26, .tmp 27]) rfl ?_); (try (refine gate_guard (by rfl) ?_; dsimp only)); at_builtin; refine Kd.N_append_rows k35 (w0 := w) w.heap.size rfl (.tmp 26) (.tmp 27) 30 35 (.agg #[(.int .i64 0), (.slice none 0 0), (.bool false)]) 40 rfl Tryd.underlying30 info35 rfl (by decide) (by omega) v327 y326 l1 _ _ _ (fun k_ => ((P0_ k_ ∨ P1_ k_) ∨ w.heap.size ≤ k_)) (fun k_ => ((fun k_ => ((P0_ k_ ∨ P1_ k_) ∨ w.heap.size ≤ k_))) k_ ∧ some k_ ≠ (v327 : Value).ownBlock) rfl rfl ?aO ?aR (fun _ hk => hk) ?aF ?aB ?aS ?aL ?_; (case aR => exact (by skip; exact Kd.V_F (Kd.V_mono (ok' := (fun k_ => ((fun k_ => ((P0_ k_ ∨ P1_ k_) ∨ w.heap.size ≤ k_))) k_ ∧ some k_ ≠ (v327 : Value).ownBlock)) (HO_1.out) (fun k_ hk => ⟨hk.1, hk.2⟩)))); (case aB => exact bA); (case aF => exact (fun k_ hk => (.inr (Nat.le_trans (below_size bA) hk)))); (case aO => exact (by (with_reducible repeat (first | apply Kd.N_alloc | apply Kd.N_drewN | apply Kd.N_drew)); exact HO328.out)); (case aS => exact (below_size bA)); (case aL => have := LMc13.out; omega); intro v330 w59 ho hb hg hat; rw [← Ny329.out] at ho; have n0_ := Aside0.mk (Kd.V_afterv (ok := (fun k_ => ((P0_ k_ ∨ P1_ k_) ∨ w.heap.size ≤ k_))) (kV HO_0) hg hat); have n1_ := Aside0.mk (Kd.V_afterv (ok := (fun k_ => ((P0_ k_ ∨ P1_ k_) ∨ w.heap.size ≤ k_))) (kV HO_1) hg hat); have n2_ := Aside0.mk (hb); have n3_ := Aside0.mk (ho); clear HO_0; clear HO_1; clear HB; clear HO328; have HO_0 := n0_; have HO_1 := n1_; have HB := n2_; have HO331 := n3_; clear n0_ n1_ n2_ n3_; clear ho hb hg hat) | ((with_reducible refine gate_callee (f := 18) rfl ?_); refine goesL_ (some 30) rfl rfl Tryd.func18 (by kernel_rfl) rfl #[.slice A0 l0.length c0] rfl aP ?_; (with_reducible refine (ansi_Write.calls kj3 _ _ l0 t332 _ ?side1 ?side2 ?side3 A14.out).mono ?_); (case side1 => repeat (first | exact (Kd.V_reads' HO_0.out).2.2 | (with_reducible refine Kd.C_alloc ?_ _) | (with_reducible refine Kd.C_drewN ?_ _) | (with_reducible refine Kd.C_drew ?_))); (case side2 => exact (Kd.V_reads' HO_0.out).2.1); (case side3 => exact GOK.of_below (GOK.sub HG.out rfl) bA); rintro e w60 ⟨v333, rfl, ho0, hb⟩; refine ⟨_, rfl, ?_⟩; have n0_ := Aside0.mk (Kd.V_elder' (kV HO_0) (Kd.R_base ho0) hb); have n1_ := Aside0.mk (Kd.V_elder' (kV HO_1) (Kd.R_base ho0) hb); have n2_ := Aside0.mk (Kd.N_elder' (by (with_reducible repeat (first | apply Kd.N_alloc | apply Kd.N_drewN | apply Kd.N_drew)); exact HO331.out) (Kd.R_base ho0) hb); have n3_ := Aside0.mk (Kd.R_lower (Kd.R_newM (M := fun k_ => (w.heap.size ≤ k_)) ho0 (below_size bA) (fun k_ h_ => h_)) (below_size bA)); have n4_ := Aside0.mk (below_step bA hb); clear HO_0; clear HO_1; clear HO331; clear HB; have HO_0 := n0_; have HO_1 := n1_; have HO331 := n2_; have HO334 := n3_; have HB := n4_; clear n0_ n1_ n2_ n3_ n4_; (try clear hb); (try clear hb2); (try clear hk); (try clear hi); (try clear ho0)) | ((with_reducible refine gate_callee (f := 18) rfl ?_); refine goesL_ (some 33) rfl rfl Tryd.func18 (by kernel_rfl) rfl #[.slice A1 l1.length c1] rfl aP ?_; (with_reducible refine (ansi_Write.calls kj3 _ _ l1 t335 _ ?side1 ?side2 ?side3 A15.out).mono ?_); (case side1 => repeat (first | exact (Kd.V_reads' HO_1.out).2.2 | (with_reducible refine Kd.C_alloc ?_ _) | (with_reducible refine Kd.C_drewN ?_ _) | (with_reducible refine Kd.C_drew ?_))); (case side2 => exact (Kd.V_reads' HO_1.out).2.1); (case side3 => exact GOK.of_below (GOK.sub HG.out rfl) bA); rintro e w61 ⟨v336, rfl, ho0, hb⟩; refine ⟨_, rfl, ?_⟩; have n0_ := Aside0.mk (Kd.V_elder' (kV HO_0) (Kd.R_base ho0) hb); have n1_ := Aside0.mk (Kd.V_elder' (kV HO_1) (Kd.R_base ho0) hb); have n2_ := Aside0.mk (Kd.N_elder' (by (with_reducible repeat (first | apply Kd.N_alloc | apply Kd.N_drewN | apply Kd.N_drew)); exact HO331.out) (Kd.R_base ho0) hb); have n3_ := Aside0.mk (Kd.R_elder' (kR HO334) (Kd.R_base ho0) hb); have n4_ := Aside0.mk (Kd.R_lower (Kd.R_new' (Kd.R_newM (M := fun k_ => (w.heap.size ≤ k_)) ho0 (below_size bA) (fun k_ h_ => h_)) (Kd.R_lt (kR HO334))) (below_size bA)); have n5_ := Aside0.mk (below_step bA hb); clear HO_0; clear HO_1; clear HO331; clear HO334; clear HB; have HO_0 := n0_; have HO_1 := n1_; have HO331 := n2_; have HO334 := n3_; have HO337 := n4_; have HB := n5_; clear n0_ n1_ n2_ n3_ n4_ n5_; (try clear hb); (try clear hb2); (try clear hk); (try clear hi); (try clear ho0); obtain ⟨Ao63, co63, eo63⟩ := Kd.R_slice HO337.out; subst eo63) | ((with_reducible refine gate_builtin (b := .append) (xs := #[.tmp 31, .tmp 33]) rfl ?_); (try (refine gate_guard (by rfl) ?_; dsimp only)); at_builtin; refine Kd.R_append_rows (Kd.int .u8) (w0 := w) w.heap.size rfl (.tmp 31) (.tmp 33) 22 5 (.int .u8 0) 1 rfl Tryd.underlying22 info5 rfl (by decide) (by omega) v333 t332 t335 _ _ _ (fun k_ => (w.heap.size ≤ k_) ∧ some k_ ≠ (.slice Ao63 t335.length co63 : Value).ownBlock) (fun _ => False) rfl rfl ?aO ?aR (fun _ _ h => h) (fun _ h => h.elim) ?aF ?aB ?aS ?aL ?_; (case aR => repeat (first | exact (Kd.R_reads' HO337.out).2.2 | (with_reducible refine Kd.C_alloc ?_ _) | (with_reducible refine Kd.C_drewN ?_ _) | (with_reducible refine Kd.C_drew ?_))); (case aB => exact bA); (case aF => exact (fun k_ hk => ⟨(Nat.le_trans (below_size bA) hk), Kd.fresh' (Kd.R_lt (kR HO337)) k_ hk⟩)); (case aO => exact (by (with_reducible repeat (first | apply Kd.R_alloc | apply Kd.R_drewN | apply Kd.R_drew)); exact Kd.R_mono HO334.out (fun _ hk => ⟨hk.1.1, hk.2⟩))); (case aS => exact (below_size bA)); (case aL => have := LMc16.out; omega); intro v339 w62 ho hb hg hat; rw [← Ny338.out] at ho; have n0_ := Aside0.mk (Kd.V_afterv (ok := (fun k_ => ((P0_ k_ ∨ P1_ k_) ∨ w.heap.size ≤ k_) ∧ some k_ ≠ (v330 : Value).ownBlock ∧ some k_ ≠ (.slice Ao63 t335.length co63 : Value).ownBlock)) (by (with_reducible repeat (first | apply Kd.V_alloc | apply Kd.V_drewN | apply Kd.V_drew)); exact Kd.V_mono HO_0.out (fun _ hk => ⟨⟨hk.1.1.1, ⟨hk.1.1.2, hk.2⟩⟩, hk.1.2⟩)) hg hat); have n1_ := Aside0.mk (Kd.V_afterv (ok := (fun k_ => ((P0_ k_ ∨ P1_ k_) ∨ w.heap.size ≤ k_) ∧ some k_ ≠ (v330 : Value).ownBlock ∧ some k_ ≠ (.slice Ao63 t335.length co63 : Value).ownBlock)) (by (with_reducible repeat (first | apply Kd.V_alloc | apply Kd.V_drewN | apply Kd.V_drew)); exact Kd.V_mono HO_1.out (fun _ hk => ⟨⟨hk.1.1.1, ⟨hk.1.1.2, hk.2⟩⟩, hk.1.2⟩)) hg hat); have n2_ := Aside0.mk (Kd.N_afterv (ok := (fun k_ => ((P0_ k_ ∨ P1_ k_) ∨ w.heap.size ≤ k_) ∧ some k_ ≠ (.slice Ao63 t335.length co63 : Value).ownBlock)) (by (with_reducible repeat (first | apply Kd.N_alloc | apply Kd.N_drewN | apply Kd.N_drew)); exact Kd.N_mono HO331.out (fun _ hk => ⟨⟨hk.1.1, hk.2⟩, hk.1.2⟩)) hg hat); have n3_ := Aside0.mk (Kd.R_after (ok := (fun k_ => (w.heap.size ≤ k_))) (by (with_reducible repeat (first | apply Kd.R_alloc | apply Kd.R_drewN | apply Kd.R_drew)); exact Kd.R_mono HO337.out (fun _ hk => ⟨hk.1.1, hk.2⟩)) hg hat); have n4_ := Aside0.mk (hb); have n5_ := Aside0.mk (ho); clear HO_0; clear HO_1; clear HO331; clear HO337; clear HB; clear HO334; have HO_0 := n0_; have HO_1 := n1_; have HO331 := n2_; have HO337 := n3_; have HB := n4_; have HO340 := n5_; clear n0_ n1_ n2_ n3_ n4_ n5_; clear ho hb hg hat) | ((with_reducible refine gate_callee (f := 23) rfl ?_); refine goesL_ (some 36) rfl rfl Tryd.func23 (by kernel_rfl) rfl #[.slice A2 l2.length c2] rfl aP ?_; (with_reducible refine (flongref17_Erase.calls kj3 _ _ l2 t341 _ ?side1 ?side2 A17.out).mono ?_); (case side1 => repeat (first | exact (Kd.C_below HR2.out HB.out) | (with_reducible refine Kd.C_alloc ?_ _) | (with_reducible refine Kd.C_drewN ?_ _) | (with_reducible refine Kd.C_drew ?_))); (case side2 => exact HC2.out); rintro e w64 ⟨v342, rfl, ho0, hb⟩; refine ⟨_, rfl, ?_⟩; have n0_ := Aside0.mk (Kd.V_elder' (kV HO_0) (Kd.R_base ho0) hb); have n1_ := Aside0.mk (Kd.V_elder' (kV HO_1) (Kd.R_base ho0) hb); have n2_ := Aside0.mk (Kd.N_elder' (by (with_reducible repeat (first | apply Kd.N_alloc | apply Kd.N_drewN | apply Kd.N_drew)); exact HO331.out) (Kd.R_base ho0) hb); have n3_ := Aside0.mk (Kd.R_below (kR HO337) hb); have n4_ := Aside0.mk (Kd.R_below (kR HO340) hb); have n5_ := Aside0.mk (Kd.R_lower (Kd.R_newM (M := fun k_ => (w.heap.size ≤ k_)) ho0 (below_size bA) (fun k_ h_ => h_)) (below_size bA)); have n6_ := Aside0.mk (below_step bA hb); clear HO_0; clear HO_1; clear HO331; clear HO337; clear HO340; clear HB; have HO_0 := n0_; have HO_1 := n1_; have HO331 := n2_; have HO337 := n3_; have HO340 := n4_; have HO343 := n5_; have HB := n6_; clear n0_ n1_ n2_ n3_ n4_ n5_ n6_; (try clear hb); (try clear hb2); (try clear hk); (try clear hi); (try clear ho0)) | ((with_reducible refine gate_callee (f := 25) rfl ?_); refine goesL_ (some 38) rfl rfl Tryd.func25 (by kernel_rfl) rfl #[.slice A2 l2.length c2] rfl aP ?_; (with_reducible refine (flongref17_Normal.calls kj3 _ _ l2 t344 _ ?side1 ?side2 A18.out).mono ?_); (case side1 => repeat (first | exact (Kd.C_below HR2.out HB.out) | (with_reducible refine Kd.C_alloc ?_ _) | (with_reducible refine Kd.C_drewN ?_ _) | (with_reducible refine Kd.C_drew ?_))); (case side2 => exact HC2.out); rintro e w65 ⟨v345, rfl, ho0, hb⟩; refine ⟨_, rfl, ?_⟩; have n0_ := Aside0.mk (Kd.V_elder' (kV HO_0) (Kd.R_base ho0) hb); have n1_ := Aside0.mk (Kd.V_elder' (kV HO_1) (Kd.R_base ho0) hb); have n2_ := Aside0.mk (Kd.N_elder' (by (with_reducible repeat (first | apply Kd.N_alloc | apply Kd.N_drewN | apply Kd.N_drew)); exact HO331.out) (Kd.R_base ho0) hb); have n3_ := Aside0.mk (Kd.R_below (kR HO337) hb); have n4_ := Aside0.mk (Kd.R_below (kR HO340) hb); have n5_ := Aside0.mk (Kd.R_elder' (kR HO343) (Kd.R_base ho0) hb); have n6_ := Aside0.mk (Kd.R_lower (Kd.R_new' (Kd.R_newM (M := fun k_ => (w.heap.size ≤ k_)) ho0 (below_size bA) (fun k_ h_ => h_)) (Kd.R_lt (kR HO343))) (below_size bA)); have n7_ := Aside0.mk (below_step bA hb); clear HO_0; clear HO_1; clear HO331; clear HO337; clear HO340; clear HO343; clear HB; have HO_0 := n0_; have HO_1 := n1_; have HO331 := n2_; have HO337 := n3_; have HO340 := n4_; have HO343 := n5_; have HO346 := n6_; have HB := n7_; clear n0_ n1_ n2_ n3_ n4_ n5_ n6_ n7_; (try clear hb); (try clear hb2); (try clear hk); (try clear hi); (try clear ho0); obtain ⟨Ao66, co66, eo66⟩ := Kd.R_slice HO346.out; subst eo66) | ((with_reducible refine gate_callee (f := 24) rfl ?_); refine goesL_ (some 39) rfl rfl Tryd.func24 (by kernel_rfl) rfl #[.slice Ao66 t344.length co66] rfl aP ?_; (with_reducible refine (flongref03_Text.calls kj3 _ _ t344 t347 _ ?side1 ?side2 A19.out).mono ?_); (case side1 => repeat (first | exact (Kd.R_reads' HO346.out).2.2 | (with_reducible refine Kd.C_alloc ?_ _) | (with_reducible refine Kd.C_drewN ?_ _) | (with_reducible refine Kd.C_drew ?_))); (case side2 => exact (Kd.R_reads' HO346.out).2.1); rintro e w67 ⟨rfl, hb⟩; refine ⟨_, rfl, ?_⟩; have n0_ := Aside0.mk (Kd.V_below (kV HO_0) hb); have n1_ := Aside0.mk (Kd.V_below (kV HO_1) hb); have n2_ := Aside0.mk (Kd.N_below (by (with_reducible repeat (first | apply Kd.N_alloc | apply Kd.N_drewN | apply Kd.N_drew)); exact HO331.out) hb); have n3_ := Aside0.mk (Kd.R_below (kR HO337) hb); have n4_ := Aside0.mk (Kd.R_below (kR HO340) hb); have n5_ := Aside0.mk (Kd.R_below (kR HO343) hb); have n6_ := Aside0.mk (Kd.R_below (kR HO346) hb); have n7_ := Aside0.mk (below_step bA hb); clear HO_0; clear HO_1; clear HO331; clear HO337; clear HO340; clear HO343; clear HO346; clear HB; have HO_0 := n0_; have HO_1 := n1_; have HO331 := n2_; have HO337 := n3_; have HO340 := n4_; have HO343 := n5_; have HO346 := n6_; have HB := n7_; clear n0_ n1_ n2_ n3_ n4_ n5_ n6_ n7_; (try clear hb); (try clear hb2); (try clear hk); (try clear hi); obtain ⟨Ao68, co68, eo68⟩ := Kd.N_slice HO331.out; subst eo68; obtain ⟨Ao69, co69, eo69⟩ := Kd.R_slice HO340.out; subst eo69; obtain ⟨Ao70, co70, eo70⟩ := Kd.R_slice HO343.out; subst eo70))
          have n0_ := Aside0.mk (Kd.V_drew HO_0.out)
          have n1_ := Aside0.mk (Kd.V_drew HO_1.out)
          have n2_ := Aside0.mk (Kd.N_drew HO331.out)
          have n3_ := Aside0.mk (Kd.R_drew HO337.out)
          have n4_ := Aside0.mk (Kd.R_drew HO340.out)
          have n5_ := Aside0.mk (Kd.R_drew HO343.out)
          have n6_ := Aside0.mk (Kd.R_drew HO346.out)
          have n7_ := Aside0.mk (below_drew1 HB.out)
          clear HO_0
          clear HO_1
          clear HO331
          clear HO337
          clear HO340
          clear HO343
          clear HO346
          clear HB
          have HO_0 := n0_
          have HO_1 := n1_
          have HO331 := n2_
          have HO337 := n3_
          have HO340 := n4_
          have HO343 := n5_
          have HO346 := n6_
          have HB := n7_
          clear n0_ n1_ n2_ n3_ n4_ n5_ n6_ n7_
          refine start_ (n := 25) (S := fun w' => True) (ds := []) #[false, false, false, false, false, false, false, false, false, false, false, false, false, false, false, false, false, false, false, false, false, false, false, false, false] (by kernel_rfl) rfl rfl trivial (fun hHeld => ?_); refine with_tabW flonglaw19_AnsiJoins.tab10 flonglaw19_AnsiJoins.bits10 (fun HT_ HW_ => ?_)
          generalize w67.drew = w71 at HO_0 HO_1 HO331 HO337 HO340 HO343 HO346 HB hHeld ⊢
          refine pure_ (i := 0) (N := some 40) (v := ?_) (a' := ?_) #[true, false, false, false, false, false, false, false, false, false, false, false, false, false, false, false, false, false, false, false, false, false, false, false, false] rfl rfl (any_of HT_.out (by kernel_rfl)) (fun _ _ _ h => h) (Or.inl ⟨by rfl, ?_⟩) ?_ ?_
          rotate_left
          ·intro w'
           go_simp
           with_reducible rfl
          rotate_left
          ·simp only [Act.put, List.setIfInBounds_toArray, List.set_cons_zero, List.set_cons_succ, i64_w, i32_w]
           rfl
          refine pure_ (i := 2) (N := some 42) (v := ?_) (a' := ?_) #[true, false, true, false, false, false, false, false, false, false, false, false, false, false, false, false, false, false, false, false, false, false, false, false, false] rfl rfl (any_of HT_.out (by kernel_rfl)) (fun _ _ _ h => h) (Or.inl ⟨by rfl, ?_⟩) ?_ ?_
          rotate_left
          ·intro w'
           go_simp
           with_reducible rfl
          rotate_left
          ·simp only [Act.put, List.setIfInBounds_toArray, List.set_cons_zero, List.set_cons_succ, i64_w, i32_w]
           rfl
          refine one_ (i := 1) (N := some 41) #[true, true, true, false, false, false, false, false, false, false, false, false, false, false, false, false, false, false, false, false, false, false, false, false, false] rfl rfl (one_of HT_.out (by kernel_rfl)) (by decide) (fun K hK => ?_)
          refine goes_ Tryd.func18 (by kernel_rfl) rfl #[.slice Ao68 y329.length co68] (by rfl) rfl rfl aP ?_
          with_reducible refine (ansi_Write.calls kj3 _ _ y329 t348 _ ?side1 ?side2 ?side3 A20.out).mono ?_
          (case side1 => repeat (first | exact (Kd.N_reads' HO331.out).2.2 | (with_reducible refine Kd.C_alloc ?_ _) | (with_reducible refine Kd.C_drewN ?_ _) | (with_reducible refine Kd.C_drew ?_)))
          (case side2 => exact (Kd.N_reads' HO331.out).2.1)
          (case side3 => exact GOK.of_below (GOK.sub HG.out rfl) bA)
          rintro e w72 ⟨v349, rfl, ho0, hb⟩
          refine ⟨_, rfl, ?_⟩
          have n0_ := Aside0.mk (Kd.V_elder' (kV HO_0) (Kd.R_base ho0) hb)
          have n1_ := Aside0.mk (Kd.V_elder' (kV HO_1) (Kd.R_base ho0) hb)
          have n2_ := Aside0.mk (Kd.N_elder' (by (with_reducible repeat (first | apply Kd.N_alloc | apply Kd.N_drewN | apply Kd.N_drew)); exact HO331.out) (Kd.R_base ho0) hb)
          have n3_ := Aside0.mk (Kd.R_elder' (kR HO337) (Kd.R_base ho0) hb)
          have n4_ := Aside0.mk (Kd.R_elder' (kR HO340) (Kd.R_base ho0) hb)
          have n5_ := Aside0.mk (Kd.R_below (kR HO343) hb)
          have n6_ := Aside0.mk (Kd.R_below (kR HO346) hb)
          have n7_ := Aside0.mk (Kd.R_lower (Kd.R_new' (Kd.R_new' (Kd.R_newM (M := fun k_ => (w.heap.size ≤ k_)) ho0 (below_size bA) (fun k_ h_ => h_)) (Kd.R_lt (kR HO337))) (Kd.R_lt (kR HO340))) (below_size bA))
          have n8_ := Aside0.mk (below_step bA hb)
          clear HO_0
          clear HO_1
          clear HO331
          clear HO337
          clear HO340
          clear HO343
          clear HO346
          clear HB
          have HO_0 := n0_
          have HO_1 := n1_
          have HO331 := n2_
          have HO337 := n3_
          have HO340 := n4_
          have HO343 := n5_
          have HO346 := n6_
          have HO350 := n7_
          have HB := n8_
          clear n0_ n1_ n2_ n3_ n4_ n5_ n6_ n7_ n8_
          (try clear hb)
          (try clear hb2)
          (try clear hk)
          (try clear hi)
          (try clear ho0)
          obtain ⟨Ao73, co73, eo73⟩ := Kd.R_slice HO350.out
          (first | subst eo73 | (injection eo73 with f1_ f2_ f3_; have f4_ := f1_.symm; have f5_ := f3_.symm; clear f1_ f2_ f3_; subst f4_; subst f5_))
          refine hK.out _ _ trivial (fun hHeld => ?_)
          clear hK K
          refine norm_ (a' := ?_) ?_ ?_
          rotate_left
          ·show Act.put _ (some 41) _ = _
           simp only [Act.put, List.setIfInBounds_toArray, List.set_cons_zero, List.set_cons_succ, i64_w, i32_w]
           rfl
          refine one_ (i := 3) (N := some 43) #[true, true, true, true, false, false, false, false, false, false, false, false, false, false, false, false, false, false, false, false, false, false, false, false, false] rfl rfl (one_of HT_.out (by kernel_rfl)) (by decide) (fun K hK => ?_)
          refine goes_ Tryd.func13 (by kernel_rfl) rfl #[.slice Ao73 t348.length co73, .slice Ao69 y338.length co69] (by rfl) rfl rfl aP ?_
          with_reducible refine (flongref00_Same.calls _ _ t348 _ _ y338 true _ ?side1 ?side2 ?side3 ?side4 A21.out).mono ?_
          (case side1 => repeat (first | exact (Kd.R_reads' HO350.out).2.2 | (with_reducible refine Kd.C_alloc ?_ _) | (with_reducible refine Kd.C_drewN ?_ _) | (with_reducible refine Kd.C_drew ?_)))
          (case side2 => exact (Kd.R_reads' HO350.out).2.1)
          (case side3 => repeat (first | exact (Kd.R_reads' HO340.out).2.2 | (with_reducible refine Kd.C_alloc ?_ _) | (with_reducible refine Kd.C_drewN ?_ _) | (with_reducible refine Kd.C_drew ?_)))
          (case side4 => exact (Kd.R_reads' HO340.out).2.1)
          rintro e w' ⟨rfl, ⟨nd, rfl⟩⟩
          refine ⟨_, rfl, ?_⟩
          refine hK.out _ _ trivial (fun hHeld => ?_)
          clear hK K
          refine norm_ (a' := ?_) ?_ ?_
          rotate_left
          ·show Act.put _ (some 43) _ = _
           simp only [Act.put, List.setIfInBounds_toArray, List.set_cons_zero, List.set_cons_succ, i64_w, i32_w]
           rfl
          refine pure_ (i := 4) (N := some 44) (v := ?_) (a' := ?_) #[true, true, true, true, true, false, false, false, false, false, false, false, false, false, false, false, false, false, false, false, false, false, false, false, false] rfl rfl (any_of HT_.out (by kernel_rfl)) (fun _ _ _ h => h) (Or.inl ⟨by rfl, ?_⟩) ?_ ?_
          rotate_left
          ·intro w'
           go_simp
           with_reducible rfl
          rotate_left
          ·simp only [Act.put, List.setIfInBounds_toArray, List.set_cons_zero, List.set_cons_succ, i64_w, i32_w]
           rfl
          refine pure_ (i := 5) (N := some 45) (v := ?_) (a' := ?_) #[true, true, true, true, true, true, false, false, false, false, false, false, false, false, false, false, false, false, false, false, false, false, false, false, false] rfl rfl (any_of HT_.out (by kernel_rfl)) (fun _ _ _ h => h) (Or.inl ⟨by rfl, ?_⟩) ?_ ?_
          rotate_left
          ·intro w'
           go_simp
           with_reducible rfl
          rotate_left
          ·simp only [Act.put, List.setIfInBounds_toArray, List.set_cons_zero, List.set_cons_succ, i64_w, i32_w]
           rfl
          refine pure_ (i := 8) (N := some 48) (v := ?_) (a' := ?_) #[true, true, true, true, true, true, false, false, true, false, false, false, false, false, false, false, false, false, false, false, false, false, false, false, false] rfl rfl (any_of HT_.out (by kernel_rfl)) (fun _ _ _ h => h) (Or.inl ⟨by rfl, ?_⟩) ?_ ?_
          rotate_left
          ·intro w'
           go_simp
           with_reducible rfl
          rotate_left
          ·simp only [Act.put, List.setIfInBounds_toArray, List.set_cons_zero, List.set_cons_succ, i64_w, i32_w]
           rfl
          refine one_ (i := 6) (N := some 46) #[true, true, true, true, true, true, true, false, true, false, false, false, false, false, false, false, false, false, false, false, false, false, false, false, false] rfl rfl (one_of HT_.out (by kernel_rfl)) (by decide) (fun K hK => ?_)
          refine goes_ Tryd.func16 (by kernel_rfl) rfl #[.slice Ao70 t341.length co70] (by rfl) rfl rfl aP ?_
          with_reducible refine (ansi_Row.calls kj3 _ _ t341 t352 _ ?side1 ?side2 ?side3 A23.out).mono ?_
          (case side1 => repeat (first | exact (Kd.R_reads' HO343.out).2.2 | (with_reducible refine Kd.C_alloc ?_ _) | (with_reducible refine Kd.C_drewN ?_ _) | (with_reducible refine Kd.C_drew ?_)))
          (case side2 => exact (Kd.R_reads' HO343.out).2.1)
          (case side3 => exact GOK.of_below (GOK.sub HG.out rfl) bA)
          rintro e w74 ⟨v353, rfl, ho0, hb⟩
          refine ⟨_, rfl, ?_⟩
          have n0_ := Aside0.mk (Kd.V_elder' (kV HO_0) (Kd.R_base ho0) hb)
          have n1_ := Aside0.mk (Kd.V_elder' (kV HO_1) (Kd.R_base ho0) hb)
          have n2_ := Aside0.mk (Kd.N_elder' (by (with_reducible repeat (first | apply Kd.N_alloc | apply Kd.N_drewN | apply Kd.N_drew)); exact HO331.out) (Kd.R_base ho0) hb)
          have n3_ := Aside0.mk (Kd.R_elder' (kR HO337) (Kd.R_base ho0) hb)
          have n4_ := Aside0.mk (Kd.R_elder' (kR HO340) (Kd.R_base ho0) hb)
          have n5_ := Aside0.mk (Kd.R_below (kR HO343) hb)
          have n6_ := Aside0.mk (Kd.R_below (kR HO346) hb)
          have n7_ := Aside0.mk (Kd.R_elder' (kR HO350) (Kd.R_base ho0) hb)
          have n8_ := Aside0.mk (Kd.R_lower (Kd.R_new' (Kd.R_new' (Kd.R_new' (Kd.R_newM (M := fun k_ => (w.heap.size ≤ k_)) ho0 (below_size bA) (fun k_ h_ => h_)) (Kd.R_lt (kR HO337))) (Kd.R_lt (kR HO340))) (Kd.R_lt (kR HO350))) (below_size bA))
          have n9_ := Aside0.mk (below_step bA hb)
          clear HO_0
          clear HO_1
          clear HO331
          clear HO337
          clear HO340
          clear HO343
          clear HO346
          clear HO350
          clear HB
          have HO_0 := n0_
          have HO_1 := n1_
          have HO331 := n2_
          have HO337 := n3_
          have HO340 := n4_
          have HO343 := n5_
          have HO346 := n6_
          have HO350 := n7_
          have HO354 := n8_
          have HB := n9_
          clear n0_ n1_ n2_ n3_ n4_ n5_ n6_ n7_ n8_ n9_
          (try clear hb)
          (try clear hb2)
          (try clear hk)
          (try clear hi)
          (try clear ho0)
          refine hK.out _ _ trivial (fun hHeld => ?_)
          clear hK K
          refine norm_ (a' := ?_) ?_ ?_
          rotate_left
          ·show Act.put _ (some 46) _ = _
           simp only [Act.put, List.setIfInBounds_toArray, List.set_cons_zero, List.set_cons_succ, i64_w, i32_w]
           rfl
          refine join_ (σ := Value) 14 #[true, true, true, true, true, true, true, true, true, true, true, false, false, false, false, false, false, false, false, false, false, false, false, false, false] (fun s_ => [(47, .string (strOfNums t352)), (49, s_), (50, .string t358)]) (fun s_ w' => (Kd.N k35 35 w' w.heap.size (fun k_ => ((P0_ k_ ∨ P1_ k_) ∨ w.heap.size ≤ k_) ∧ some k_ ≠ (.slice Ao63 t335.length co63 : Value).ownBlock ∧ some k_ ≠ (.slice Ao69 y338.length co69 : Value).ownBlock ∧ some k_ ≠ (.slice Ao70 t341.length co70 : Value).ownBlock ∧ some k_ ≠ (.slice Ao66 t344.length co66 : Value).ownBlock ∧ some k_ ≠ (.slice Ao73 t348.length co73 : Value).ownBlock ∧ some k_ ≠ (v353 : Value).ownBlock ∧ some k_ ≠ (s_ : Value).ownBlock) (.slice Ao68 y329.length co68) y329) ∧ (Kd.R (Kd.int .u8) 5 w' w.heap.size (fun k_ => (w.heap.size ≤ k_) ∧ some k_ ≠ (.slice Ao69 y338.length co69 : Value).ownBlock ∧ some k_ ≠ (.slice Ao73 t348.length co73 : Value).ownBlock ∧ some k_ ≠ (v353 : Value).ownBlock) (.slice Ao63 t335.length co63) t335) ∧ (Kd.R (Kd.int .u8) 5 w' w.heap.size (fun k_ => (w.heap.size ≤ k_) ∧ some k_ ≠ (.slice Ao63 t335.length co63 : Value).ownBlock ∧ some k_ ≠ (.slice Ao73 t348.length co73 : Value).ownBlock ∧ some k_ ≠ (v353 : Value).ownBlock) (.slice Ao69 y338.length co69) y338) ∧ (Kd.R k44 44 w' w.heap.size (fun k_ => (w.heap.size ≤ k_) ∧ some k_ ≠ (.slice Ao66 t344.length co66 : Value).ownBlock ∧ some k_ ≠ (s_ : Value).ownBlock) (.slice Ao70 t341.length co70) t341) ∧ (Kd.R k44 44 w' w.heap.size (fun k_ => (w.heap.size ≤ k_) ∧ some k_ ≠ (.slice Ao70 t341.length co70 : Value).ownBlock ∧ some k_ ≠ (s_ : Value).ownBlock) (.slice Ao66 t344.length co66) t344) ∧ (Kd.R (Kd.int .u8) 5 w' w.heap.size (fun k_ => (w.heap.size ≤ k_) ∧ some k_ ≠ (.slice Ao63 t335.length co63 : Value).ownBlock ∧ some k_ ≠ (.slice Ao69 y338.length co69 : Value).ownBlock ∧ some k_ ≠ (v353 : Value).ownBlock) (.slice Ao73 t348.length co73) t348) ∧ (Kd.R (Kd.int .u8) 5 w' w.heap.size (fun k_ => (w.heap.size ≤ k_) ∧ some k_ ≠ (.slice Ao63 t335.length co63 : Value).ownBlock ∧ some k_ ≠ (.slice Ao69 y338.length co69 : Value).ownBlock ∧ some k_ ≠ (.slice Ao73 t348.length co73 : Value).ownBlock) v353 t352) ∧ (Kd.R k44 44 w' w.heap.size (fun k_ => (w.heap.size ≤ k_) ∧ some k_ ≠ (.slice Ao70 t341.length co70 : Value).ownBlock ∧ some k_ ≠ (.slice Ao66 t344.length co66 : Value).ownBlock) s_ t355) ∧ (Kd.V k35 35 w' w.heap.size (fun k_ => ((P0_ k_ ∨ P1_ k_) ∨ w.heap.size ≤ k_) ∧ some k_ ≠ (.slice Ao68 y329.length co68 : Value).ownBlock ∧ some k_ ≠ (.slice Ao63 t335.length co63 : Value).ownBlock ∧ some k_ ≠ (.slice Ao69 y338.length co69 : Value).ownBlock ∧ some k_ ≠ (.slice Ao70 t341.length co70 : Value).ownBlock ∧ some k_ ≠ (.slice Ao66 t344.length co66 : Value).ownBlock ∧ some k_ ≠ (.slice Ao73 t348.length co73 : Value).ownBlock ∧ some k_ ≠ (v353 : Value).ownBlock ∧ some k_ ≠ (s_ : Value).ownBlock) (.slice A0 l0.length c0) l0) ∧ (Kd.V k35 35 w' w.heap.size (fun k_ => ((P0_ k_ ∨ P1_ k_) ∨ w.heap.size ≤ k_) ∧ some k_ ≠ (.slice Ao68 y329.length co68 : Value).ownBlock ∧ some k_ ≠ (.slice Ao63 t335.length co63 : Value).ownBlock ∧ some k_ ≠ (.slice Ao69 y338.length co69 : Value).ownBlock ∧ some k_ ≠ (.slice Ao70 t341.length co70 : Value).ownBlock ∧ some k_ ≠ (.slice Ao66 t344.length co66 : Value).ownBlock ∧ some k_ ≠ (.slice Ao73 t348.length co73 : Value).ownBlock ∧ some k_ ≠ (v353 : Value).ownBlock ∧ some k_ ≠ (s_ : Value).ownBlock) (.slice A1 l1.length c1) l1) ∧ (Below w.heap.size w w')) ?_ ?_
          rotate_left
          ·intro hCont
           refine two_ (i := 7) (j := 9) (Ni := some 47) (Nj := some 49) #[true, true, true, true, true, true, true, true, true, false, false, false, false, false, false, false, false, false, false, false, false, false, false, false, false] #[true, true, true, true, true, true, true, false, true, true, false, false, false, false, false, false, false, false, false, false, false, false, false, false, false] rfl rfl rfl rfl (two_of HT_.out (by kernel_rfl)) (by decide) (by decide) (fun K hK => ?_) (fun K hK => ?_)
           ·skip
            have hcv75 := own_string (P := Tryd.prog) Tryd.underlying22 Tryd.underlying5 Tryd.underlying9 (Kd.own_of_R HO354.out)
            refine value_ (w1 := ?_) (v := ?_) (by rfl) rfl ?_ ?_
            rotate_left 2
            ·go_simp
             constructor
             ·rfl
             ·rfl
            clear hcv75
            refine hK.out _ _ trivial (fun hHeld => ?_)
            clear hK K
            refine norm_ (a' := ?_) ?_ ?_
            rotate_left
            ·show Act.put _ (some 47) _ = _
             simp only [Act.put, List.setIfInBounds_toArray, List.set_cons_zero, List.set_cons_succ, i64_w, i32_w]
             rfl
            refine one_ (i := 9) (N := some 49) #[true, true, true, true, true, true, true, true, true, true, false, false, false, false, false, false, false, false, false, false, false, false, false, false, false] rfl rfl (one_of HT_.out (by kernel_rfl)) (by decide) (fun K hK => ?_)
            refine goes_ Tryd.func25 (by kernel_rfl) rfl #[.slice Ao70 t341.length co70] (by rfl) rfl rfl aP ?_
            with_reducible refine (flongref17_Normal.calls kj3 _ _ t341 t355 _ ?side1 ?side2 A24.out).mono ?_
            (case side1 => repeat (first | exact (Kd.R_reads' HO343.out).2.2 | (with_reducible refine Kd.C_alloc ?_ _) | (with_reducible refine Kd.C_drewN ?_ _) | (with_reducible refine Kd.C_drew ?_)))
            (case side2 => exact (Kd.R_reads' HO343.out).2.1)
            rintro e w76 ⟨v356, rfl, ho0, hb⟩
            refine ⟨_, rfl, ?_⟩
            have n0_ := Aside0.mk (Kd.V_elder' (kV HO_0) (Kd.R_base ho0) hb)
            have n1_ := Aside0.mk (Kd.V_elder' (kV HO_1) (Kd.R_base ho0) hb)
            have n2_ := Aside0.mk (Kd.N_elder' (by (with_reducible repeat (first | apply Kd.N_alloc | apply Kd.N_drewN | apply Kd.N_drew)); exact HO331.out) (Kd.R_base ho0) hb)
            have n3_ := Aside0.mk (Kd.R_below (kR HO337) hb)
            have n4_ := Aside0.mk (Kd.R_below (kR HO340) hb)
            have n5_ := Aside0.mk (Kd.R_elder' (kR HO343) (Kd.R_base ho0) hb)
            have n6_ := Aside0.mk (Kd.R_elder' (kR HO346) (Kd.R_base ho0) hb)
            have n7_ := Aside0.mk (Kd.R_below (kR HO350) hb)
            have n8_ := Aside0.mk (Kd.R_below (kR HO354) hb)
            have n9_ := Aside0.mk (Kd.R_lower (Kd.R_new' (Kd.R_new' (Kd.R_newM (M := fun k_ => (w.heap.size ≤ k_)) ho0 (below_size bA) (fun k_ h_ => h_)) (Kd.R_lt (kR HO343))) (Kd.R_lt (kR HO346))) (below_size bA))
            have n10_ := Aside0.mk (below_step bA hb)
            clear HO_0
            clear HO_1
            clear HO331
            clear HO337
            clear HO340
            clear HO343
            clear HO346
            clear HO350
            clear HO354
            clear HB
            have HO_0 := n0_
            have HO_1 := n1_
            have HO331 := n2_
            have HO337 := n3_
            have HO340 := n4_
            have HO343 := n5_
            have HO346 := n6_
            have HO350 := n7_
            have HO354 := n8_
            have HO357 := n9_
            have HB := n10_
            clear n0_ n1_ n2_ n3_ n4_ n5_ n6_ n7_ n8_ n9_ n10_
            (try clear hb)
            (try clear hb2)
            (try clear hk)
            (try clear hi)
            (try clear ho0)
            obtain ⟨Ao77, co77, eo77⟩ := Kd.R_slice HO357.out
            (first | subst eo77 | (injection eo77 with f1_ f2_ f3_; have f4_ := f1_.symm; have f5_ := f3_.symm; clear f1_ f2_ f3_; subst f4_; subst f5_))
            refine hK.out _ _ trivial (fun hHeld => ?_)
            clear hK K
            refine norm_ (a' := ?_) ?_ ?_
            rotate_left
            ·show Act.put _ (some 49) _ = _
             simp only [Act.put, List.setIfInBounds_toArray, List.set_cons_zero, List.set_cons_succ, i64_w, i32_w]
             rfl
            refine one_ (i := 10) (N := some 50) #[true, true, true, true, true, true, true, true, true, true, true, false, false, false, false, false, false, false, false, false, false, false, false, false, false] rfl rfl (one_of HT_.out (by kernel_rfl)) (by decide) (fun K hK => ?_)
            refine goes_ Tryd.func24 (by kernel_rfl) rfl #[.slice Ao77 t355.length co77] (by rfl) rfl rfl aP ?_
            with_reducible refine (flongref03_Text.calls kj3 _ _ t355 t358 _ ?side1 ?side2 A25.out).mono ?_
            (case side1 => repeat (first | exact (Kd.R_reads' HO357.out).2.2 | (with_reducible refine Kd.C_alloc ?_ _) | (with_reducible refine Kd.C_drewN ?_ _) | (with_reducible refine Kd.C_drew ?_)))
            (case side2 => exact (Kd.R_reads' HO357.out).2.1)
            rintro e w78 ⟨rfl, hb⟩
            refine ⟨_, rfl, ?_⟩
            have n0_ := Aside0.mk (Kd.V_below (kV HO_0) hb)
            have n1_ := Aside0.mk (Kd.V_below (kV HO_1) hb)
            have n2_ := Aside0.mk (Kd.N_below (by (with_reducible repeat (first | apply Kd.N_alloc | apply Kd.N_drewN | apply Kd.N_drew)); exact HO331.out) hb)
            have n3_ := Aside0.mk (Kd.R_below (kR HO337) hb)
            have n4_ := Aside0.mk (Kd.R_below (kR HO340) hb)
            have n5_ := Aside0.mk (Kd.R_below (kR HO343) hb)
            have n6_ := Aside0.mk (Kd.R_below (kR HO346) hb)
            have n7_ := Aside0.mk (Kd.R_below (kR HO350) hb)
            have n8_ := Aside0.mk (Kd.R_below (kR HO354) hb)
            have n9_ := Aside0.mk (Kd.R_below (kR HO357) hb)
            have n10_ := Aside0.mk (below_step bA hb)
            clear HO_0
            clear HO_1
            clear HO331
            clear HO337
            clear HO340
            clear HO343
            clear HO346
            clear HO350
            clear HO354
            clear HO357
            clear HB
            have HO_0 := n0_
            have HO_1 := n1_
            have HO331 := n2_
            have HO337 := n3_
            have HO340 := n4_
            have HO343 := n5_
            have HO346 := n6_
            have HO350 := n7_
            have HO354 := n8_
            have HO357 := n9_
            have HB := n10_
            clear n0_ n1_ n2_ n3_ n4_ n5_ n6_ n7_ n8_ n9_ n10_
            (try clear hb)
            (try clear hb2)
            (try clear hk)
            (try clear hi)
            refine hK.out _ _ trivial (fun hHeld => ?_)
            clear hK K
            refine norm_ (a' := ?_) ?_ ?_
            rotate_left
            ·show Act.put _ (some 50) _ = _
             simp only [Act.put, List.setIfInBounds_toArray, List.set_cons_zero, List.set_cons_succ, i64_w, i32_w]
             rfl
            exact norm_ (by simp only [putAll, Act.put, List.setIfInBounds_toArray, List.set_cons_zero, List.set_cons_succ]) (hCont (.slice Ao77 t355.length co77) _ ⟨(by (with_reducible repeat (first | apply Kd.N_alloc | apply Kd.N_drewN | apply Kd.N_drew)); exact Kd.N_mono HO331.out (fun _ hk => ⟨hk.1.1.1.1.1.1.1, ⟨hk.1.1.1.1.1.1.2, ⟨hk.1.1.1.1.1.2, ⟨hk.1.1.1.1.2, ⟨hk.1.1.1.2, ⟨hk.1.1.2, ⟨hk.1.2, hk.2⟩⟩⟩⟩⟩⟩⟩)), (by (with_reducible repeat (first | apply Kd.R_alloc | apply Kd.R_drewN | apply Kd.R_drew)); exact Kd.R_mono HO337.out (fun _ hk => ⟨hk.1.1.1, ⟨hk.1.1.2, ⟨hk.1.2, hk.2⟩⟩⟩)), (by (with_reducible repeat (first | apply Kd.R_alloc | apply Kd.R_drewN | apply Kd.R_drew)); exact Kd.R_mono HO340.out (fun _ hk => ⟨hk.1.1.1, ⟨hk.1.1.2, ⟨hk.1.2, hk.2⟩⟩⟩)), (by (with_reducible repeat (first | apply Kd.R_alloc | apply Kd.R_drewN | apply Kd.R_drew)); exact Kd.R_mono HO343.out (fun _ hk => ⟨hk.1.1.1, ⟨hk.1.2, hk.2⟩⟩)), (by (with_reducible repeat (first | apply Kd.R_alloc | apply Kd.R_drewN | apply Kd.R_drew)); exact Kd.R_mono HO346.out (fun _ hk => ⟨hk.1.1.1, ⟨hk.1.2, hk.2⟩⟩)), (by (with_reducible repeat (first | apply Kd.R_alloc | apply Kd.R_drewN | apply Kd.R_drew)); exact Kd.R_mono HO350.out (fun _ hk => ⟨hk.1.1.1.1, ⟨hk.1.1.2, ⟨hk.1.2, hk.2⟩⟩⟩)), (by (with_reducible repeat (first | apply Kd.R_alloc | apply Kd.R_drewN | apply Kd.R_drew)); exact Kd.R_mono HO354.out (fun _ hk => ⟨hk.1.1.1.1, ⟨hk.1.1.2, ⟨hk.1.2, hk.2⟩⟩⟩)), (by (with_reducible repeat (first | apply Kd.R_alloc | apply Kd.R_drewN | apply Kd.R_drew)); exact Kd.R_mono HO357.out (fun _ hk => ⟨hk.1.1.1, ⟨hk.1.2, hk.2⟩⟩)), (by (with_reducible repeat (first | apply Kd.V_alloc | apply Kd.V_drewN | apply Kd.V_drew)); exact Kd.V_mono HO_0.out (fun _ hk => ⟨hk.1.1.1.1.1.1.1, ⟨hk.1.1.1.1.1.1.2.1, ⟨hk.1.1.1.1.1.1.2.2, ⟨hk.1.1.1.1.1.2, ⟨hk.1.1.1.1.2, ⟨hk.1.1.1.2, ⟨hk.1.1.2, ⟨hk.1.2, hk.2⟩⟩⟩⟩⟩⟩⟩⟩)), (by (with_reducible repeat (first | apply Kd.V_alloc | apply Kd.V_drewN | apply Kd.V_drew)); exact Kd.V_mono HO_1.out (fun _ hk => ⟨hk.1.1.1.1.1.1.1, ⟨hk.1.1.1.1.1.1.2.1, ⟨hk.1.1.1.1.1.1.2.2, ⟨hk.1.1.1.1.1.2, ⟨hk.1.1.1.1.2, ⟨hk.1.1.1.2, ⟨hk.1.1.2, ⟨hk.1.2, hk.2⟩⟩⟩⟩⟩⟩⟩⟩)), bA⟩)
           ·skip
            refine goes_ Tryd.func25 (by kernel_rfl) rfl #[.slice Ao70 t341.length co70] (by rfl) rfl rfl aP ?_
            with_reducible refine (flongref17_Normal.calls kj3 _ _ t341 t355 _ ?side1 ?side2 A24.out).mono ?_
            (case side1 => repeat (first | exact (Kd.R_reads' HO343.out).2.2 | (with_reducible refine Kd.C_alloc ?_ _) | (with_reducible refine Kd.C_drewN ?_ _) | (with_reducible refine Kd.C_drew ?_)))
            (case side2 => exact (Kd.R_reads' HO343.out).2.1)
            rintro e w75 ⟨v356, rfl, ho0, hb⟩
            refine ⟨_, rfl, ?_⟩
            have n0_ := Aside0.mk (Kd.V_elder' (kV HO_0) (Kd.R_base ho0) hb)
            have n1_ := Aside0.mk (Kd.V_elder' (kV HO_1) (Kd.R_base ho0) hb)
            have n2_ := Aside0.mk (Kd.N_elder' (by (with_reducible repeat (first | apply Kd.N_alloc | apply Kd.N_drewN | apply Kd.N_drew)); exact HO331.out) (Kd.R_base ho0) hb)
            have n3_ := Aside0.mk (Kd.R_below (kR HO337) hb)
            have n4_ := Aside0.mk (Kd.R_below (kR HO340) hb)
            have n5_ := Aside0.mk (Kd.R_elder' (kR HO343) (Kd.R_base ho0) hb)
            have n6_ := Aside0.mk (Kd.R_elder' (kR HO346) (Kd.R_base ho0) hb)
            have n7_ := Aside0.mk (Kd.R_below (kR HO350) hb)
            have n8_ := Aside0.mk (Kd.R_below (kR HO354) hb)
            have n9_ := Aside0.mk (Kd.R_lower (Kd.R_new' (Kd.R_new' (Kd.R_newM (M := fun k_ => (w.heap.size ≤ k_)) ho0 (below_size bA) (fun k_ h_ => h_)) (Kd.R_lt (kR HO343))) (Kd.R_lt (kR HO346))) (below_size bA))
            have n10_ := Aside0.mk (below_step bA hb)
            clear HO_0
            clear HO_1
            clear HO331
            clear HO337
            clear HO340
            clear HO343
            clear HO346
            clear HO350
            clear HO354
            clear HB
            have HO_0 := n0_
            have HO_1 := n1_
            have HO331 := n2_
            have HO337 := n3_
            have HO340 := n4_
            have HO343 := n5_
            have HO346 := n6_
            have HO350 := n7_
            have HO354 := n8_
            have HO357 := n9_
            have HB := n10_
            clear n0_ n1_ n2_ n3_ n4_ n5_ n6_ n7_ n8_ n9_ n10_
            (try clear hb)
            (try clear hb2)
            (try clear hk)
            (try clear hi)
            (try clear ho0)
            obtain ⟨Ao77, co77, eo77⟩ := Kd.R_slice HO357.out
            (first | subst eo77 | (injection eo77 with f1_ f2_ f3_; have f4_ := f1_.symm; have f5_ := f3_.symm; clear f1_ f2_ f3_; subst f4_; subst f5_))
            refine hK.out _ _ trivial (fun hHeld => ?_)
            clear hK K
            refine norm_ (a' := ?_) ?_ ?_
            rotate_left
            ·show Act.put _ (some 49) _ = _
             simp only [Act.put, List.setIfInBounds_toArray, List.set_cons_zero, List.set_cons_succ, i64_w, i32_w]
             rfl
            refine two_ (i := 7) (j := 10) (Ni := some 47) (Nj := some 50) #[true, true, true, true, true, true, true, true, true, true, false, false, false, false, false, false, false, false, false, false, false, false, false, false, false] #[true, true, true, true, true, true, true, false, true, true, true, false, false, false, false, false, false, false, false, false, false, false, false, false, false] rfl rfl rfl rfl (two_of HT_.out (by kernel_rfl)) (by decide) (by decide) (fun K hK => ?_) (fun K hK => ?_)
            ·skip
             have hcv76 := own_string (P := Tryd.prog) Tryd.underlying22 Tryd.underlying5 Tryd.underlying9 (Kd.own_of_R HO354.out)
             refine value_ (w1 := ?_) (v := ?_) (by rfl) rfl ?_ ?_
             rotate_left 2
             ·go_simp
              constructor
              ·rfl
              ·rfl
             clear hcv76
             refine hK.out _ _ trivial (fun hHeld => ?_)
             clear hK K
             refine norm_ (a' := ?_) ?_ ?_
             rotate_left
             ·show Act.put _ (some 47) _ = _
              simp only [Act.put, List.setIfInBounds_toArray, List.set_cons_zero, List.set_cons_succ, i64_w, i32_w]
              rfl
             refine one_ (i := 10) (N := some 50) #[true, true, true, true, true, true, true, true, true, true, true, false, false, false, false, false, false, false, false, false, false, false, false, false, false] rfl rfl (one_of HT_.out (by kernel_rfl)) (by decide) (fun K hK => ?_)
             refine goes_ Tryd.func24 (by kernel_rfl) rfl #[.slice Ao77 t355.length co77] (by rfl) rfl rfl aP ?_
             with_reducible refine (flongref03_Text.calls kj3 _ _ t355 t358 _ ?side1 ?side2 A25.out).mono ?_
             (case side1 => repeat (first | exact (Kd.R_reads' HO357.out).2.2 | (with_reducible refine Kd.C_alloc ?_ _) | (with_reducible refine Kd.C_drewN ?_ _) | (with_reducible refine Kd.C_drew ?_)))
             (case side2 => exact (Kd.R_reads' HO357.out).2.1)
             rintro e w78 ⟨rfl, hb⟩
             refine ⟨_, rfl, ?_⟩
             have n0_ := Aside0.mk (Kd.V_below (kV HO_0) hb)
             have n1_ := Aside0.mk (Kd.V_below (kV HO_1) hb)
             have n2_ := Aside0.mk (Kd.N_below (by (with_reducible repeat (first | apply Kd.N_alloc | apply Kd.N_drewN | apply Kd.N_drew)); exact HO331.out) hb)
             have n3_ := Aside0.mk (Kd.R_below (kR HO337) hb)
             have n4_ := Aside0.mk (Kd.R_below (kR HO340) hb)
             have n5_ := Aside0.mk (Kd.R_below (kR HO343) hb)
             have n6_ := Aside0.mk (Kd.R_below (kR HO346) hb)
             have n7_ := Aside0.mk (Kd.R_below (kR HO350) hb)
             have n8_ := Aside0.mk (Kd.R_below (kR HO354) hb)
             have n9_ := Aside0.mk (Kd.R_below (kR HO357) hb)
             have n10_ := Aside0.mk (below_step bA hb)
             clear HO_0
             clear HO_1
             clear HO331
             clear HO337
             clear HO340
             clear HO343
             clear HO346
             clear HO350
             clear HO354
             clear HO357
             clear HB
             have HO_0 := n0_
             have HO_1 := n1_
             have HO331 := n2_
             have HO337 := n3_
             have HO340 := n4_
             have HO343 := n5_
             have HO346 := n6_
             have HO350 := n7_
             have HO354 := n8_
             have HO357 := n9_
             have HB := n10_
             clear n0_ n1_ n2_ n3_ n4_ n5_ n6_ n7_ n8_ n9_ n10_
             (try clear hb)
             (try clear hb2)
             (try clear hk)
             (try clear hi)
             refine hK.out _ _ trivial (fun hHeld => ?_)
             clear hK K
             refine norm_ (a' := ?_) ?_ ?_
             rotate_left
             ·show Act.put _ (some 50) _ = _
              simp only [Act.put, List.setIfInBounds_toArray, List.set_cons_zero, List.set_cons_succ, i64_w, i32_w]
              rfl
             exact norm_ (by simp only [putAll, Act.put, List.setIfInBounds_toArray, List.set_cons_zero, List.set_cons_succ]) (hCont (.slice Ao77 t355.length co77) _ ⟨(by (with_reducible repeat (first | apply Kd.N_alloc | apply Kd.N_drewN | apply Kd.N_drew)); exact Kd.N_mono HO331.out (fun _ hk => ⟨hk.1.1.1.1.1.1.1, ⟨hk.1.1.1.1.1.1.2, ⟨hk.1.1.1.1.1.2, ⟨hk.1.1.1.1.2, ⟨hk.1.1.1.2, ⟨hk.1.1.2, ⟨hk.1.2, hk.2⟩⟩⟩⟩⟩⟩⟩)), (by (with_reducible repeat (first | apply Kd.R_alloc | apply Kd.R_drewN | apply Kd.R_drew)); exact Kd.R_mono HO337.out (fun _ hk => ⟨hk.1.1.1, ⟨hk.1.1.2, ⟨hk.1.2, hk.2⟩⟩⟩)), (by (with_reducible repeat (first | apply Kd.R_alloc | apply Kd.R_drewN | apply Kd.R_drew)); exact Kd.R_mono HO340.out (fun _ hk => ⟨hk.1.1.1, ⟨hk.1.1.2, ⟨hk.1.2, hk.2⟩⟩⟩)), (by (with_reducible repeat (first | apply Kd.R_alloc | apply Kd.R_drewN | apply Kd.R_drew)); exact Kd.R_mono HO343.out (fun _ hk => ⟨hk.1.1.1, ⟨hk.1.2, hk.2⟩⟩)), (by (with_reducible repeat (first | apply Kd.R_alloc | apply Kd.R_drewN | apply Kd.R_drew)); exact Kd.R_mono HO346.out (fun _ hk => ⟨hk.1.1.1, ⟨hk.1.2, hk.2⟩⟩)), (by (with_reducible repeat (first | apply Kd.R_alloc | apply Kd.R_drewN | apply Kd.R_drew)); exact Kd.R_mono HO350.out (fun _ hk => ⟨hk.1.1.1.1, ⟨hk.1.1.2, ⟨hk.1.2, hk.2⟩⟩⟩)), (by (with_reducible repeat (first | apply Kd.R_alloc | apply Kd.R_drewN | apply Kd.R_drew)); exact Kd.R_mono HO354.out (fun _ hk => ⟨hk.1.1.1.1, ⟨hk.1.1.2, ⟨hk.1.2, hk.2⟩⟩⟩)), (by (with_reducible repeat (first | apply Kd.R_alloc | apply Kd.R_drewN | apply Kd.R_drew)); exact Kd.R_mono HO357.out (fun _ hk => ⟨hk.1.1.1, ⟨hk.1.2, hk.2⟩⟩)), (by (with_reducible repeat (first | apply Kd.V_alloc | apply Kd.V_drewN | apply Kd.V_drew)); exact Kd.V_mono HO_0.out (fun _ hk => ⟨hk.1.1.1.1.1.1.1, ⟨hk.1.1.1.1.1.1.2.1, ⟨hk.1.1.1.1.1.1.2.2, ⟨hk.1.1.1.1.1.2, ⟨hk.1.1.1.1.2, ⟨hk.1.1.1.2, ⟨hk.1.1.2, ⟨hk.1.2, hk.2⟩⟩⟩⟩⟩⟩⟩⟩)), (by (with_reducible repeat (first | apply Kd.V_alloc | apply Kd.V_drewN | apply Kd.V_drew)); exact Kd.V_mono HO_1.out (fun _ hk => ⟨hk.1.1.1.1.1.1.1, ⟨hk.1.1.1.1.1.1.2.1, ⟨hk.1.1.1.1.1.1.2.2, ⟨hk.1.1.1.1.1.2, ⟨hk.1.1.1.1.2, ⟨hk.1.1.1.2, ⟨hk.1.1.2, ⟨hk.1.2, hk.2⟩⟩⟩⟩⟩⟩⟩⟩)), bA⟩)
            ·skip
             refine goes_ Tryd.func24 (by kernel_rfl) rfl #[.slice Ao77 t355.length co77] (by rfl) rfl rfl aP ?_
             with_reducible refine (flongref03_Text.calls kj3 _ _ t355 t358 _ ?side1 ?side2 A25.out).mono ?_
             (case side1 => repeat (first | exact (Kd.R_reads' HO357.out).2.2 | (with_reducible refine Kd.C_alloc ?_ _) | (with_reducible refine Kd.C_drewN ?_ _) | (with_reducible refine Kd.C_drew ?_)))
             (case side2 => exact (Kd.R_reads' HO357.out).2.1)
             rintro e w77 ⟨rfl, hb⟩
             refine ⟨_, rfl, ?_⟩
             have n0_ := Aside0.mk (Kd.V_below (kV HO_0) hb)
             have n1_ := Aside0.mk (Kd.V_below (kV HO_1) hb)
             have n2_ := Aside0.mk (Kd.N_below (by (with_reducible repeat (first | apply Kd.N_alloc | apply Kd.N_drewN | apply Kd.N_drew)); exact HO331.out) hb)
             have n3_ := Aside0.mk (Kd.R_below (kR HO337) hb)
             have n4_ := Aside0.mk (Kd.R_below (kR HO340) hb)
             have n5_ := Aside0.mk (Kd.R_below (kR HO343) hb)
             have n6_ := Aside0.mk (Kd.R_below (kR HO346) hb)
             have n7_ := Aside0.mk (Kd.R_below (kR HO350) hb)
             have n8_ := Aside0.mk (Kd.R_below (kR HO354) hb)
             have n9_ := Aside0.mk (Kd.R_below (kR HO357) hb)
             have n10_ := Aside0.mk (below_step bA hb)
             clear HO_0
             clear HO_1
             clear HO331
             clear HO337
             clear HO340
             clear HO343
             clear HO346
             clear HO350
             clear HO354
             clear HO357
             clear HB
             have HO_0 := n0_
             have HO_1 := n1_
             have HO331 := n2_
             have HO337 := n3_
             have HO340 := n4_
             have HO343 := n5_
             have HO346 := n6_
             have HO350 := n7_
             have HO354 := n8_
             have HO357 := n9_
             have HB := n10_
             clear n0_ n1_ n2_ n3_ n4_ n5_ n6_ n7_ n8_ n9_ n10_
             (try clear hb)
             (try clear hb2)
             (try clear hk)
             (try clear hi)
             refine hK.out _ _ trivial (fun hHeld => ?_)
             clear hK K
             refine norm_ (a' := ?_) ?_ ?_
             rotate_left
             ·show Act.put _ (some 50) _ = _
              simp only [Act.put, List.setIfInBounds_toArray, List.set_cons_zero, List.set_cons_succ, i64_w, i32_w]
              rfl
             refine one_ (i := 7) (N := some 47) #[true, true, true, true, true, true, true, true, true, true, true, false, false, false, false, false, false, false, false, false, false, false, false, false, false] rfl rfl (one_of HT_.out (by kernel_rfl)) (by decide) (fun K hK => ?_)
             have hcv78 := own_string (P := Tryd.prog) Tryd.underlying22 Tryd.underlying5 Tryd.underlying9 (Kd.own_of_R HO354.out)
             refine value_ (w1 := ?_) (v := ?_) (by rfl) rfl ?_ ?_
             rotate_left 2
             ·go_simp
              constructor
              ·rfl
              ·rfl
             clear hcv78
             refine hK.out _ _ trivial (fun hHeld => ?_)
             clear hK K
             refine norm_ (a' := ?_) ?_ ?_
             rotate_left
             ·show Act.put _ (some 47) _ = _
              simp only [Act.put, List.setIfInBounds_toArray, List.set_cons_zero, List.set_cons_succ, i64_w, i32_w]
              rfl
             exact norm_ (by simp only [putAll, Act.put, List.setIfInBounds_toArray, List.set_cons_zero, List.set_cons_succ]) (hCont (.slice Ao77 t355.length co77) _ ⟨(by (with_reducible repeat (first | apply Kd.N_alloc | apply Kd.N_drewN | apply Kd.N_drew)); exact Kd.N_mono HO331.out (fun _ hk => ⟨hk.1.1.1.1.1.1.1, ⟨hk.1.1.1.1.1.1.2, ⟨hk.1.1.1.1.1.2, ⟨hk.1.1.1.1.2, ⟨hk.1.1.1.2, ⟨hk.1.1.2, ⟨hk.1.2, hk.2⟩⟩⟩⟩⟩⟩⟩)), (by (with_reducible repeat (first | apply Kd.R_alloc | apply Kd.R_drewN | apply Kd.R_drew)); exact Kd.R_mono HO337.out (fun _ hk => ⟨hk.1.1.1, ⟨hk.1.1.2, ⟨hk.1.2, hk.2⟩⟩⟩)), (by (with_reducible repeat (first | apply Kd.R_alloc | apply Kd.R_drewN | apply Kd.R_drew)); exact Kd.R_mono HO340.out (fun _ hk => ⟨hk.1.1.1, ⟨hk.1.1.2, ⟨hk.1.2, hk.2⟩⟩⟩)), (by (with_reducible repeat (first | apply Kd.R_alloc | apply Kd.R_drewN | apply Kd.R_drew)); exact Kd.R_mono HO343.out (fun _ hk => ⟨hk.1.1.1, ⟨hk.1.2, hk.2⟩⟩)), (by (with_reducible repeat (first | apply Kd.R_alloc | apply Kd.R_drewN | apply Kd.R_drew)); exact Kd.R_mono HO346.out (fun _ hk => ⟨hk.1.1.1, ⟨hk.1.2, hk.2⟩⟩)), (by (with_reducible repeat (first | apply Kd.R_alloc | apply Kd.R_drewN | apply Kd.R_drew)); exact Kd.R_mono HO350.out (fun _ hk => ⟨hk.1.1.1.1, ⟨hk.1.1.2, ⟨hk.1.2, hk.2⟩⟩⟩)), (by (with_reducible repeat (first | apply Kd.R_alloc | apply Kd.R_drewN | apply Kd.R_drew)); exact Kd.R_mono HO354.out (fun _ hk => ⟨hk.1.1.1.1, ⟨hk.1.1.2, ⟨hk.1.2, hk.2⟩⟩⟩)), (by (with_reducible repeat (first | apply Kd.R_alloc | apply Kd.R_drewN | apply Kd.R_drew)); exact Kd.R_mono HO357.out (fun _ hk => ⟨hk.1.1.1, ⟨hk.1.2, hk.2⟩⟩)), (by (with_reducible repeat (first | apply Kd.V_alloc | apply Kd.V_drewN | apply Kd.V_drew)); exact Kd.V_mono HO_0.out (fun _ hk => ⟨hk.1.1.1.1.1.1.1, ⟨hk.1.1.1.1.1.1.2.1, ⟨hk.1.1.1.1.1.1.2.2, ⟨hk.1.1.1.1.1.2, ⟨hk.1.1.1.1.2, ⟨hk.1.1.1.2, ⟨hk.1.1.2, ⟨hk.1.2, hk.2⟩⟩⟩⟩⟩⟩⟩⟩)), (by (with_reducible repeat (first | apply Kd.V_alloc | apply Kd.V_drewN | apply Kd.V_drew)); exact Kd.V_mono HO_1.out (fun _ hk => ⟨hk.1.1.1.1.1.1.1, ⟨hk.1.1.1.1.1.1.2.1, ⟨hk.1.1.1.1.1.1.2.2, ⟨hk.1.1.1.1.1.2, ⟨hk.1.1.1.1.2, ⟨hk.1.1.1.2, ⟨hk.1.1.2, ⟨hk.1.2, hk.2⟩⟩⟩⟩⟩⟩⟩⟩)), bA⟩)
          rintro v356 w79 ⟨h0_, h1_, h2_, h3_, h4_, h5_, h6_, h7_, h8_, h9_, h10_⟩
          have n0_ : Aside0 (Kd.N k35 35 w79 w.heap.size (fun k_ => ((P0_ k_ ∨ P1_ k_) ∨ w.heap.size ≤ k_) ∧ some k_ ≠ (.slice Ao63 t335.length co63 : Value).ownBlock ∧ some k_ ≠ (.slice Ao69 y338.length co69 : Value).ownBlock ∧ some k_ ≠ (.slice Ao70 t341.length co70 : Value).ownBlock ∧ some k_ ≠ (.slice Ao66 t344.length co66 : Value).ownBlock ∧ some k_ ≠ (.slice Ao73 t348.length co73 : Value).ownBlock ∧ some k_ ≠ (v353 : Value).ownBlock ∧ some k_ ≠ (v356 : Value).ownBlock) (.slice Ao68 y329.length co68) y329) := ⟨h0_⟩
          have n1_ : Aside0 (Kd.R (Kd.int .u8) 5 w79 w.heap.size (fun k_ => (w.heap.size ≤ k_) ∧ some k_ ≠ (.slice Ao69 y338.length co69 : Value).ownBlock ∧ some k_ ≠ (.slice Ao73 t348.length co73 : Value).ownBlock ∧ some k_ ≠ (v353 : Value).ownBlock) (.slice Ao63 t335.length co63) t335) := ⟨h1_⟩
          have n2_ : Aside0 (Kd.R (Kd.int .u8) 5 w79 w.heap.size (fun k_ => (w.heap.size ≤ k_) ∧ some k_ ≠ (.slice Ao63 t335.length co63 : Value).ownBlock ∧ some k_ ≠ (.slice Ao73 t348.length co73 : Value).ownBlock ∧ some k_ ≠ (v353 : Value).ownBlock) (.slice Ao69 y338.length co69) y338) := ⟨h2_⟩
          have n3_ : Aside0 (Kd.R k44 44 w79 w.heap.size (fun k_ => (w.heap.size ≤ k_) ∧ some k_ ≠ (.slice Ao66 t344.length co66 : Value).ownBlock ∧ some k_ ≠ (v356 : Value).ownBlock) (.slice Ao70 t341.length co70) t341) := ⟨h3_⟩
          have n4_ : Aside0 (Kd.R k44 44 w79 w.heap.size (fun k_ => (w.heap.size ≤ k_) ∧ some k_ ≠ (.slice Ao70 t341.length co70 : Value).ownBlock ∧ some k_ ≠ (v356 : Value).ownBlock) (.slice Ao66 t344.length co66) t344) := ⟨h4_⟩
          have n5_ : Aside0 (Kd.R (Kd.int .u8) 5 w79 w.heap.size (fun k_ => (w.heap.size ≤ k_) ∧ some k_ ≠ (.slice Ao63 t335.length co63 : Value).ownBlock ∧ some k_ ≠ (.slice Ao69 y338.length co69 : Value).ownBlock ∧ some k_ ≠ (v353 : Value).ownBlock) (.slice Ao73 t348.length co73) t348) := ⟨h5_⟩
          have n6_ : Aside0 (Kd.R (Kd.int .u8) 5 w79 w.heap.size (fun k_ => (w.heap.size ≤ k_) ∧ some k_ ≠ (.slice Ao63 t335.length co63 : Value).ownBlock ∧ some k_ ≠ (.slice Ao69 y338.length co69 : Value).ownBlock ∧ some k_ ≠ (.slice Ao73 t348.length co73 : Value).ownBlock) v353 t352) := ⟨h6_⟩
          have n7_ : Aside0 (Kd.R k44 44 w79 w.heap.size (fun k_ => (w.heap.size ≤ k_) ∧ some k_ ≠ (.slice Ao70 t341.length co70 : Value).ownBlock ∧ some k_ ≠ (.slice Ao66 t344.length co66 : Value).ownBlock) v356 t355) := ⟨h7_⟩
          have n8_ : Aside0 (Kd.V k35 35 w79 w.heap.size (fun k_ => ((P0_ k_ ∨ P1_ k_) ∨ w.heap.size ≤ k_) ∧ some k_ ≠ (.slice Ao68 y329.length co68 : Value).ownBlock ∧ some k_ ≠ (.slice Ao63 t335.length co63 : Value).ownBlock ∧ some k_ ≠ (.slice Ao69 y338.length co69 : Value).ownBlock ∧ some k_ ≠ (.slice Ao70 t341.length co70 : Value).ownBlock ∧ some k_ ≠ (.slice Ao66 t344.length co66 : Value).ownBlock ∧ some k_ ≠ (.slice Ao73 t348.length co73 : Value).ownBlock ∧ some k_ ≠ (v353 : Value).ownBlock ∧ some k_ ≠ (v356 : Value).ownBlock) (.slice A0 l0.length c0) l0) := ⟨h8_⟩
          have n9_ : Aside0 (Kd.V k35 35 w79 w.heap.size (fun k_ => ((P0_ k_ ∨ P1_ k_) ∨ w.heap.size ≤ k_) ∧ some k_ ≠ (.slice Ao68 y329.length co68 : Value).ownBlock ∧ some k_ ≠ (.slice Ao63 t335.length co63 : Value).ownBlock ∧ some k_ ≠ (.slice Ao69 y338.length co69 : Value).ownBlock ∧ some k_ ≠ (.slice Ao70 t341.length co70 : Value).ownBlock ∧ some k_ ≠ (.slice Ao66 t344.length co66 : Value).ownBlock ∧ some k_ ≠ (.slice Ao73 t348.length co73 : Value).ownBlock ∧ some k_ ≠ (v353 : Value).ownBlock ∧ some k_ ≠ (v356 : Value).ownBlock) (.slice A1 l1.length c1) l1) := ⟨h9_⟩
          have n10_ : Aside0 (Below w.heap.size w w79) := ⟨h10_⟩
          clear HO_0
          clear HO_1
          clear HO331
          clear HO337
          clear HO340
          clear HO343
          clear HO346
          clear HB
          clear h0_ h1_ h2_ h3_ h4_ h5_ h6_ h7_ h8_ h9_ h10_
          have HO331 := n0_
          have HO337 := n1_
          have HO340 := n2_
          have HO343 := n3_
          have HO346 := n4_
          have HO350 := n5_
          have HO354 := n6_
          have HO357 := n7_
          have HO_0 := n8_
          have HO_1 := n9_
          have HB := n10_
          clear n0_ n1_ n2_ n3_ n4_ n5_ n6_ n7_ n8_ n9_ n10_
          have hHeld := trivial
          refine norm_ (a' := ?_) ?_ ?_
          rotate_left
          ·simp only [putAll, Act.put, List.setIfInBounds_toArray, List.set_cons_zero, List.set_cons_succ]
           rfl
          refine pure_ (i := 11) (N := some 51) (v := ?_) (a' := ?_) #[true, true, true, true, true, true, true, true, true, true, true, true, false, false, false, false, false, false, false, false, false, false, false, false, false] rfl rfl (any_of HT_.out (by kernel_rfl)) (fun _ _ _ h => h) (Or.inl ⟨by rfl, ?_⟩) ?_ ?_
          rotate_left
          ·intro w'
           go_simp
           with_reducible rfl
          rotate_left
          ·simp only [Act.put, List.setIfInBounds_toArray, List.set_cons_zero, List.set_cons_succ, i64_w, i32_w]
           rfl
          refine pure_ (i := 12) (N := some 52) (v := ?_) (a' := ?_) #[true, true, true, true, true, true, true, true, true, true, true, true, true, false, false, false, false, false, false, false, false, false, false, false, false] rfl rfl (any_of HT_.out (by kernel_rfl)) (fun _ _ _ h => h) (Or.inl ⟨by rfl, ?_⟩) ?_ ?_
          rotate_left
          ·intro w'
           go_simp
           with_reducible rfl
          rotate_left
          ·simp only [Act.put, List.setIfInBounds_toArray, List.set_cons_zero, List.set_cons_succ, i64_w, i32_w]
           rfl
          refine pure_ (i := 13) (N := some 53) (v := ?_) (a' := ?_) #[true, true, true, true, true, true, true, true, true, true, true, true, true, true, false, false, false, false, false, false, false, false, false, false, false] rfl rfl (any_of HT_.out (by kernel_rfl)) (fun _ _ _ h => h) (Or.inl ⟨by rfl, ?_⟩) ?_ ?_
          rotate_left
          ·intro w'
           go_simp
           with_reducible rfl
          rotate_left
          ·simp only [Act.put, List.setIfInBounds_toArray, List.set_cons_zero, List.set_cons_succ, i64_w, i32_w]
           rfl
          refine pure_ (i := 14) (N := some 54) (v := ?_) (a' := ?_) #[true, true, true, true, true, true, true, true, true, true, true, true, true, true, true, false, false, false, false, false, false, false, false, false, false] rfl rfl (any_of HT_.out (by kernel_rfl)) (fun _ _ _ h => h) (Or.inl ⟨by rfl, ?_⟩) ?_ ?_
          rotate_left
          ·intro w'
           go_simp
           with_reducible rfl
          rotate_left
          ·simp only [Act.put, List.setIfInBounds_toArray, List.set_cons_zero, List.set_cons_succ, i64_w, i32_w]
           rfl
          refine pure_ (i := 18) (N := some 58) (v := ?_) (a' := ?_) #[true, true, true, true, true, true, true, true, true, true, true, true, true, true, true, false, false, false, true, false, false, false, false, false, false] rfl rfl (any_of HT_.out (by kernel_rfl)) (fun _ _ _ h => h) (Or.inl ⟨by rfl, ?_⟩) ?_ ?_
          rotate_left
          ·intro w'
           go_simp
           with_reducible rfl
          rotate_left
          ·simp only [Act.put, List.setIfInBounds_toArray, List.set_cons_zero, List.set_cons_succ, i64_w, i32_w]
           rfl
          refine one_ (i := 15) (N := some 55) #[true, true, true, true, true, true, true, true, true, true, true, true, true, true, true, true, false, false, true, false, false, false, false, false, false] rfl rfl (one_of HT_.out (by kernel_rfl)) (by decide) (fun K hK => ?_)
          refine goes_ Tryd.func16 (by kernel_rfl) rfl #[.slice A2 l2.length c2] (by rfl) rfl rfl aP ?_
          with_reducible refine (ansi_Row.calls kj3 _ _ l2 t359 _ ?side1 ?side2 ?side3 A27.out).mono ?_
          (case side1 => repeat (first | exact (Kd.C_below HR2.out HB.out) | (with_reducible refine Kd.C_alloc ?_ _) | (with_reducible refine Kd.C_drewN ?_ _) | (with_reducible refine Kd.C_drew ?_)))
          (case side2 => exact HC2.out)
          (case side3 => exact GOK.of_below (GOK.sub HG.out rfl) bA)
          rintro e w80 ⟨v360, rfl, ho0, hb⟩
          refine ⟨_, rfl, ?_⟩
          have n0_ := Aside0.mk (Kd.V_elder' (kV HO_0) (Kd.R_base ho0) hb)
          have n1_ := Aside0.mk (Kd.V_elder' (kV HO_1) (Kd.R_base ho0) hb)
          have n2_ := Aside0.mk (Kd.N_elder' (by (with_reducible repeat (first | apply Kd.N_alloc | apply Kd.N_drewN | apply Kd.N_drew)); exact HO331.out) (Kd.R_base ho0) hb)
          have n3_ := Aside0.mk (Kd.R_elder' (kR HO337) (Kd.R_base ho0) hb)
          have n4_ := Aside0.mk (Kd.R_elder' (kR HO340) (Kd.R_base ho0) hb)
          have n5_ := Aside0.mk (Kd.R_below (kR HO343) hb)
          have n6_ := Aside0.mk (Kd.R_below (kR HO346) hb)
          have n7_ := Aside0.mk (Kd.R_elder' (kR HO350) (Kd.R_base ho0) hb)
          have n8_ := Aside0.mk (Kd.R_elder' (kR HO354) (Kd.R_base ho0) hb)
          have n9_ := Aside0.mk (Kd.R_below (kR HO357) hb)
          have n10_ := Aside0.mk (Kd.R_lower (Kd.R_new' (Kd.R_new' (Kd.R_new' (Kd.R_new' (Kd.R_newM (M := fun k_ => (w.heap.size ≤ k_)) ho0 (below_size bA) (fun k_ h_ => h_)) (Kd.R_lt (kR HO337))) (Kd.R_lt (kR HO340))) (Kd.R_lt (kR HO350))) (Kd.R_lt (kR HO354))) (below_size bA))
          have n11_ := Aside0.mk (below_step bA hb)
          clear HO_0
          clear HO_1
          clear HO331
          clear HO337
          clear HO340
          clear HO343
          clear HO346
          clear HO350
          clear HO354
          clear HO357
          clear HB
          have HO_0 := n0_
          have HO_1 := n1_
          have HO331 := n2_
          have HO337 := n3_
          have HO340 := n4_
          have HO343 := n5_
          have HO346 := n6_
          have HO350 := n7_
          have HO354 := n8_
          have HO357 := n9_
          have HO361 := n10_
          have HB := n11_
          clear n0_ n1_ n2_ n3_ n4_ n5_ n6_ n7_ n8_ n9_ n10_ n11_
          (try clear hb)
          (try clear hb2)
          (try clear hk)
          (try clear hi)
          (try clear ho0)
          obtain ⟨Ao81, co81, eo81⟩ := Kd.R_slice HO361.out
          (first | subst eo81 | (injection eo81 with f1_ f2_ f3_; have f4_ := f1_.symm; have f5_ := f3_.symm; clear f1_ f2_ f3_; subst f4_; subst f5_))
          refine hK.out _ _ trivial (fun hHeld => ?_)
          clear hK K
          refine norm_ (a' := ?_) ?_ ?_
          rotate_left
          ·show Act.put _ (some 55) _ = _
           simp only [Act.put, List.setIfInBounds_toArray, List.set_cons_zero, List.set_cons_succ, i64_w, i32_w]
           rfl
          refine one_ (i := 16) (N := some 56) #[true, true, true, true, true, true, true, true, true, true, true, true, true, true, true, true, true, false, true, false, false, false, false, false, false] rfl rfl (one_of HT_.out (by kernel_rfl)) (by decide) (fun K hK => ?_)
          refine goes_ Tryd.func14 (by kernel_rfl) rfl #[.slice Ao81 t359.length co81] (by rfl) rfl rfl aP ?_
          with_reducible refine (ansi_Strip.calls kj3 (fun k_ => some k_ = (.slice Ao81 t359.length co81 : Value).ownBlock) _ _ t359 t362 _ ?side1 ?side2 A28.out).mono ?_
          (case side1 => exact Kd.R_V (Kd.R_tight rfl (Kd.R_apart' (Kd.R_apart' (Kd.R_apart' (Kd.R_apart' (HO361.out) (Kd.N_typed HO331.out) (by decide)) (Kd.R_typed HO343.out) (by decide)) (Kd.R_typed HO346.out) (by decide)) (Kd.R_typed HO357.out) (by decide))))
          (case side2 => exact GOK.of_below (GOK.sub HG.out rfl) bA)
          rintro e w82 ⟨v363, rfl, ho0, hb⟩
          refine ⟨_, rfl, ?_⟩
          have n0_ := Aside0.mk (Kd.V_elder' (kV HO_0) (Kd.R_base ho0) hb)
          have n1_ := Aside0.mk (Kd.V_elder' (kV HO_1) (Kd.R_base ho0) hb)
          have n2_ := Aside0.mk (Kd.N_elder' (by (with_reducible repeat (first | apply Kd.N_alloc | apply Kd.N_drewN | apply Kd.N_drew)); exact HO331.out) (Kd.R_base ho0) hb)
          have n3_ := Aside0.mk (Kd.R_elder' (kR HO337) (Kd.R_base ho0) hb)
          have n4_ := Aside0.mk (Kd.R_elder' (kR HO340) (Kd.R_base ho0) hb)
          have n5_ := Aside0.mk (Kd.R_below (kR HO343) hb)
          have n6_ := Aside0.mk (Kd.R_below (kR HO346) hb)
          have n7_ := Aside0.mk (Kd.R_elder' (kR HO350) (Kd.R_base ho0) hb)
          have n8_ := Aside0.mk (Kd.R_elder' (kR HO354) (Kd.R_base ho0) hb)
          have n9_ := Aside0.mk (Kd.R_below (kR HO357) hb)
          have n10_ := Aside0.mk (Kd.R_elder' (kR HO361) (Kd.R_base ho0) hb)
          have n11_ := Aside0.mk (Kd.R_lower (Kd.R_new' (Kd.R_new' (Kd.R_new' (Kd.R_new' (Kd.R_new' (Kd.R_newM (M := fun k_ => (w.heap.size ≤ k_)) (Kd.R_mono (ok' := fun k_ => True) ho0 (fun _ hk_ => trivial)) (below_size bA) (fun k_ h_ => h_)) (Kd.R_lt (kR HO337))) (Kd.R_lt (kR HO340))) (Kd.R_lt (kR HO350))) (Kd.R_lt (kR HO354))) (Kd.R_lt (kR HO361))) (below_size bA))
          have n12_ := Aside0.mk (below_step bA hb)
          clear HO_0
          clear HO_1
          clear HO331
          clear HO337
          clear HO340
          clear HO343
          clear HO346
          clear HO350
          clear HO354
          clear HO357
          clear HO361
          clear HB
          have HO_0 := n0_
          have HO_1 := n1_
          have HO331 := n2_
          have HO337 := n3_
          have HO340 := n4_
          have HO343 := n5_
          have HO346 := n6_
          have HO350 := n7_
          have HO354 := n8_
          have HO357 := n9_
          have HO361 := n10_
          have HO364 := n11_
          have HB := n12_
          clear n0_ n1_ n2_ n3_ n4_ n5_ n6_ n7_ n8_ n9_ n10_ n11_ n12_
          (try clear hb)
          (try clear hb2)
          (try clear hk)
          (try clear hi)
          (try clear ho0)
          refine hK.out _ _ trivial (fun hHeld => ?_)
          clear hK K
          refine norm_ (a' := ?_) ?_ ?_
          rotate_left
          ·show Act.put _ (some 56) _ = _
           simp only [Act.put, List.setIfInBounds_toArray, List.set_cons_zero, List.set_cons_succ, i64_w, i32_w]
           rfl
          refine one_ (i := 17) (N := some 57) #[true, true, true, true, true, true, true, true, true, true, true, true, true, true, true, true, true, true, true, false, false, false, false, false, false] rfl rfl (one_of HT_.out (by kernel_rfl)) (by decide) (fun K hK => ?_)
          have hcv83 := own_string (P := Tryd.prog) Tryd.underlying22 Tryd.underlying5 Tryd.underlying9 (Kd.own_of_R HO364.out)
          refine value_ (w1 := ?_) (v := ?_) (by rfl) rfl ?_ ?_
          rotate_left 2
          ·go_simp
           constructor
           ·rfl
           ·rfl
          clear hcv83
          refine hK.out _ _ trivial (fun hHeld => ?_)
          clear hK K
          refine norm_ (a' := ?_) ?_ ?_
          rotate_left
          ·show Act.put _ (some 57) _ = _
           simp only [Act.put, List.setIfInBounds_toArray, List.set_cons_zero, List.set_cons_succ, i64_w, i32_w]
           rfl
          refine pure_ (i := 19) (N := some 59) (v := ?_) (a' := ?_) #[true, true, true, true, true, true, true, true, true, true, true, true, true, true, true, true, true, true, true, true, false, false, false, false, false] rfl rfl (any_of HT_.out (by kernel_rfl)) (fun _ _ _ h => h) (Or.inl ⟨by rfl, ?_⟩) ?_ ?_
          rotate_left
          ·intro w'
           go_simp
           with_reducible rfl
          rotate_left
          ·simp only [Act.put, List.setIfInBounds_toArray, List.set_cons_zero, List.set_cons_succ, i64_w, i32_w]
           rfl
          refine pure_ (i := 20) (N := some 60) (v := ?_) (a' := ?_) #[true, true, true, true, true, true, true, true, true, true, true, true, true, true, true, true, true, true, true, true, true, false, false, false, false] rfl rfl (any_of HT_.out (by kernel_rfl)) (fun _ _ _ h => h) (Or.inl ⟨by rfl, ?_⟩) ?_ ?_
          rotate_left
          ·intro w'
           go_simp
           with_reducible rfl
          rotate_left
          ·simp only [Act.put, List.setIfInBounds_toArray, List.set_cons_zero, List.set_cons_succ, i64_w, i32_w]
           rfl
          refine pure_ (i := 21) (N := some 61) (v := ?_) (a' := ?_) #[true, true, true, true, true, true, true, true, true, true, true, true, true, true, true, true, true, true, true, true, true, true, false, false, false] rfl rfl (any_of HT_.out (by kernel_rfl)) (fun _ _ _ h => h) (Or.inl ⟨by rfl, ?_⟩) ?_ ?_
          rotate_left
          ·intro w'
           go_simp
           with_reducible rfl
          rotate_left
          ·simp only [Act.put, List.setIfInBounds_toArray, List.set_cons_zero, List.set_cons_succ, i64_w, i32_w]
           rfl
          refine pure_ (i := 22) (N := some 62) (v := undef) (a' := ?_) #[true, true, true, true, true, true, true, true, true, true, true, true, true, true, true, true, true, true, true, true, true, true, true, false, false] rfl rfl (any_of HT_.out (by kernel_rfl)) (fun _ _ _ h => h) (Or.inr ⟨by rfl, rfl⟩) ?_ ?_
          rotate_left
          ·simp only [Act.put, List.setIfInBounds_toArray, List.set_cons_zero, List.set_cons_succ, i64_w, i32_w]
           rfl
          refine pure_ (i := 23) (N := some 63) (v := ?_) (a' := ?_) #[true, true, true, true, true, true, true, true, true, true, true, true, true, true, true, true, true, true, true, true, true, true, true, true, false] rfl rfl (any_of HT_.out (by kernel_rfl)) (fun _ _ _ h => h) (Or.inl ⟨by rfl, ?_⟩) ?_ ?_
          rotate_left
          ·intro w'
           go_simp
           with_reducible rfl
          rotate_left
          ·simp only [Act.put, List.setIfInBounds_toArray, List.set_cons_zero, List.set_cons_succ, i64_w, i32_w]
           rfl
          refine pure_ (i := 24) (N := some 6) (v := ?_) (a' := ?_) #[true, true, true, true, true, true, true, true, true, true, true, true, true, true, true, true, true, true, true, true, true, true, true, true, true] rfl rfl (any_of HT_.out (by kernel_rfl)) (fun _ _ _ h => h) (Or.inl ⟨by rfl, ?_⟩) ?_ ?_
          rotate_left
          ·intro w'
           go_simp
           with_reducible rfl
          rotate_left
          ·simp only [Act.put, List.setIfInBounds_toArray, List.set_cons_zero, List.set_cons_succ, i64_w, i32_w]
           rfl
          refine done_ (done_of HT_.out (by kernel_rfl)) ?_
          try go_wp2
          go_ret
          exact ⟨eW, bA⟩
        ·rw [if_neg c26] at H
         have c26b0 : ((strOfNums t352).toList == t358.toList) = false := beq_eq_false_iff_ne.mpr c26
         have c26b1 : ((strOfNums t352).toList != t358.toList) = true := bne_iff_ne.mpr c26
         obtain rfl := Option.some.inj H
         try go_wp2_with (first | ((with_reducible refine gate_builtin (b := .append) (xs := #[.tmp 23, .tmp 24]) rfl ?_); (try (refine gate_guard (by rfl) ?_; dsimp only)); at_builtin; refine Kd.N_append_rows k35 (w0 := w) w.heap.size rfl (.tmp 23) (.tmp 24) 30 35 (.agg #[(.int .i64 0), (.slice none 0 0), (.bool false)]) 40 rfl Tryd.underlying30 info35 rfl (by decide) (by omega) (.slice none 0 0) ([] : List (S35)) l0 _ _ _ (fun k_ => ((P0_ k_ ∨ P1_ k_) ∨ w.heap.size ≤ k_)) (fun k_ => ((fun k_ => ((P0_ k_ ∨ P1_ k_) ∨ w.heap.size ≤ k_))) k_ ∧ some k_ ≠ (.slice none 0 0 : Value).ownBlock) rfl rfl ?aO ?aR (fun _ hk => hk) ?aF ?aB ?aS ?aL ?_; (case aR => exact (by skip; exact Kd.V_F (Kd.V_mono (ok' := (fun k_ => ((fun k_ => ((P0_ k_ ∨ P1_ k_) ∨ w.heap.size ≤ k_))) k_ ∧ some k_ ≠ (.slice none 0 0 : Value).ownBlock)) (HO_0.out) (fun k_ hk => ⟨hk, (by simp [Value.ownBlock])⟩)))); (case aB => exact bA); (case aF => exact (fun k_ hk => (.inr (Nat.le_trans (below_size bA) hk)))); (case aO => exact ((Kd.N_nil _ _ _ _ (fun k_ => ((P0_ k_ ∨ P1_ k_) ∨ w.heap.size ≤ k_))))); (case aS => exact (below_size bA)); (case aL => have := LMc12.out; omega); intro v327 w84 ho hb hg hat; rw [← Ny326.out] at ho; replace HO_0 := Aside0.mk (Kd.V_afterv (Kd.V_apart_nil (kV HO_0)) hg hat); replace HO_1 := Aside0.mk (Kd.V_afterv (Kd.V_apart_nil (kV HO_1)) hg hat); have HO328 := Aside0.mk (ho); replace HB := Aside0.mk (hb); clear ho hb hg hat) | ((with_reducible refine gate_builtin (b := .append) (xs := #[.tmp 26, .tmp 27]) rfl ?_); (try (refine gate_guard (by rfl) ?_; dsimp only)); at_builtin; refine Kd.N_append_rows k35 (w0 := w) w.heap.size rfl (.tmp 26) (.tmp 27) 30 35 (.agg #[(.int .i64 0), (.slice none 0 0), (.bool false)]) 40 rfl Tryd.underlying30 info35 rfl (by decide) (by omega) v327 y326 l1 _ _ _ (fun k_ => ((P0_ k_ ∨ P1_ k_) ∨ w.heap.size ≤ k_)) (fun k_ => ((fun k_ => ((P0_ k_ ∨ P1_ k_) ∨ w.heap.size ≤ k_))) k_ ∧ some k_ ≠ (v327 : Value).ownBlock) rfl rfl ?aO ?aR (fun _ hk => hk) ?aF ?aB ?aS ?aL ?_; (case aR => exact (by skip; exact Kd.V_F (Kd.V_mono (ok' := (fun k_ => ((fun k_ => ((P0_ k_ ∨ P1_ k_) ∨ w.heap.size ≤ k_))) k_ ∧ some k_ ≠ (v327 : Value).ownBlock)) (HO_1.out) (fun k_ hk => ⟨hk.1, hk.2⟩)))); (case aB => exact bA); (case aF => exact (fun k_ hk => (.inr (Nat.le_trans (below_size bA) hk)))); (case aO => exact (by (with_reducible repeat (first | apply Kd.N_alloc | apply Kd.N_drewN | apply Kd.N_drew)); exact HO328.out)); (case aS => exact (below_size bA)); (case aL => have := LMc13.out; omega); intro v330 w85 ho hb hg hat; rw [← Ny329.out] at ho; have n0_ := Aside0.mk (Kd.V_afterv (ok := (fun k_ => ((P0_ k_ ∨ P1_ k_) ∨ w.heap.size ≤ k_))) (kV HO_0) hg hat); have n1_ := Aside0.mk (Kd.V_afterv (ok := (fun k_ => ((P0_ k_ ∨ P1_ k_) ∨ w.heap.size ≤ k_))) (kV HO_1) hg hat); have n2_ := Aside0.mk (hb); have n3_ := Aside0.mk (ho); clear HO_0; clear HO_1; clear HB; clear HO328; have HO_0 := n0_; have HO_1 := n1_; have HB := n2_; have HO331 := n3_; clear n0_ n1_ n2_ n3_; clear ho hb hg hat) | ((with_reducible refine gate_callee (f := 18) rfl ?_); refine goesL_ (some 30) rfl rfl Tryd.func18 (by kernel_rfl) rfl #[.slice A0 l0.length c0] rfl aP ?_; (with_reducible refine (ansi_Write.calls kj3 _ _ l0 t332 _ ?side1 ?side2 ?side3 A14.out).mono ?_); (case side1 => repeat (first | exact (Kd.V_reads' HO_0.out).2.2 | (with_reducible refine Kd.C_alloc ?_ _) | (with_reducible refine Kd.C_drewN ?_ _) | (with_reducible refine Kd.C_drew ?_))); (case side2 => exact (Kd.V_reads' HO_0.out).2.1); (case side3 => exact GOK.of_below (GOK.sub HG.out rfl) bA); rintro e w86 ⟨v333, rfl, ho0, hb⟩; refine ⟨_, rfl, ?_⟩; have n0_ := Aside0.mk (Kd.V_elder' (kV HO_0) (Kd.R_base ho0) hb); have n1_ := Aside0.mk (Kd.V_elder' (kV HO_1) (Kd.R_base ho0) hb); have n2_ := Aside0.mk (Kd.N_elder' (by (with_reducible repeat (first | apply Kd.N_alloc | apply Kd.N_drewN | apply Kd.N_drew)); exact HO331.out) (Kd.R_base ho0) hb); have n3_ := Aside0.mk (Kd.R_lower (Kd.R_newM (M := fun k_ => (w.heap.size ≤ k_)) ho0 (below_size bA) (fun k_ h_ => h_)) (below_size bA)); have n4_ := Aside0.mk (below_step bA hb); clear HO_0; clear HO_1; clear HO331; clear HB; have HO_0 := n0_; have HO_1 := n1_; have HO331 := n2_; have HO334 := n3_; have HB := n4_; clear n0_ n1_ n2_ n3_ n4_; (try clear hb); (try clear hb2); (try clear hk); (try clear hi); (try clear ho0)) | ((with_reducible refine gate_callee (f := 18) rfl ?_); refine goesL_ (some 33) rfl rfl Tryd.func18 (by kernel_rfl) rfl #[.slice A1 l1.length c1] rfl aP ?_; (with_reducible refine (ansi_Write.calls kj3 _ _ l1 t335 _ ?side1 ?side2 ?side3 A15.out).mono ?_); (case side1 => repeat (first | exact (Kd.V_reads' HO_1.out).2.2 | (with_reducible refine Kd.C_alloc ?_ _) | (with_reducible refine Kd.C_drewN ?_ _) | (with_reducible refine Kd.C_drew ?_))); (case side2 => exact (Kd.V_reads' HO_1.out).2.1); (case side3 => exact GOK.of_below (GOK.sub HG.out rfl) bA); rintro e w87 ⟨v336, rfl, ho0, hb⟩; refine ⟨_, rfl, ?_⟩; have n0_ := Aside0.mk (Kd.V_elder' (kV HO_0) (Kd.R_base ho0) hb); have n1_ := Aside0.mk (Kd.V_elder' (kV HO_1) (Kd.R_base ho0) hb); have n2_ := Aside0.mk (Kd.N_elder' (by (with_reducible repeat (first | apply Kd.N_alloc | apply Kd.N_drewN | apply Kd.N_drew)); exact HO331.out) (Kd.R_base ho0) hb); have n3_ := Aside0.mk (Kd.R_elder' (kR HO334) (Kd.R_base ho0) hb); have n4_ := Aside0.mk (Kd.R_lower (Kd.R_new' (Kd.R_newM (M := fun k_ => (w.heap.size ≤ k_)) ho0 (below_size bA) (fun k_ h_ => h_)) (Kd.R_lt (kR HO334))) (below_size bA)); have n5_ := Aside0.mk (below_step bA hb); clear HO_0; clear HO_1; clear HO331; clear HO334; clear HB; have HO_0 := n0_; have HO_1 := n1_; have HO331 := n2_; have HO334 := n3_; have HO337 := n4_; have HB := n5_; clear n0_ n1_ n2_ n3_ n4_ n5_; (try clear hb); (try clear hb2); (try clear hk); (try clear hi); (try clear ho0); obtain ⟨Ao89, co89, eo89⟩ := Kd.R_slice HO337.out; subst eo89) | ((with_reducible refine gate_builtin (b := .append) (xs := #[.tmp 31, .tmp 33]) rfl ?_); (try (refine gate_guard (by rfl) ?_; dsimp only)); at_builtin; refine Kd.R_append_rows (Kd.int .u8) (w0 := w) w.heap.size rfl (.tmp 31) (.tmp 33) 22 5 (.int .u8 0) 1 rfl Tryd.underlying22 info5 rfl (by decide) (by omega) v333 t332 t335 _ _ _ (fun k_ => (w.heap.size ≤ k_) ∧ some k_ ≠ (.slice Ao89 t335.length co89 : Value).ownBlock) (fun _ => False) rfl rfl ?aO ?aR (fun _ _ h => h) (fun _ h => h.elim) ?aF ?aB ?aS ?aL ?_; (case aR => repeat (first | exact (Kd.R_reads' HO337.out).2.2 | (with_reducible refine Kd.C_alloc ?_ _) | (with_reducible refine Kd.C_drewN ?_ _) | (with_reducible refine Kd.C_drew ?_))); (case aB => exact bA); (case aF => exact (fun k_ hk => ⟨(Nat.le_trans (below_size bA) hk), Kd.fresh' (Kd.R_lt (kR HO337)) k_ hk⟩)); (case aO => exact (by (with_reducible repeat (first | apply Kd.R_alloc | apply Kd.R_drewN | apply Kd.R_drew)); exact Kd.R_mono HO334.out (fun _ hk => ⟨hk.1.1, hk.2⟩))); (case aS => exact (below_size bA)); (case aL => have := LMc16.out; omega); intro v339 w88 ho hb hg hat; rw [← Ny338.out] at ho; have n0_ := Aside0.mk (Kd.V_afterv (ok := (fun k_ => ((P0_ k_ ∨ P1_ k_) ∨ w.heap.size ≤ k_) ∧ some k_ ≠ (v330 : Value).ownBlock ∧ some k_ ≠ (.slice Ao89 t335.length co89 : Value).ownBlock)) (by (with_reducible repeat (first | apply Kd.V_alloc | apply Kd.V_drewN | apply Kd.V_drew)); exact Kd.V_mono HO_0.out (fun _ hk => ⟨⟨hk.1.1.1, ⟨hk.1.1.2, hk.2⟩⟩, hk.1.2⟩)) hg hat); have n1_ := Aside0.mk (Kd.V_afterv (ok := (fun k_ => ((P0_ k_ ∨ P1_ k_) ∨ w.heap.size ≤ k_) ∧ some k_ ≠ (v330 : Value).ownBlock ∧ some k_ ≠ (.slice Ao89 t335.length co89 : Value).ownBlock)) (by (with_reducible repeat (first | apply Kd.V_alloc | apply Kd.V_drewN | apply Kd.V_drew)); exact Kd.V_mono HO_1.out (fun _ hk => ⟨⟨hk.1.1.1, ⟨hk.1.1.2, hk.2⟩⟩, hk.1.2⟩)) hg hat); have n2_ := Aside0.mk (Kd.N_afterv (ok := (fun k_ => ((P0_ k_ ∨ P1_ k_) ∨ w.heap.size ≤ k_) ∧ some k_ ≠ (.slice Ao89 t335.length co89 : Value).ownBlock)) (by (with_reducible repeat (first | apply Kd.N_alloc | apply Kd.N_drewN | apply Kd.N_drew)); exact Kd.N_mono HO331.out (fun _ hk => ⟨⟨hk.1.1, hk.2⟩, hk.1.2⟩)) hg hat); have n3_ := Aside0.mk (Kd.R_after (ok := (fun k_ => (w.heap.size ≤ k_))) (by (with_reducible repeat (first | apply Kd.R_alloc | apply Kd.R_drewN | apply Kd.R_drew)); exact Kd.R_mono HO337.out (fun _ hk => ⟨hk.1.1, hk.2⟩)) hg hat); have n4_ := Aside0.mk (hb); have n5_ := Aside0.mk (ho); clear HO_0; clear HO_1; clear HO331; clear HO337; clear HB; clear HO334; have HO_0 := n0_; have HO_1 := n1_; have HO331 := n2_; have HO337 := n3_; have HB := n4_; have HO340 := n5_; clear n0_ n1_ n2_ n3_ n4_ n5_; clear ho hb hg hat) | ((with_reducible refine gate_callee (f := 23) rfl ?_); refine goesL_ (some 36) rfl rfl Tryd.func23 (by kernel_rfl) rfl #[.slice A2 l2.length c2] rfl aP ?_; (with_reducible refine (flongref17_Erase.calls kj3 _ _ l2 t341 _ ?side1 ?side2 A17.out).mono ?_); (case side1 => repeat (first | exact (Kd.C_below HR2.out HB.out) | (with_reducible refine Kd.C_alloc ?_ _) | (with_reducible refine Kd.C_drewN ?_ _) | (with_reducible refine Kd.C_drew ?_))); (case side2 => exact HC2.out); rintro e w90 ⟨v342, rfl, ho0, hb⟩; refine ⟨_, rfl, ?_⟩; have n0_ := Aside0.mk (Kd.V_elder' (kV HO_0) (Kd.R_base ho0) hb); have n1_ := Aside0.mk (Kd.V_elder' (kV HO_1) (Kd.R_base ho0) hb); have n2_ := Aside0.mk (Kd.N_elder' (by (with_reducible repeat (first | apply Kd.N_alloc | apply Kd.N_drewN | apply Kd.N_drew)); exact HO331.out) (Kd.R_base ho0) hb); have n3_ := Aside0.mk (Kd.R_below (kR HO337) hb); have n4_ := Aside0.mk (Kd.R_below (kR HO340) hb); have n5_ := Aside0.mk (Kd.R_lower (Kd.R_newM (M := fun k_ => (w.heap.size ≤ k_)) ho0 (below_size bA) (fun k_ h_ => h_)) (below_size bA)); have n6_ := Aside0.mk (below_step bA hb); clear HO_0; clear HO_1; clear HO331; clear HO337; clear HO340; clear HB; have HO_0 := n0_; have HO_1 := n1_; have HO331 := n2_; have HO337 := n3_; have HO340 := n4_; have HO343 := n5_; have HB := n6_; clear n0_ n1_ n2_ n3_ n4_ n5_ n6_; (try clear hb); (try clear hb2); (try clear hk); (try clear hi); (try clear ho0)) | ((with_reducible refine gate_callee (f := 25) rfl ?_); refine goesL_ (some 38) rfl rfl Tryd.func25 (by kernel_rfl) rfl #[.slice A2 l2.length c2] rfl aP ?_; (with_reducible refine (flongref17_Normal.calls kj3 _ _ l2 t344 _ ?side1 ?side2 A18.out).mono ?_); (case side1 => repeat (first | exact (Kd.C_below HR2.out HB.out) | (with_reducible refine Kd.C_alloc ?_ _) | (with_reducible refine Kd.C_drewN ?_ _) | (with_reducible refine Kd.C_drew ?_))); (case side2 => exact HC2.out); rintro e w91 ⟨v345, rfl, ho0, hb⟩; refine ⟨_, rfl, ?_⟩; have n0_ := Aside0.mk (Kd.V_elder' (kV HO_0) (Kd.R_base ho0) hb); have n1_ := Aside0.mk (Kd.V_elder' (kV HO_1) (Kd.R_base ho0) hb); have n2_ := Aside0.mk (Kd.N_elder' (by (with_reducible repeat (first | apply Kd.N_alloc | apply Kd.N_drewN | apply Kd.N_drew)); exact HO331.out) (Kd.R_base ho0) hb); have n3_ := Aside0.mk (Kd.R_below (kR HO337) hb); have n4_ := Aside0.mk (Kd.R_below (kR HO340) hb); have n5_ := Aside0.mk (Kd.R_elder' (kR HO343) (Kd.R_base ho0) hb); have n6_ := Aside0.mk (Kd.R_lower (Kd.R_new' (Kd.R_newM (M := fun k_ => (w.heap.size ≤ k_)) ho0 (below_size bA) (fun k_ h_ => h_)) (Kd.R_lt (kR HO343))) (below_size bA)); have n7_ := Aside0.mk (below_step bA hb); clear HO_0; clear HO_1; clear HO331; clear HO337; clear HO340; clear HO343; clear HB; have HO_0 := n0_; have HO_1 := n1_; have HO331 := n2_; have HO337 := n3_; have HO340 := n4_; have HO343 := n5_; have HO346 := n6_; have HB := n7_; clear n0_ n1_ n2_ n3_ n4_ n5_ n6_ n7_; (try clear hb); (try clear hb2); (try clear hk); (try clear hi); (try clear ho0); obtain ⟨Ao92, co92, eo92⟩ := Kd.R_slice HO346.out; subst eo92) | ((with_reducible refine gate_callee (f := 24) rfl ?_); refine goesL_ (some 39) rfl rfl Tryd.func24 (by kernel_rfl) rfl #[.slice Ao92 t344.length co92] rfl aP ?_; (with_reducible refine (flongref03_Text.calls kj3 _ _ t344 t347 _ ?side1 ?side2 A19.out).mono ?_); (case side1 => repeat (first | exact (Kd.R_reads' HO346.out).2.2 | (with_reducible refine Kd.C_alloc ?_ _) | (with_reducible refine Kd.C_drewN ?_ _) | (with_reducible refine Kd.C_drew ?_))); (case side2 => exact (Kd.R_reads' HO346.out).2.1); rintro e w93 ⟨rfl, hb⟩; refine ⟨_, rfl, ?_⟩; have n0_ := Aside0.mk (Kd.V_below (kV HO_0) hb); have n1_ := Aside0.mk (Kd.V_below (kV HO_1) hb); have n2_ := Aside0.mk (Kd.N_below (by (with_reducible repeat (first | apply Kd.N_alloc | apply Kd.N_drewN | apply Kd.N_drew)); exact HO331.out) hb); have n3_ := Aside0.mk (Kd.R_below (kR HO337) hb); have n4_ := Aside0.mk (Kd.R_below (kR HO340) hb); have n5_ := Aside0.mk (Kd.R_below (kR HO343) hb); have n6_ := Aside0.mk (Kd.R_below (kR HO346) hb); have n7_ := Aside0.mk (below_step bA hb); clear HO_0; clear HO_1; clear HO331; clear HO337; clear HO340; clear HO343; clear HO346; clear HB; have HO_0 := n0_; have HO_1 := n1_; have HO331 := n2_; have HO337 := n3_; have HO340 := n4_; have HO343 := n5_; have HO346 := n6_; have HB := n7_; clear n0_ n1_ n2_ n3_ n4_ n5_ n6_ n7_; (try clear hb); (try clear hb2); (try clear hk); (try clear hi); obtain ⟨Ao94, co94, eo94⟩ := Kd.N_slice HO331.out; subst eo94; obtain ⟨Ao95, co95, eo95⟩ := Kd.R_slice HO340.out; subst eo95; obtain ⟨Ao96, co96, eo96⟩ := Kd.R_slice HO343.out; subst eo96))
         have n0_ := Aside0.mk (Kd.V_drew HO_0.out)
         have n1_ := Aside0.mk (Kd.V_drew HO_1.out)
         have n2_ := Aside0.mk (Kd.N_drew HO331.out)
         have n3_ := Aside0.mk (Kd.R_drew HO337.out)
         have n4_ := Aside0.mk (Kd.R_drew HO340.out)
         have n5_ := Aside0.mk (Kd.R_drew HO343.out)
         have n6_ := Aside0.mk (Kd.R_drew HO346.out)
         have n7_ := Aside0.mk (below_drew1 HB.out)
         clear HO_0
         clear HO_1
         clear HO331
         clear HO337
         clear HO340
         clear HO343
         clear HO346
         clear HB
         have HO_0 := n0_
         have HO_1 := n1_
         have HO331 := n2_
         have HO337 := n3_
         have HO340 := n4_
         have HO343 := n5_
         have HO346 := n6_
         have HB := n7_
         clear n0_ n1_ n2_ n3_ n4_ n5_ n6_ n7_
         refine start_ (n := 25) (S := fun w' => True) (ds := []) #[false, false, false, false, false, false, false, false, false, false, false, false, false, false, false, false, false, false, false, false, false, false, false, false, false] (by kernel_rfl) rfl rfl trivial (fun hHeld => ?_); refine with_tabW flonglaw19_AnsiJoins.tab10 flonglaw19_AnsiJoins.bits10 (fun HT_ HW_ => ?_)
         generalize w93.drew = w97 at HO_0 HO_1 HO331 HO337 HO340 HO343 HO346 HB hHeld ⊢
         refine pure_ (i := 0) (N := some 40) (v := ?_) (a' := ?_) #[true, false, false, false, false, false, false, false, false, false, false, false, false, false, false, false, false, false, false, false, false, false, false, false, false] rfl rfl (any_of HT_.out (by kernel_rfl)) (fun _ _ _ h => h) (Or.inl ⟨by rfl, ?_⟩) ?_ ?_
         rotate_left
         ·intro w'
          go_simp
          with_reducible rfl
         rotate_left
         ·simp only [Act.put, List.setIfInBounds_toArray, List.set_cons_zero, List.set_cons_succ, i64_w, i32_w]
          rfl
         refine pure_ (i := 2) (N := some 42) (v := ?_) (a' := ?_) #[true, false, true, false, false, false, false, false, false, false, false, false, false, false, false, false, false, false, false, false, false, false, false, false, false] rfl rfl (any_of HT_.out (by kernel_rfl)) (fun _ _ _ h => h) (Or.inl ⟨by rfl, ?_⟩) ?_ ?_
         rotate_left
         ·intro w'
          go_simp
          with_reducible rfl
         rotate_left
         ·simp only [Act.put, List.setIfInBounds_toArray, List.set_cons_zero, List.set_cons_succ, i64_w, i32_w]
          rfl
         refine one_ (i := 1) (N := some 41) #[true, true, true, false, false, false, false, false, false, false, false, false, false, false, false, false, false, false, false, false, false, false, false, false, false] rfl rfl (one_of HT_.out (by kernel_rfl)) (by decide) (fun K hK => ?_)
         refine goes_ Tryd.func18 (by kernel_rfl) rfl #[.slice Ao94 y329.length co94] (by rfl) rfl rfl aP ?_
         with_reducible refine (ansi_Write.calls kj3 _ _ y329 t348 _ ?side1 ?side2 ?side3 A20.out).mono ?_
         (case side1 => repeat (first | exact (Kd.N_reads' HO331.out).2.2 | (with_reducible refine Kd.C_alloc ?_ _) | (with_reducible refine Kd.C_drewN ?_ _) | (with_reducible refine Kd.C_drew ?_)))
         (case side2 => exact (Kd.N_reads' HO331.out).2.1)
         (case side3 => exact GOK.of_below (GOK.sub HG.out rfl) bA)
         rintro e w98 ⟨v349, rfl, ho0, hb⟩
         refine ⟨_, rfl, ?_⟩
         have n0_ := Aside0.mk (Kd.V_elder' (kV HO_0) (Kd.R_base ho0) hb)
         have n1_ := Aside0.mk (Kd.V_elder' (kV HO_1) (Kd.R_base ho0) hb)
         have n2_ := Aside0.mk (Kd.N_elder' (by (with_reducible repeat (first | apply Kd.N_alloc | apply Kd.N_drewN | apply Kd.N_drew)); exact HO331.out) (Kd.R_base ho0) hb)
         have n3_ := Aside0.mk (Kd.R_elder' (kR HO337) (Kd.R_base ho0) hb)
         have n4_ := Aside0.mk (Kd.R_elder' (kR HO340) (Kd.R_base ho0) hb)
         have n5_ := Aside0.mk (Kd.R_below (kR HO343) hb)
         have n6_ := Aside0.mk (Kd.R_below (kR HO346) hb)
         have n7_ := Aside0.mk (Kd.R_lower (Kd.R_new' (Kd.R_new' (Kd.R_newM (M := fun k_ => (w.heap.size ≤ k_)) ho0 (below_size bA) (fun k_ h_ => h_)) (Kd.R_lt (kR HO337))) (Kd.R_lt (kR HO340))) (below_size bA))
         have n8_ := Aside0.mk (below_step bA hb)
         clear HO_0
         clear HO_1
         clear HO331
         clear HO337
         clear HO340
         clear HO343
         clear HO346
         clear HB
         have HO_0 := n0_
         have HO_1 := n1_
         have HO331 := n2_
         have HO337 := n3_
         have HO340 := n4_
         have HO343 := n5_
         have HO346 := n6_
         have HO350 := n7_
         have HB := n8_
         clear n0_ n1_ n2_ n3_ n4_ n5_ n6_ n7_ n8_
         (try clear hb)
         (try clear hb2)
         (try clear hk)
         (try clear hi)
         (try clear ho0)
         obtain ⟨Ao99, co99, eo99⟩ := Kd.R_slice HO350.out
         (first | subst eo99 | (injection eo99 with f1_ f2_ f3_; have f4_ := f1_.symm; have f5_ := f3_.symm; clear f1_ f2_ f3_; subst f4_; subst f5_))
         refine hK.out _ _ trivial (fun hHeld => ?_)
         clear hK K
         refine norm_ (a' := ?_) ?_ ?_
         rotate_left
         ·show Act.put _ (some 41) _ = _
          simp only [Act.put, List.setIfInBounds_toArray, List.set_cons_zero, List.set_cons_succ, i64_w, i32_w]
          rfl
         refine one_ (i := 3) (N := some 43) #[true, true, true, true, false, false, false, false, false, false, false, false, false, false, false, false, false, false, false, false, false, false, false, false, false] rfl rfl (one_of HT_.out (by kernel_rfl)) (by decide) (fun K hK => ?_)
         refine goes_ Tryd.func13 (by kernel_rfl) rfl #[.slice Ao99 t348.length co99, .slice Ao95 y338.length co95] (by rfl) rfl rfl aP ?_
         with_reducible refine (flongref00_Same.calls _ _ t348 _ _ y338 true _ ?side1 ?side2 ?side3 ?side4 A21.out).mono ?_
         (case side1 => repeat (first | exact (Kd.R_reads' HO350.out).2.2 | (with_reducible refine Kd.C_alloc ?_ _) | (with_reducible refine Kd.C_drewN ?_ _) | (with_reducible refine Kd.C_drew ?_)))
         (case side2 => exact (Kd.R_reads' HO350.out).2.1)
         (case side3 => repeat (first | exact (Kd.R_reads' HO340.out).2.2 | (with_reducible refine Kd.C_alloc ?_ _) | (with_reducible refine Kd.C_drewN ?_ _) | (with_reducible refine Kd.C_drew ?_)))
         (case side4 => exact (Kd.R_reads' HO340.out).2.1)
         rintro e w' ⟨rfl, ⟨nd, rfl⟩⟩
         refine ⟨_, rfl, ?_⟩
         refine hK.out _ _ trivial (fun hHeld => ?_)
         clear hK K
         refine norm_ (a' := ?_) ?_ ?_
         rotate_left
         ·show Act.put _ (some 43) _ = _
          simp only [Act.put, List.setIfInBounds_toArray, List.set_cons_zero, List.set_cons_succ, i64_w, i32_w]
          rfl
         refine pure_ (i := 4) (N := some 44) (v := ?_) (a' := ?_) #[true, true, true, true, true, false, false, false, false, false, false, false, false, false, false, false, false, false, false, false, false, false, false, false, false] rfl rfl (any_of HT_.out (by kernel_rfl)) (fun _ _ _ h => h) (Or.inl ⟨by rfl, ?_⟩) ?_ ?_
         rotate_left
         ·intro w'
          go_simp
          with_reducible rfl
         rotate_left
         ·simp only [Act.put, List.setIfInBounds_toArray, List.set_cons_zero, List.set_cons_succ, i64_w, i32_w]
          rfl
         refine pure_ (i := 5) (N := some 45) (v := ?_) (a' := ?_) #[true, true, true, true, true, true, false, false, false, false, false, false, false, false, false, false, false, false, false, false, false, false, false, false, false] rfl rfl (any_of HT_.out (by kernel_rfl)) (fun _ _ _ h => h) (Or.inl ⟨by rfl, ?_⟩) ?_ ?_
         rotate_left
         ·intro w'
          go_simp
          with_reducible rfl
         rotate_left
         ·simp only [Act.put, List.setIfInBounds_toArray, List.set_cons_zero, List.set_cons_succ, i64_w, i32_w]
          rfl
         refine pure_ (i := 8) (N := some 48) (v := ?_) (a' := ?_) #[true, true, true, true, true, true, false, false, true, false, false, false, false, false, false, false, false, false, false, false, false, false, false, false, false] rfl rfl (any_of HT_.out (by kernel_rfl)) (fun _ _ _ h => h) (Or.inl ⟨by rfl, ?_⟩) ?_ ?_
         rotate_left
         ·intro w'
          go_simp
          with_reducible rfl
         rotate_left
         ·simp only [Act.put, List.setIfInBounds_toArray, List.set_cons_zero, List.set_cons_succ, i64_w, i32_w]
          rfl
         refine one_ (i := 6) (N := some 46) #[true, true, true, true, true, true, true, false, true, false, false, false, false, false, false, false, false, false, false, false, false, false, false, false, false] rfl rfl (one_of HT_.out (by kernel_rfl)) (by decide) (fun K hK => ?_)
         refine goes_ Tryd.func16 (by kernel_rfl) rfl #[.slice Ao96 t341.length co96] (by rfl) rfl rfl aP ?_
         with_reducible refine (ansi_Row.calls kj3 _ _ t341 t352 _ ?side1 ?side2 ?side3 A23.out).mono ?_
         (case side1 => repeat (first | exact (Kd.R_reads' HO343.out).2.2 | (with_reducible refine Kd.C_alloc ?_ _) | (with_reducible refine Kd.C_drewN ?_ _) | (with_reducible refine Kd.C_drew ?_)))
         (case side2 => exact (Kd.R_reads' HO343.out).2.1)
         (case side3 => exact GOK.of_below (GOK.sub HG.out rfl) bA)
         rintro e w100 ⟨v353, rfl, ho0, hb⟩
         refine ⟨_, rfl, ?_⟩
         have n0_ := Aside0.mk (Kd.V_elder' (kV HO_0) (Kd.R_base ho0) hb)
         have n1_ := Aside0.mk (Kd.V_elder' (kV HO_1) (Kd.R_base ho0) hb)
         have n2_ := Aside0.mk (Kd.N_elder' (by (with_reducible repeat (first | apply Kd.N_alloc | apply Kd.N_drewN | apply Kd.N_drew)); exact HO331.out) (Kd.R_base ho0) hb)
         have n3_ := Aside0.mk (Kd.R_elder' (kR HO337) (Kd.R_base ho0) hb)
         have n4_ := Aside0.mk (Kd.R_elder' (kR HO340) (Kd.R_base ho0) hb)
         have n5_ := Aside0.mk (Kd.R_below (kR HO343) hb)
         have n6_ := Aside0.mk (Kd.R_below (kR HO346) hb)
         have n7_ := Aside0.mk (Kd.R_elder' (kR HO350) (Kd.R_base ho0) hb)
         have n8_ := Aside0.mk (Kd.R_lower (Kd.R_new' (Kd.R_new' (Kd.R_new' (Kd.R_newM (M := fun k_ => (w.heap.size ≤ k_)) ho0 (below_size bA) (fun k_ h_ => h_)) (Kd.R_lt (kR HO337))) (Kd.R_lt (kR HO340))) (Kd.R_lt (kR HO350))) (below_size bA))
         have n9_ := Aside0.mk (below_step bA hb)
         clear HO_0
         clear HO_1
         clear HO331
         clear HO337
         clear HO340
         clear HO343
         clear HO346
         clear HO350
         clear HB
         have HO_0 := n0_
         have HO_1 := n1_
         have HO331 := n2_
         have HO337 := n3_
         have HO340 := n4_
         have HO343 := n5_
         have HO346 := n6_
         have HO350 := n7_
         have HO354 := n8_
         have HB := n9_
         clear n0_ n1_ n2_ n3_ n4_ n5_ n6_ n7_ n8_ n9_
         (try clear hb)
         (try clear hb2)
         (try clear hk)
         (try clear hi)
         (try clear ho0)
         refine hK.out _ _ trivial (fun hHeld => ?_)
         clear hK K
         refine norm_ (a' := ?_) ?_ ?_
         rotate_left
         ·show Act.put _ (some 46) _ = _
          simp only [Act.put, List.setIfInBounds_toArray, List.set_cons_zero, List.set_cons_succ, i64_w, i32_w]
          rfl
         refine join_ (σ := Value) 14 #[true, true, true, true, true, true, true, true, true, true, true, false, false, false, false, false, false, false, false, false, false, false, false, false, false] (fun s_ => [(47, .string (strOfNums t352)), (49, s_), (50, .string t358)]) (fun s_ w' => (Kd.N k35 35 w' w.heap.size (fun k_ => ((P0_ k_ ∨ P1_ k_) ∨ w.heap.size ≤ k_) ∧ some k_ ≠ (.slice Ao89 t335.length co89 : Value).ownBlock ∧ some k_ ≠ (.slice Ao95 y338.length co95 : Value).ownBlock ∧ some k_ ≠ (.slice Ao96 t341.length co96 : Value).ownBlock ∧ some k_ ≠ (.slice Ao92 t344.length co92 : Value).ownBlock ∧ some k_ ≠ (.slice Ao99 t348.length co99 : Value).ownBlock ∧ some k_ ≠ (v353 : Value).ownBlock ∧ some k_ ≠ (s_ : Value).ownBlock) (.slice Ao94 y329.length co94) y329) ∧ (Kd.R (Kd.int .u8) 5 w' w.heap.size (fun k_ => (w.heap.size ≤ k_) ∧ some k_ ≠ (.slice Ao95 y338.length co95 : Value).ownBlock ∧ some k_ ≠ (.slice Ao99 t348.length co99 : Value).ownBlock ∧ some k_ ≠ (v353 : Value).ownBlock) (.slice Ao89 t335.length co89) t335) ∧ (Kd.R (Kd.int .u8) 5 w' w.heap.size (fun k_ => (w.heap.size ≤ k_) ∧ some k_ ≠ (.slice Ao89 t335.length co89 : Value).ownBlock ∧ some k_ ≠ (.slice Ao99 t348.length co99 : Value).ownBlock ∧ some k_ ≠ (v353 : Value).ownBlock) (.slice Ao95 y338.length co95) y338) ∧ (Kd.R k44 44 w' w.heap.size (fun k_ => (w.heap.size ≤ k_) ∧ some k_ ≠ (.slice Ao92 t344.length co92 : Value).ownBlock ∧ some k_ ≠ (s_ : Value).ownBlock) (.slice Ao96 t341.length co96) t341) ∧ (Kd.R k44 44 w' w.heap.size (fun k_ => (w.heap.size ≤ k_) ∧ some k_ ≠ (.slice Ao96 t341.length co96 : Value).ownBlock ∧ some k_ ≠ (s_ : Value).ownBlock) (.slice Ao92 t344.length co92) t344) ∧ (Kd.R (Kd.int .u8) 5 w' w.heap.size (fun k_ => (w.heap.size ≤ k_) ∧ some k_ ≠ (.slice Ao89 t335.length co89 : Value).ownBlock ∧ some k_ ≠ (.slice Ao95 y338.length co95 : Value).ownBlock ∧ some k_ ≠ (v353 : Value).ownBlock) (.slice Ao99 t348.length co99) t348) ∧ (Kd.R (Kd.int .u8) 5 w' w.heap.size (fun k_ => (w.heap.size ≤ k_) ∧ some k_ ≠ (.slice Ao89 t335.length co89 : Value).ownBlock ∧ some k_ ≠ (.slice Ao95 y338.length co95 : Value).ownBlock ∧ some k_ ≠ (.slice Ao99 t348.length co99 : Value).ownBlock) v353 t352) ∧ (Kd.R k44 44 w' w.heap.size (fun k_ => (w.heap.size ≤ k_) ∧ some k_ ≠ (.slice Ao96 t341.length co96 : Value).ownBlock ∧ some k_ ≠ (.slice Ao92 t344.length co92 : Value).ownBlock) s_ t355) ∧ (Kd.V k35 35 w' w.heap.size (fun k_ => ((P0_ k_ ∨ P1_ k_) ∨ w.heap.size ≤ k_) ∧ some k_ ≠ (.slice Ao94 y329.length co94 : Value).ownBlock ∧ some k_ ≠ (.slice Ao89 t335.length co89 : Value).ownBlock ∧ some k_ ≠ (.slice Ao95 y338.length co95 : Value).ownBlock ∧ some k_ ≠ (.slice Ao96 t341.length co96 : Value).ownBlock ∧ some k_ ≠ (.slice Ao92 t344.length co92 : Value).ownBlock ∧ some k_ ≠ (.slice Ao99 t348.length co99 : Value).ownBlock ∧ some k_ ≠ (v353 : Value).ownBlock ∧ some k_ ≠ (s_ : Value).ownBlock) (.slice A0 l0.length c0) l0) ∧ (Kd.V k35 35 w' w.heap.size (fun k_ => ((P0_ k_ ∨ P1_ k_) ∨ w.heap.size ≤ k_) ∧ some k_ ≠ (.slice Ao94 y329.length co94 : Value).ownBlock ∧ some k_ ≠ (.slice Ao89 t335.length co89 : Value).ownBlock ∧ some k_ ≠ (.slice Ao95 y338.length co95 : Value).ownBlock ∧ some k_ ≠ (.slice Ao96 t341.length co96 : Value).ownBlock ∧ some k_ ≠ (.slice Ao92 t344.length co92 : Value).ownBlock ∧ some k_ ≠ (.slice Ao99 t348.length co99 : Value).ownBlock ∧ some k_ ≠ (v353 : Value).ownBlock ∧ some k_ ≠ (s_ : Value).ownBlock) (.slice A1 l1.length c1) l1) ∧ (Below w.heap.size w w')) ?_ ?_
         rotate_left
         ·intro hCont
          refine two_ (i := 7) (j := 9) (Ni := some 47) (Nj := some 49) #[true, true, true, true, true, true, true, true, true, false, false, false, false, false, false, false, false, false, false, false, false, false, false, false, false] #[true, true, true, true, true, true, true, false, true, true, false, false, false, false, false, false, false, false, false, false, false, false, false, false, false] rfl rfl rfl rfl (two_of HT_.out (by kernel_rfl)) (by decide) (by decide) (fun K hK => ?_) (fun K hK => ?_)
          ·skip
           have hcv101 := own_string (P := Tryd.prog) Tryd.underlying22 Tryd.underlying5 Tryd.underlying9 (Kd.own_of_R HO354.out)
           refine value_ (w1 := ?_) (v := ?_) (by rfl) rfl ?_ ?_
           rotate_left 2
           ·go_simp
            constructor
            ·rfl
            ·rfl
           clear hcv101
           refine hK.out _ _ trivial (fun hHeld => ?_)
           clear hK K
           refine norm_ (a' := ?_) ?_ ?_
           rotate_left
           ·show Act.put _ (some 47) _ = _
            simp only [Act.put, List.setIfInBounds_toArray, List.set_cons_zero, List.set_cons_succ, i64_w, i32_w]
            rfl
           refine one_ (i := 9) (N := some 49) #[true, true, true, true, true, true, true, true, true, true, false, false, false, false, false, false, false, false, false, false, false, false, false, false, false] rfl rfl (one_of HT_.out (by kernel_rfl)) (by decide) (fun K hK => ?_)
           refine goes_ Tryd.func25 (by kernel_rfl) rfl #[.slice Ao96 t341.length co96] (by rfl) rfl rfl aP ?_
           with_reducible refine (flongref17_Normal.calls kj3 _ _ t341 t355 _ ?side1 ?side2 A24.out).mono ?_
           (case side1 => repeat (first | exact (Kd.R_reads' HO343.out).2.2 | (with_reducible refine Kd.C_alloc ?_ _) | (with_reducible refine Kd.C_drewN ?_ _) | (with_reducible refine Kd.C_drew ?_)))
           (case side2 => exact (Kd.R_reads' HO343.out).2.1)
           rintro e w102 ⟨v356, rfl, ho0, hb⟩
           refine ⟨_, rfl, ?_⟩
           have n0_ := Aside0.mk (Kd.V_elder' (kV HO_0) (Kd.R_base ho0) hb)
           have n1_ := Aside0.mk (Kd.V_elder' (kV HO_1) (Kd.R_base ho0) hb)
           have n2_ := Aside0.mk (Kd.N_elder' (by (with_reducible repeat (first | apply Kd.N_alloc | apply Kd.N_drewN | apply Kd.N_drew)); exact HO331.out) (Kd.R_base ho0) hb)
           have n3_ := Aside0.mk (Kd.R_below (kR HO337) hb)
           have n4_ := Aside0.mk (Kd.R_below (kR HO340) hb)
           have n5_ := Aside0.mk (Kd.R_elder' (kR HO343) (Kd.R_base ho0) hb)
           have n6_ := Aside0.mk (Kd.R_elder' (kR HO346) (Kd.R_base ho0) hb)
           have n7_ := Aside0.mk (Kd.R_below (kR HO350) hb)
           have n8_ := Aside0.mk (Kd.R_below (kR HO354) hb)
           have n9_ := Aside0.mk (Kd.R_lower (Kd.R_new' (Kd.R_new' (Kd.R_newM (M := fun k_ => (w.heap.size ≤ k_)) ho0 (below_size bA) (fun k_ h_ => h_)) (Kd.R_lt (kR HO343))) (Kd.R_lt (kR HO346))) (below_size bA))
           have n10_ := Aside0.mk (below_step bA hb)
           clear HO_0
           clear HO_1
           clear HO331
           clear HO337
           clear HO340
           clear HO343
           clear HO346
           clear HO350
           clear HO354
           clear HB
           have HO_0 := n0_
           have HO_1 := n1_
           have HO331 := n2_
           have HO337 := n3_
           have HO340 := n4_
           have HO343 := n5_
           have HO346 := n6_
           have HO350 := n7_
           have HO354 := n8_
           have HO357 := n9_
           have HB := n10_
           clear n0_ n1_ n2_ n3_ n4_ n5_ n6_ n7_ n8_ n9_ n10_
           (try clear hb)
           (try clear hb2)
           (try clear hk)
           (try clear hi)
           (try clear ho0)
           obtain ⟨Ao103, co103, eo103⟩ := Kd.R_slice HO357.out
           (first | subst eo103 | (injection eo103 with f1_ f2_ f3_; have f4_ := f1_.symm; have f5_ := f3_.symm; clear f1_ f2_ f3_; subst f4_; subst f5_))
           refine hK.out _ _ trivial (fun hHeld => ?_)
           clear hK K
           refine norm_ (a' := ?_) ?_ ?_
           rotate_left
           ·show Act.put _ (some 49) _ = _
            simp only [Act.put, List.setIfInBounds_toArray, List.set_cons_zero, List.set_cons_succ, i64_w, i32_w]
            rfl
           refine one_ (i := 10) (N := some 50) #[true, true, true, true, true, true, true, true, true, true, true, false, false, false, false, false, false, false, false, false, false, false, false, false, false] rfl rfl (one_of HT_.out (by kernel_rfl)) (by decide) (fun K hK => ?_)
           refine goes_ Tryd.func24 (by kernel_rfl) rfl #[.slice Ao103 t355.length co103] (by rfl) rfl rfl aP ?_
           with_reducible refine (flongref03_Text.calls kj3 _ _ t355 t358 _ ?side1 ?side2 A25.out).mono ?_
           (case side1 => repeat (first | exact (Kd.R_reads' HO357.out).2.2 | (with_reducible refine Kd.C_alloc ?_ _) | (with_reducible refine Kd.C_drewN ?_ _) | (with_reducible refine Kd.C_drew ?_)))
           (case side2 => exact (Kd.R_reads' HO357.out).2.1)
           rintro e w104 ⟨rfl, hb⟩
           refine ⟨_, rfl, ?_⟩
           have n0_ := Aside0.mk (Kd.V_below (kV HO_0) hb)
           have n1_ := Aside0.mk (Kd.V_below (kV HO_1) hb)
           have n2_ := Aside0.mk (Kd.N_below (by (with_reducible repeat (first | apply Kd.N_alloc | apply Kd.N_drewN | apply Kd.N_drew)); exact HO331.out) hb)
           have n3_ := Aside0.mk (Kd.R_below (kR HO337) hb)
           have n4_ := Aside0.mk (Kd.R_below (kR HO340) hb)
           have n5_ := Aside0.mk (Kd.R_below (kR HO343) hb)
           have n6_ := Aside0.mk (Kd.R_below (kR HO346) hb)
           have n7_ := Aside0.mk (Kd.R_below (kR HO350) hb)
           have n8_ := Aside0.mk (Kd.R_below (kR HO354) hb)
           have n9_ := Aside0.mk (Kd.R_below (kR HO357) hb)
           have n10_ := Aside0.mk (below_step bA hb)
           clear HO_0
           clear HO_1
           clear HO331
           clear HO337
           clear HO340
           clear HO343
           clear HO346
           clear HO350
           clear HO354
           clear HO357
           clear HB
           have HO_0 := n0_
           have HO_1 := n1_
           have HO331 := n2_
           have HO337 := n3_
           have HO340 := n4_
           have HO343 := n5_
           have HO346 := n6_
           have HO350 := n7_
           have HO354 := n8_
           have HO357 := n9_
           have HB := n10_
           clear n0_ n1_ n2_ n3_ n4_ n5_ n6_ n7_ n8_ n9_ n10_
           (try clear hb)
           (try clear hb2)
           (try clear hk)
           (try clear hi)
           refine hK.out _ _ trivial (fun hHeld => ?_)
           clear hK K
           refine norm_ (a' := ?_) ?_ ?_
           rotate_left
           ·show Act.put _ (some 50) _ = _
            simp only [Act.put, List.setIfInBounds_toArray, List.set_cons_zero, List.set_cons_succ, i64_w, i32_w]
            rfl
           exact norm_ (by simp only [putAll, Act.put, List.setIfInBounds_toArray, List.set_cons_zero, List.set_cons_succ]) (hCont (.slice Ao103 t355.length co103) _ ⟨(by (with_reducible repeat (first | apply Kd.N_alloc | apply Kd.N_drewN | apply Kd.N_drew)); exact Kd.N_mono HO331.out (fun _ hk => ⟨hk.1.1.1.1.1.1.1, ⟨hk.1.1.1.1.1.1.2, ⟨hk.1.1.1.1.1.2, ⟨hk.1.1.1.1.2, ⟨hk.1.1.1.2, ⟨hk.1.1.2, ⟨hk.1.2, hk.2⟩⟩⟩⟩⟩⟩⟩)), (by (with_reducible repeat (first | apply Kd.R_alloc | apply Kd.R_drewN | apply Kd.R_drew)); exact Kd.R_mono HO337.out (fun _ hk => ⟨hk.1.1.1, ⟨hk.1.1.2, ⟨hk.1.2, hk.2⟩⟩⟩)), (by (with_reducible repeat (first | apply Kd.R_alloc | apply Kd.R_drewN | apply Kd.R_drew)); exact Kd.R_mono HO340.out (fun _ hk => ⟨hk.1.1.1, ⟨hk.1.1.2, ⟨hk.1.2, hk.2⟩⟩⟩)), (by (with_reducible repeat (first | apply Kd.R_alloc | apply Kd.R_drewN | apply Kd.R_drew)); exact Kd.R_mono HO343.out (fun _ hk => ⟨hk.1.1.1, ⟨hk.1.2, hk.2⟩⟩)), (by (with_reducible repeat (first | apply Kd.R_alloc | apply Kd.R_drewN | apply Kd.R_drew)); exact Kd.R_mono HO346.out (fun _ hk => ⟨hk.1.1.1, ⟨hk.1.2, hk.2⟩⟩)), (by (with_reducible repeat (first | apply Kd.R_alloc | apply Kd.R_drewN | apply Kd.R_drew)); exact Kd.R_mono HO350.out (fun _ hk => ⟨hk.1.1.1.1, ⟨hk.1.1.2, ⟨hk.1.2, hk.2⟩⟩⟩)), (by (with_reducible repeat (first | apply Kd.R_alloc | apply Kd.R_drewN | apply Kd.R_drew)); exact Kd.R_mono HO354.out (fun _ hk => ⟨hk.1.1.1.1, ⟨hk.1.1.2, ⟨hk.1.2, hk.2⟩⟩⟩)), (by (with_reducible repeat (first | apply Kd.R_alloc | apply Kd.R_drewN | apply Kd.R_drew)); exact Kd.R_mono HO357.out (fun _ hk => ⟨hk.1.1.1, ⟨hk.1.2, hk.2⟩⟩)), (by (with_reducible repeat (first | apply Kd.V_alloc | apply Kd.V_drewN | apply Kd.V_drew)); exact Kd.V_mono HO_0.out (fun _ hk => ⟨hk.1.1.1.1.1.1.1, ⟨hk.1.1.1.1.1.1.2.1, ⟨hk.1.1.1.1.1.1.2.2, ⟨hk.1.1.1.1.1.2, ⟨hk.1.1.1.1.2, ⟨hk.1.1.1.2, ⟨hk.1.1.2, ⟨hk.1.2, hk.2⟩⟩⟩⟩⟩⟩⟩⟩)), (by (with_reducible repeat (first | apply Kd.V_alloc | apply Kd.V_drewN | apply Kd.V_drew)); exact Kd.V_mono HO_1.out (fun _ hk => ⟨hk.1.1.1.1.1.1.1, ⟨hk.1.1.1.1.1.1.2.1, ⟨hk.1.1.1.1.1.1.2.2, ⟨hk.1.1.1.1.1.2, ⟨hk.1.1.1.1.2, ⟨hk.1.1.1.2, ⟨hk.1.1.2, ⟨hk.1.2, hk.2⟩⟩⟩⟩⟩⟩⟩⟩)), bA⟩)
          ·skip
           refine goes_ Tryd.func25 (by kernel_rfl) rfl #[.slice Ao96 t341.length co96] (by rfl) rfl rfl aP ?_
           with_reducible refine (flongref17_Normal.calls kj3 _ _ t341 t355 _ ?side1 ?side2 A24.out).mono ?_
           (case side1 => repeat (first | exact (Kd.R_reads' HO343.out).2.2 | (with_reducible refine Kd.C_alloc ?_ _) | (with_reducible refine Kd.C_drewN ?_ _) | (with_reducible refine Kd.C_drew ?_)))
           (case side2 => exact (Kd.R_reads' HO343.out).2.1)
           rintro e w101 ⟨v356, rfl, ho0, hb⟩
           refine ⟨_, rfl, ?_⟩
           have n0_ := Aside0.mk (Kd.V_elder' (kV HO_0) (Kd.R_base ho0) hb)
           have n1_ := Aside0.mk (Kd.V_elder' (kV HO_1) (Kd.R_base ho0) hb)
           have n2_ := Aside0.mk (Kd.N_elder' (by (with_reducible repeat (first | apply Kd.N_alloc | apply Kd.N_drewN | apply Kd.N_drew)); exact HO331.out) (Kd.R_base ho0) hb)
           have n3_ := Aside0.mk (Kd.R_below (kR HO337) hb)
           have n4_ := Aside0.mk (Kd.R_below (kR HO340) hb)
           have n5_ := Aside0.mk (Kd.R_elder' (kR HO343) (Kd.R_base ho0) hb)
           have n6_ := Aside0.mk (Kd.R_elder' (kR HO346) (Kd.R_base ho0) hb)
           have n7_ := Aside0.mk (Kd.R_below (kR HO350) hb)
           have n8_ := Aside0.mk (Kd.R_below (kR HO354) hb)
           have n9_ := Aside0.mk (Kd.R_lower (Kd.R_new' (Kd.R_new' (Kd.R_newM (M := fun k_ => (w.heap.size ≤ k_)) ho0 (below_size bA) (fun k_ h_ => h_)) (Kd.R_lt (kR HO343))) (Kd.R_lt (kR HO346))) (below_size bA))
           have n10_ := Aside0.mk (below_step bA hb)
           clear HO_0
           clear HO_1
           clear HO331
           clear HO337
           clear HO340
           clear HO343
           clear HO346
           clear HO350
           clear HO354
           clear HB
           have HO_0 := n0_
           have HO_1 := n1_
           have HO331 := n2_
           have HO337 := n3_
           have HO340 := n4_
           have HO343 := n5_
           have HO346 := n6_
           have HO350 := n7_
           have HO354 := n8_
           have HO357 := n9_
           have HB := n10_
           clear n0_ n1_ n2_ n3_ n4_ n5_ n6_ n7_ n8_ n9_ n10_
           (try clear hb)
           (try clear hb2)
           (try clear hk)
           (try clear hi)
           (try clear ho0)
           obtain ⟨Ao103, co103, eo103⟩ := Kd.R_slice HO357.out
           (first | subst eo103 | (injection eo103 with f1_ f2_ f3_; have f4_ := f1_.symm; have f5_ := f3_.symm; clear f1_ f2_ f3_; subst f4_; subst f5_))
           refine hK.out _ _ trivial (fun hHeld => ?_)
           clear hK K
           refine norm_ (a' := ?_) ?_ ?_
           rotate_left
           ·show Act.put _ (some 49) _ = _
            simp only [Act.put, List.setIfInBounds_toArray, List.set_cons_zero, List.set_cons_succ, i64_w, i32_w]
            rfl
           refine two_ (i := 7) (j := 10) (Ni := some 47) (Nj := some 50) #[true, true, true, true, true, true, true, true, true, true, false, false, false, false, false, false, false, false, false, false, false, false, false, false, false] #[true, true, true, true, true, true, true, false, true, true, true, false, false, false, false, false, false, false, false, false, false, false, false, false, false] rfl rfl rfl rfl (two_of HT_.out (by kernel_rfl)) (by decide) (by decide) (fun K hK => ?_) (fun K hK => ?_)
           ·skip
            have hcv102 := own_string (P := Tryd.prog) Tryd.underlying22 Tryd.underlying5 Tryd.underlying9 (Kd.own_of_R HO354.out)
            refine value_ (w1 := ?_) (v := ?_) (by rfl) rfl ?_ ?_
            rotate_left 2
            ·go_simp
             constructor
             ·rfl
             ·rfl
            clear hcv102
            refine hK.out _ _ trivial (fun hHeld => ?_)
            clear hK K
            refine norm_ (a' := ?_) ?_ ?_
            rotate_left
            ·show Act.put _ (some 47) _ = _
             simp only [Act.put, List.setIfInBounds_toArray, List.set_cons_zero, List.set_cons_succ, i64_w, i32_w]
             rfl
            refine one_ (i := 10) (N := some 50) #[true, true, true, true, true, true, true, true, true, true, true, false, false, false, false, false, false, false, false, false, false, false, false, false, false] rfl rfl (one_of HT_.out (by kernel_rfl)) (by decide) (fun K hK => ?_)
            refine goes_ Tryd.func24 (by kernel_rfl) rfl #[.slice Ao103 t355.length co103] (by rfl) rfl rfl aP ?_
            with_reducible refine (flongref03_Text.calls kj3 _ _ t355 t358 _ ?side1 ?side2 A25.out).mono ?_
            (case side1 => repeat (first | exact (Kd.R_reads' HO357.out).2.2 | (with_reducible refine Kd.C_alloc ?_ _) | (with_reducible refine Kd.C_drewN ?_ _) | (with_reducible refine Kd.C_drew ?_)))
            (case side2 => exact (Kd.R_reads' HO357.out).2.1)
            rintro e w104 ⟨rfl, hb⟩
            refine ⟨_, rfl, ?_⟩
            have n0_ := Aside0.mk (Kd.V_below (kV HO_0) hb)
            have n1_ := Aside0.mk (Kd.V_below (kV HO_1) hb)
            have n2_ := Aside0.mk (Kd.N_below (by (with_reducible repeat (first | apply Kd.N_alloc | apply Kd.N_drewN | apply Kd.N_drew)); exact HO331.out) hb)
            have n3_ := Aside0.mk (Kd.R_below (kR HO337) hb)
            have n4_ := Aside0.mk (Kd.R_below (kR HO340) hb)
            have n5_ := Aside0.mk (Kd.R_below (kR HO343) hb)
            have n6_ := Aside0.mk (Kd.R_below (kR HO346) hb)
            have n7_ := Aside0.mk (Kd.R_below (kR HO350) hb)
            have n8_ := Aside0.mk (Kd.R_below (kR HO354) hb)
            have n9_ := Aside0.mk (Kd.R_below (kR HO357) hb)
            have n10_ := Aside0.mk (below_step bA hb)
            clear HO_0
            clear HO_1
            clear HO331
            clear HO337
            clear HO340
            clear HO343
            clear HO346
            clear HO350
            clear HO354
            clear HO357
            clear HB
            have HO_0 := n0_
            have HO_1 := n1_
            have HO331 := n2_
            have HO337 := n3_
            have HO340 := n4_
            have HO343 := n5_
            have HO346 := n6_
            have HO350 := n7_
            have HO354 := n8_
            have HO357 := n9_
            have HB := n10_
            clear n0_ n1_ n2_ n3_ n4_ n5_ n6_ n7_ n8_ n9_ n10_
            (try clear hb)
            (try clear hb2)
            (try clear hk)
            (try clear hi)
            refine hK.out _ _ trivial (fun hHeld => ?_)
            clear hK K
            refine norm_ (a' := ?_) ?_ ?_
            rotate_left
            ·show Act.put _ (some 50) _ = _
             simp only [Act.put, List.setIfInBounds_toArray, List.set_cons_zero, List.set_cons_succ, i64_w, i32_w]
             rfl
            exact norm_ (by simp only [putAll, Act.put, List.setIfInBounds_toArray, List.set_cons_zero, List.set_cons_succ]) (hCont (.slice Ao103 t355.length co103) _ ⟨(by (with_reducible repeat (first | apply Kd.N_alloc | apply Kd.N_drewN | apply Kd.N_drew)); exact Kd.N_mono HO331.out (fun _ hk => ⟨hk.1.1.1.1.1.1.1, ⟨hk.1.1.1.1.1.1.2, ⟨hk.1.1.1.1.1.2, ⟨hk.1.1.1.1.2, ⟨hk.1.1.1.2, ⟨hk.1.1.2, ⟨hk.1.2, hk.2⟩⟩⟩⟩⟩⟩⟩)), (by (with_reducible repeat (first | apply Kd.R_alloc | apply Kd.R_drewN | apply Kd.R_drew)); exact Kd.R_mono HO337.out (fun _ hk => ⟨hk.1.1.1, ⟨hk.1.1.2, ⟨hk.1.2, hk.2⟩⟩⟩)), (by (with_reducible repeat (first | apply Kd.R_alloc | apply Kd.R_drewN | apply Kd.R_drew)); exact Kd.R_mono HO340.out (fun _ hk => ⟨hk.1.1.1, ⟨hk.1.1.2, ⟨hk.1.2, hk.2⟩⟩⟩)), (by (with_reducible repeat (first | apply Kd.R_alloc | apply Kd.R_drewN | apply Kd.R_drew)); exact Kd.R_mono HO343.out (fun _ hk => ⟨hk.1.1.1, ⟨hk.1.2, hk.2⟩⟩)), (by (with_reducible repeat (first | apply Kd.R_alloc | apply Kd.R_drewN | apply Kd.R_drew)); exact Kd.R_mono HO346.out (fun _ hk => ⟨hk.1.1.1, ⟨hk.1.2, hk.2⟩⟩)), (by (with_reducible repeat (first | apply Kd.R_alloc | apply Kd.R_drewN | apply Kd.R_drew)); exact Kd.R_mono HO350.out (fun _ hk => ⟨hk.1.1.1.1, ⟨hk.1.1.2, ⟨hk.1.2, hk.2⟩⟩⟩)), (by (with_reducible repeat (first | apply Kd.R_alloc | apply Kd.R_drewN | apply Kd.R_drew)); exact Kd.R_mono HO354.out (fun _ hk => ⟨hk.1.1.1.1, ⟨hk.1.1.2, ⟨hk.1.2, hk.2⟩⟩⟩)), (by (with_reducible repeat (first | apply Kd.R_alloc | apply Kd.R_drewN | apply Kd.R_drew)); exact Kd.R_mono HO357.out (fun _ hk => ⟨hk.1.1.1, ⟨hk.1.2, hk.2⟩⟩)), (by (with_reducible repeat (first | apply Kd.V_alloc | apply Kd.V_drewN | apply Kd.V_drew)); exact Kd.V_mono HO_0.out (fun _ hk => ⟨hk.1.1.1.1.1.1.1, ⟨hk.1.1.1.1.1.1.2.1, ⟨hk.1.1.1.1.1.1.2.2, ⟨hk.1.1.1.1.1.2, ⟨hk.1.1.1.1.2, ⟨hk.1.1.1.2, ⟨hk.1.1.2, ⟨hk.1.2, hk.2⟩⟩⟩⟩⟩⟩⟩⟩)), (by (with_reducible repeat (first | apply Kd.V_alloc | apply Kd.V_drewN | apply Kd.V_drew)); exact Kd.V_mono HO_1.out (fun _ hk => ⟨hk.1.1.1.1.1.1.1, ⟨hk.1.1.1.1.1.1.2.1, ⟨hk.1.1.1.1.1.1.2.2, ⟨hk.1.1.1.1.1.2, ⟨hk.1.1.1.1.2, ⟨hk.1.1.1.2, ⟨hk.1.1.2, ⟨hk.1.2, hk.2⟩⟩⟩⟩⟩⟩⟩⟩)), bA⟩)
           ·skip
            refine goes_ Tryd.func24 (by kernel_rfl) rfl #[.slice Ao103 t355.length co103] (by rfl) rfl rfl aP ?_
            with_reducible refine (flongref03_Text.calls kj3 _ _ t355 t358 _ ?side1 ?side2 A25.out).mono ?_
            (case side1 => repeat (first | exact (Kd.R_reads' HO357.out).2.2 | (with_reducible refine Kd.C_alloc ?_ _) | (with_reducible refine Kd.C_drewN ?_ _) | (with_reducible refine Kd.C_drew ?_)))
            (case side2 => exact (Kd.R_reads' HO357.out).2.1)
            rintro e w103 ⟨rfl, hb⟩
            refine ⟨_, rfl, ?_⟩
            have n0_ := Aside0.mk (Kd.V_below (kV HO_0) hb)
            have n1_ := Aside0.mk (Kd.V_below (kV HO_1) hb)
            have n2_ := Aside0.mk (Kd.N_below (by (with_reducible repeat (first | apply Kd.N_alloc | apply Kd.N_drewN | apply Kd.N_drew)); exact HO331.out) hb)
            have n3_ := Aside0.mk (Kd.R_below (kR HO337) hb)
            have n4_ := Aside0.mk (Kd.R_below (kR HO340) hb)
            have n5_ := Aside0.mk (Kd.R_below (kR HO343) hb)
            have n6_ := Aside0.mk (Kd.R_below (kR HO346) hb)
            have n7_ := Aside0.mk (Kd.R_below (kR HO350) hb)
            have n8_ := Aside0.mk (Kd.R_below (kR HO354) hb)
            have n9_ := Aside0.mk (Kd.R_below (kR HO357) hb)
            have n10_ := Aside0.mk (below_step bA hb)
            clear HO_0
            clear HO_1
            clear HO331
            clear HO337
            clear HO340
            clear HO343
            clear HO346
            clear HO350
            clear HO354
            clear HO357
            clear HB
            have HO_0 := n0_
            have HO_1 := n1_
            have HO331 := n2_
            have HO337 := n3_
            have HO340 := n4_
            have HO343 := n5_
            have HO346 := n6_
            have HO350 := n7_
            have HO354 := n8_
            have HO357 := n9_
            have HB := n10_
            clear n0_ n1_ n2_ n3_ n4_ n5_ n6_ n7_ n8_ n9_ n10_
            (try clear hb)
            (try clear hb2)
            (try clear hk)
            (try clear hi)
            refine hK.out _ _ trivial (fun hHeld => ?_)
            clear hK K
            refine norm_ (a' := ?_) ?_ ?_
            rotate_left
            ·show Act.put _ (some 50) _ = _
             simp only [Act.put, List.setIfInBounds_toArray, List.set_cons_zero, List.set_cons_succ, i64_w, i32_w]
             rfl
            refine one_ (i := 7) (N := some 47) #[true, true, true, true, true, true, true, true, true, true, true, false, false, false, false, false, false, false, false, false, false, false, false, false, false] rfl rfl (one_of HT_.out (by kernel_rfl)) (by decide) (fun K hK => ?_)
            have hcv104 := own_string (P := Tryd.prog) Tryd.underlying22 Tryd.underlying5 Tryd.underlying9 (Kd.own_of_R HO354.out)
            refine value_ (w1 := ?_) (v := ?_) (by rfl) rfl ?_ ?_
            rotate_left 2
            ·go_simp
             constructor
             ·rfl
             ·rfl
            clear hcv104
            refine hK.out _ _ trivial (fun hHeld => ?_)
            clear hK K
            refine norm_ (a' := ?_) ?_ ?_
            rotate_left
            ·show Act.put _ (some 47) _ = _
             simp only [Act.put, List.setIfInBounds_toArray, List.set_cons_zero, List.set_cons_succ, i64_w, i32_w]
             rfl
            exact norm_ (by simp only [putAll, Act.put, List.setIfInBounds_toArray, List.set_cons_zero, List.set_cons_succ]) (hCont (.slice Ao103 t355.length co103) _ ⟨(by (with_reducible repeat (first | apply Kd.N_alloc | apply Kd.N_drewN | apply Kd.N_drew)); exact Kd.N_mono HO331.out (fun _ hk => ⟨hk.1.1.1.1.1.1.1, ⟨hk.1.1.1.1.1.1.2, ⟨hk.1.1.1.1.1.2, ⟨hk.1.1.1.1.2, ⟨hk.1.1.1.2, ⟨hk.1.1.2, ⟨hk.1.2, hk.2⟩⟩⟩⟩⟩⟩⟩)), (by (with_reducible repeat (first | apply Kd.R_alloc | apply Kd.R_drewN | apply Kd.R_drew)); exact Kd.R_mono HO337.out (fun _ hk => ⟨hk.1.1.1, ⟨hk.1.1.2, ⟨hk.1.2, hk.2⟩⟩⟩)), (by (with_reducible repeat (first | apply Kd.R_alloc | apply Kd.R_drewN | apply Kd.R_drew)); exact Kd.R_mono HO340.out (fun _ hk => ⟨hk.1.1.1, ⟨hk.1.1.2, ⟨hk.1.2, hk.2⟩⟩⟩)), (by (with_reducible repeat (first | apply Kd.R_alloc | apply Kd.R_drewN | apply Kd.R_drew)); exact Kd.R_mono HO343.out (fun _ hk => ⟨hk.1.1.1, ⟨hk.1.2, hk.2⟩⟩)), (by (with_reducible repeat (first | apply Kd.R_alloc | apply Kd.R_drewN | apply Kd.R_drew)); exact Kd.R_mono HO346.out (fun _ hk => ⟨hk.1.1.1, ⟨hk.1.2, hk.2⟩⟩)), (by (with_reducible repeat (first | apply Kd.R_alloc | apply Kd.R_drewN | apply Kd.R_drew)); exact Kd.R_mono HO350.out (fun _ hk => ⟨hk.1.1.1.1, ⟨hk.1.1.2, ⟨hk.1.2, hk.2⟩⟩⟩)), (by (with_reducible repeat (first | apply Kd.R_alloc | apply Kd.R_drewN | apply Kd.R_drew)); exact Kd.R_mono HO354.out (fun _ hk => ⟨hk.1.1.1.1, ⟨hk.1.1.2, ⟨hk.1.2, hk.2⟩⟩⟩)), (by (with_reducible repeat (first | apply Kd.R_alloc | apply Kd.R_drewN | apply Kd.R_drew)); exact Kd.R_mono HO357.out (fun _ hk => ⟨hk.1.1.1, ⟨hk.1.2, hk.2⟩⟩)), (by (with_reducible repeat (first | apply Kd.V_alloc | apply Kd.V_drewN | apply Kd.V_drew)); exact Kd.V_mono HO_0.out (fun _ hk => ⟨hk.1.1.1.1.1.1.1, ⟨hk.1.1.1.1.1.1.2.1, ⟨hk.1.1.1.1.1.1.2.2, ⟨hk.1.1.1.1.1.2, ⟨hk.1.1.1.1.2, ⟨hk.1.1.1.2, ⟨hk.1.1.2, ⟨hk.1.2, hk.2⟩⟩⟩⟩⟩⟩⟩⟩)), (by (with_reducible repeat (first | apply Kd.V_alloc | apply Kd.V_drewN | apply Kd.V_drew)); exact Kd.V_mono HO_1.out (fun _ hk => ⟨hk.1.1.1.1.1.1.1, ⟨hk.1.1.1.1.1.1.2.1, ⟨hk.1.1.1.1.1.1.2.2, ⟨hk.1.1.1.1.1.2, ⟨hk.1.1.1.1.2, ⟨hk.1.1.1.2, ⟨hk.1.1.2, ⟨hk.1.2, hk.2⟩⟩⟩⟩⟩⟩⟩⟩)), bA⟩)
         rintro v356 w105 ⟨h0_, h1_, h2_, h3_, h4_, h5_, h6_, h7_, h8_, h9_, h10_⟩
         have n0_ : Aside0 (Kd.N k35 35 w105 w.heap.size (fun k_ => ((P0_ k_ ∨ P1_ k_) ∨ w.heap.size ≤ k_) ∧ some k_ ≠ (.slice Ao89 t335.length co89 : Value).ownBlock ∧ some k_ ≠ (.slice Ao95 y338.length co95 : Value).ownBlock ∧ some k_ ≠ (.slice Ao96 t341.length co96 : Value).ownBlock ∧ some k_ ≠ (.slice Ao92 t344.length co92 : Value).ownBlock ∧ some k_ ≠ (.slice Ao99 t348.length co99 : Value).ownBlock ∧ some k_ ≠ (v353 : Value).ownBlock ∧ some k_ ≠ (v356 : Value).ownBlock) (.slice Ao94 y329.length co94) y329) := ⟨h0_⟩
         have n1_ : Aside0 (Kd.R (Kd.int .u8) 5 w105 w.heap.size (fun k_ => (w.heap.size ≤ k_) ∧ some k_ ≠ (.slice Ao95 y338.length co95 : Value).ownBlock ∧ some k_ ≠ (.slice Ao99 t348.length co99 : Value).ownBlock ∧ some k_ ≠ (v353 : Value).ownBlock) (.slice Ao89 t335.length co89) t335) := ⟨h1_⟩
         have n2_ : Aside0 (Kd.R (Kd.int .u8) 5 w105 w.heap.size (fun k_ => (w.heap.size ≤ k_) ∧ some k_ ≠ (.slice Ao89 t335.length co89 : Value).ownBlock ∧ some k_ ≠ (.slice Ao99 t348.length co99 : Value).ownBlock ∧ some k_ ≠ (v353 : Value).ownBlock) (.slice Ao95 y338.length co95) y338) := ⟨h2_⟩
         have n3_ : Aside0 (Kd.R k44 44 w105 w.heap.size (fun k_ => (w.heap.size ≤ k_) ∧ some k_ ≠ (.slice Ao92 t344.length co92 : Value).ownBlock ∧ some k_ ≠ (v356 : Value).ownBlock) (.slice Ao96 t341.length co96) t341) := ⟨h3_⟩
         have n4_ : Aside0 (Kd.R k44 44 w105 w.heap.size (fun k_ => (w.heap.size ≤ k_) ∧ some k_ ≠ (.slice Ao96 t341.length co96 : Value).ownBlock ∧ some k_ ≠ (v356 : Value).ownBlock) (.slice Ao92 t344.length co92) t344) := ⟨h4_⟩
         have n5_ : Aside0 (Kd.R (Kd.int .u8) 5 w105 w.heap.size (fun k_ => (w.heap.size ≤ k_) ∧ some k_ ≠ (.slice Ao89 t335.length co89 : Value).ownBlock ∧ some k_ ≠ (.slice Ao95 y338.length co95 : Value).ownBlock ∧ some k_ ≠ (v353 : Value).ownBlock) (.slice Ao99 t348.length co99) t348) := ⟨h5_⟩
         have n6_ : Aside0 (Kd.R (Kd.int .u8) 5 w105 w.heap.size (fun k_ => (w.heap.size ≤ k_) ∧ some k_ ≠ (.slice Ao89 t335.length co89 : Value).ownBlock ∧ some k_ ≠ (.slice Ao95 y338.length co95 : Value).ownBlock ∧ some k_ ≠ (.slice Ao99 t348.length co99 : Value).ownBlock) v353 t352) := ⟨h6_⟩
         have n7_ : Aside0 (Kd.R k44 44 w105 w.heap.size (fun k_ => (w.heap.size ≤ k_) ∧ some k_ ≠ (.slice Ao96 t341.length co96 : Value).ownBlock ∧ some k_ ≠ (.slice Ao92 t344.length co92 : Value).ownBlock) v356 t355) := ⟨h7_⟩
         have n8_ : Aside0 (Kd.V k35 35 w105 w.heap.size (fun k_ => ((P0_ k_ ∨ P1_ k_) ∨ w.heap.size ≤ k_) ∧ some k_ ≠ (.slice Ao94 y329.length co94 : Value).ownBlock ∧ some k_ ≠ (.slice Ao89 t335.length co89 : Value).ownBlock ∧ some k_ ≠ (.slice Ao95 y338.length co95 : Value).ownBlock ∧ some k_ ≠ (.slice Ao96 t341.length co96 : Value).ownBlock ∧ some k_ ≠ (.slice Ao92 t344.length co92 : Value).ownBlock ∧ some k_ ≠ (.slice Ao99 t348.length co99 : Value).ownBlock ∧ some k_ ≠ (v353 : Value).ownBlock ∧ some k_ ≠ (v356 : Value).ownBlock) (.slice A0 l0.length c0) l0) := ⟨h8_⟩
         have n9_ : Aside0 (Kd.V k35 35 w105 w.heap.size (fun k_ => ((P0_ k_ ∨ P1_ k_) ∨ w.heap.size ≤ k_) ∧ some k_ ≠ (.slice Ao94 y329.length co94 : Value).ownBlock ∧ some k_ ≠ (.slice Ao89 t335.length co89 : Value).ownBlock ∧ some k_ ≠ (.slice Ao95 y338.length co95 : Value).ownBlock ∧ some k_ ≠ (.slice Ao96 t341.length co96 : Value).ownBlock ∧ some k_ ≠ (.slice Ao92 t344.length co92 : Value).ownBlock ∧ some k_ ≠ (.slice Ao99 t348.length co99 : Value).ownBlock ∧ some k_ ≠ (v353 : Value).ownBlock ∧ some k_ ≠ (v356 : Value).ownBlock) (.slice A1 l1.length c1) l1) := ⟨h9_⟩
         have n10_ : Aside0 (Below w.heap.size w w105) := ⟨h10_⟩
         clear HO_0
         clear HO_1
         clear HO331
         clear HO337
         clear HO340
         clear HO343
         clear HO346
         clear HB
         clear h0_ h1_ h2_ h3_ h4_ h5_ h6_ h7_ h8_ h9_ h10_
         have HO331 := n0_
         have HO337 := n1_
         have HO340 := n2_
         have HO343 := n3_
         have HO346 := n4_
         have HO350 := n5_
         have HO354 := n6_
         have HO357 := n7_
         have HO_0 := n8_
         have HO_1 := n9_
         have HB := n10_
         clear n0_ n1_ n2_ n3_ n4_ n5_ n6_ n7_ n8_ n9_ n10_
         have hHeld := trivial
         refine norm_ (a' := ?_) ?_ ?_
         rotate_left
         ·simp only [putAll, Act.put, List.setIfInBounds_toArray, List.set_cons_zero, List.set_cons_succ]
          rfl
         refine pure_ (i := 11) (N := some 51) (v := ?_) (a' := ?_) #[true, true, true, true, true, true, true, true, true, true, true, true, false, false, false, false, false, false, false, false, false, false, false, false, false] rfl rfl (any_of HT_.out (by kernel_rfl)) (fun _ _ _ h => h) (Or.inl ⟨by rfl, ?_⟩) ?_ ?_
         rotate_left
         ·intro w'
          go_simp
          with_reducible rfl
         rotate_left
         ·simp only [Act.put, List.setIfInBounds_toArray, List.set_cons_zero, List.set_cons_succ, i64_w, i32_w]
          rfl
         refine pure_ (i := 12) (N := some 52) (v := ?_) (a' := ?_) #[true, true, true, true, true, true, true, true, true, true, true, true, true, false, false, false, false, false, false, false, false, false, false, false, false] rfl rfl (any_of HT_.out (by kernel_rfl)) (fun _ _ _ h => h) (Or.inl ⟨by rfl, ?_⟩) ?_ ?_
         rotate_left
         ·intro w'
          go_simp
          with_reducible rfl
         rotate_left
         ·simp only [Act.put, List.setIfInBounds_toArray, List.set_cons_zero, List.set_cons_succ, i64_w, i32_w]
          rfl
         refine pure_ (i := 13) (N := some 53) (v := ?_) (a' := ?_) #[true, true, true, true, true, true, true, true, true, true, true, true, true, true, false, false, false, false, false, false, false, false, false, false, false] rfl rfl (any_of HT_.out (by kernel_rfl)) (fun _ _ _ h => h) (Or.inl ⟨by rfl, ?_⟩) ?_ ?_
         rotate_left
         ·intro w'
          go_simp
          with_reducible rfl
         rotate_left
         ·simp only [Act.put, List.setIfInBounds_toArray, List.set_cons_zero, List.set_cons_succ, i64_w, i32_w]
          rfl
         refine pure_ (i := 14) (N := some 54) (v := undef) (a' := ?_) #[true, true, true, true, true, true, true, true, true, true, true, true, true, true, true, false, false, false, false, false, false, false, false, false, false] rfl rfl (any_of HT_.out (by kernel_rfl)) (fun _ _ _ h => h) (Or.inr ⟨by rfl, rfl⟩) ?_ ?_
         rotate_left
         ·simp only [Act.put, List.setIfInBounds_toArray, List.set_cons_zero, List.set_cons_succ, i64_w, i32_w]
          rfl
         refine pure_ (i := 15) (N := some 55) (v := undef) (a' := ?_) #[true, true, true, true, true, true, true, true, true, true, true, true, true, true, true, true, false, false, false, false, false, false, false, false, false] rfl rfl (any_of HT_.out (by kernel_rfl)) (fun _ _ _ h => h) (Or.inr ⟨by rfl, rfl⟩) ?_ ?_
         rotate_left
         ·simp only [Act.put, List.setIfInBounds_toArray, List.set_cons_zero, List.set_cons_succ, i64_w, i32_w]
          rfl
         refine pure_ (i := 16) (N := some 56) (v := undef) (a' := ?_) #[true, true, true, true, true, true, true, true, true, true, true, true, true, true, true, true, true, false, false, false, false, false, false, false, false] rfl rfl (any_of HT_.out (by kernel_rfl)) (fun _ _ _ h => h) (Or.inr ⟨by rfl, rfl⟩) ?_ ?_
         rotate_left
         ·simp only [Act.put, List.setIfInBounds_toArray, List.set_cons_zero, List.set_cons_succ, i64_w, i32_w]
          rfl
         refine pure_ (i := 17) (N := some 57) (v := undef) (a' := ?_) #[true, true, true, true, true, true, true, true, true, true, true, true, true, true, true, true, true, true, false, false, false, false, false, false, false] rfl rfl (any_of HT_.out (by kernel_rfl)) (fun _ _ _ h => h) (Or.inr ⟨by rfl, rfl⟩) ?_ ?_
         rotate_left
         ·simp only [Act.put, List.setIfInBounds_toArray, List.set_cons_zero, List.set_cons_succ, i64_w, i32_w]
          rfl
         refine pure_ (i := 18) (N := some 58) (v := undef) (a' := ?_) #[true, true, true, true, true, true, true, true, true, true, true, true, true, true, true, true, true, true, true, false, false, false, false, false, false] rfl rfl (any_of HT_.out (by kernel_rfl)) (fun _ _ _ h => h) (Or.inr ⟨by rfl, rfl⟩) ?_ ?_
         rotate_left
         ·simp only [Act.put, List.setIfInBounds_toArray, List.set_cons_zero, List.set_cons_succ, i64_w, i32_w]
          rfl
         refine pure_ (i := 19) (N := some 59) (v := undef) (a' := ?_) #[true, true, true, true, true, true, true, true, true, true, true, true, true, true, true, true, true, true, true, true, false, false, false, false, false] rfl rfl (any_of HT_.out (by kernel_rfl)) (fun _ _ _ h => h) (Or.inr ⟨by rfl, rfl⟩) ?_ ?_
         rotate_left
         ·simp only [Act.put, List.setIfInBounds_toArray, List.set_cons_zero, List.set_cons_succ, i64_w, i32_w]
          rfl
         refine pure_ (i := 20) (N := some 60) (v := ?_) (a' := ?_) #[true, true, true, true, true, true, true, true, true, true, true, true, true, true, true, true, true, true, true, true, true, false, false, false, false] rfl rfl (any_of HT_.out (by kernel_rfl)) (fun _ _ _ h => h) (Or.inl ⟨by rfl, ?_⟩) ?_ ?_
         rotate_left
         ·intro w'
          go_simp
          with_reducible rfl
         rotate_left
         ·simp only [Act.put, List.setIfInBounds_toArray, List.set_cons_zero, List.set_cons_succ, i64_w, i32_w]
          rfl
         refine pure_ (i := 21) (N := some 61) (v := ?_) (a' := ?_) #[true, true, true, true, true, true, true, true, true, true, true, true, true, true, true, true, true, true, true, true, true, true, false, false, false] rfl rfl (any_of HT_.out (by kernel_rfl)) (fun _ _ _ h => h) (Or.inl ⟨by rfl, ?_⟩) ?_ ?_
         rotate_left
         ·intro w'
          go_simp
          with_reducible rfl
         rotate_left
         ·simp only [Act.put, List.setIfInBounds_toArray, List.set_cons_zero, List.set_cons_succ, i64_w, i32_w]
          rfl
         refine pure_ (i := 22) (N := some 62) (v := undef) (a' := ?_) #[true, true, true, true, true, true, true, true, true, true, true, true, true, true, true, true, true, true, true, true, true, true, true, false, false] rfl rfl (any_of HT_.out (by kernel_rfl)) (fun _ _ _ h => h) (Or.inr ⟨by rfl, rfl⟩) ?_ ?_
         rotate_left
         ·simp only [Act.put, List.setIfInBounds_toArray, List.set_cons_zero, List.set_cons_succ, i64_w, i32_w]
          rfl
         refine pure_ (i := 23) (N := some 63) (v := ?_) (a' := ?_) #[true, true, true, true, true, true, true, true, true, true, true, true, true, true, true, true, true, true, true, true, true, true, true, true, false] rfl rfl (any_of HT_.out (by kernel_rfl)) (fun _ _ _ h => h) (Or.inl ⟨by rfl, ?_⟩) ?_ ?_
         rotate_left
         ·intro w'
          go_simp
          with_reducible rfl
         rotate_left
         ·simp only [Act.put, List.setIfInBounds_toArray, List.set_cons_zero, List.set_cons_succ, i64_w, i32_w]
          rfl
         refine pure_ (i := 24) (N := some 6) (v := ?_) (a' := ?_) #[true, true, true, true, true, true, true, true, true, true, true, true, true, true, true, true, true, true, true, true, true, true, true, true, true] rfl rfl (any_of HT_.out (by kernel_rfl)) (fun _ _ _ h => h) (Or.inl ⟨by rfl, ?_⟩) ?_ ?_
         rotate_left
         ·intro w'
          go_simp
          with_reducible rfl
         rotate_left
         ·simp only [Act.put, List.setIfInBounds_toArray, List.set_cons_zero, List.set_cons_succ, i64_w, i32_w]
          rfl
         refine done_ (done_of HT_.out (by kernel_rfl)) ?_
         try go_wp2
         go_ret
         exact ⟨eW, bA⟩
       ·replace c22 := Bool.eq_false_iff.mpr c22
        subst c22
        have H1 : (some false) = some r := by rw [if_neg (show ¬ (false = true) by decide)] at H; exact H
        clear H
        have H := H1
        clear H1
        obtain rfl := Option.some.inj H
        try go_wp2_with (first | ((with_reducible refine gate_builtin (b := .append) (xs := #[.tmp 23, .tmp 24]) rfl ?_); (try (refine gate_guard (by rfl) ?_; dsimp only)); at_builtin; refine Kd.N_append_rows k35 (w0 := w) w.heap.size rfl (.tmp 23) (.tmp 24) 30 35 (.agg #[(.int .i64 0), (.slice none 0 0), (.bool false)]) 40 rfl Tryd.underlying30 info35 rfl (by decide) (by omega) (.slice none 0 0) ([] : List (S35)) l0 _ _ _ (fun k_ => ((P0_ k_ ∨ P1_ k_) ∨ w.heap.size ≤ k_)) (fun k_ => ((fun k_ => ((P0_ k_ ∨ P1_ k_) ∨ w.heap.size ≤ k_))) k_ ∧ some k_ ≠ (.slice none 0 0 : Value).ownBlock) rfl rfl ?aO ?aR (fun _ hk => hk) ?aF ?aB ?aS ?aL ?_; (case aR => exact (by skip; exact Kd.V_F (Kd.V_mono (ok' := (fun k_ => ((fun k_ => ((P0_ k_ ∨ P1_ k_) ∨ w.heap.size ≤ k_))) k_ ∧ some k_ ≠ (.slice none 0 0 : Value).ownBlock)) (HO_0.out) (fun k_ hk => ⟨hk, (by simp [Value.ownBlock])⟩)))); (case aB => exact bA); (case aF => exact (fun k_ hk => (.inr (Nat.le_trans (below_size bA) hk)))); (case aO => exact ((Kd.N_nil _ _ _ _ (fun k_ => ((P0_ k_ ∨ P1_ k_) ∨ w.heap.size ≤ k_))))); (case aS => exact (below_size bA)); (case aL => have := LMc12.out; omega); intro v327 w106 ho hb hg hat; rw [← Ny326.out] at ho; replace HO_0 := Aside0.mk (Kd.V_afterv (Kd.V_apart_nil (kV HO_0)) hg hat); replace HO_1 := Aside0.mk (Kd.V_afterv (Kd.V_apart_nil (kV HO_1)) hg hat); have HO328 := Aside0.mk (ho); replace HB := Aside0.mk (hb); clear ho hb hg hat) | ((with_reducible refine gate_builtin (b := .append) (xs := #[.tmp 26, .tmp 27]) rfl ?_); (try (refine gate_guard (by rfl) ?_; dsimp only)); at_builtin; refine Kd.N_append_rows k35 (w0 := w) w.heap.size rfl (.tmp 26) (.tmp 27) 30 35 (.agg #[(.int .i64 0), (.slice none 0 0), (.bool false)]) 40 rfl Tryd.underlying30 info35 rfl (by decide) (by omega) v327 y326 l1 _ _ _ (fun k_ => ((P0_ k_ ∨ P1_ k_) ∨ w.heap.size ≤ k_)) (fun k_ => ((fun k_ => ((P0_ k_ ∨ P1_ k_) ∨ w.heap.size ≤ k_))) k_ ∧ some k_ ≠ (v327 : Value).ownBlock) rfl rfl ?aO ?aR (fun _ hk => hk) ?aF ?aB ?aS ?aL ?_; (case aR => exact (by skip; exact Kd.V_F (Kd.V_mono (ok' := (fun k_ => ((fun k_ => ((P0_ k_ ∨ P1_ k_) ∨ w.heap.size ≤ k_))) k_ ∧ some k_ ≠ (v327 : Value).ownBlock)) (HO_1.out) (fun k_ hk => ⟨hk.1, hk.2⟩)))); (case aB => exact bA); (case aF => exact (fun k_ hk => (.inr (Nat.le_trans (below_size bA) hk)))); (case aO => exact (by (with_reducible repeat (first | apply Kd.N_alloc | apply Kd.N_drewN | apply Kd.N_drew)); exact HO328.out)); (case aS => exact (below_size bA)); (case aL => have := LMc13.out; omega); intro v330 w107 ho hb hg hat; rw [← Ny329.out] at ho; have n0_ := Aside0.mk (Kd.V_afterv (ok := (fun k_ => ((P0_ k_ ∨ P1_ k_) ∨ w.heap.size ≤ k_))) (kV HO_0) hg hat); have n1_ := Aside0.mk (Kd.V_afterv (ok := (fun k_ => ((P0_ k_ ∨ P1_ k_) ∨ w.heap.size ≤ k_))) (kV HO_1) hg hat); have n2_ := Aside0.mk (hb); have n3_ := Aside0.mk (ho); clear HO_0; clear HO_1; clear HB; clear HO328; have HO_0 := n0_; have HO_1 := n1_; have HB := n2_; have HO331 := n3_; clear n0_ n1_ n2_ n3_; clear ho hb hg hat) | ((with_reducible refine gate_callee (f := 18) rfl ?_); refine goesL_ (some 30) rfl rfl Tryd.func18 (by kernel_rfl) rfl #[.slice A0 l0.length c0] rfl aP ?_; (with_reducible refine (ansi_Write.calls kj3 _ _ l0 t332 _ ?side1 ?side2 ?side3 A14.out).mono ?_); (case side1 => repeat (first | exact (Kd.V_reads' HO_0.out).2.2 | (with_reducible refine Kd.C_alloc ?_ _) | (with_reducible refine Kd.C_drewN ?_ _) | (with_reducible refine Kd.C_drew ?_))); (case side2 => exact (Kd.V_reads' HO_0.out).2.1); (case side3 => exact GOK.of_below (GOK.sub HG.out rfl) bA); rintro e w108 ⟨v333, rfl, ho0, hb⟩; refine ⟨_, rfl, ?_⟩; have n0_ := Aside0.mk (Kd.V_elder' (kV HO_0) (Kd.R_base ho0) hb); have n1_ := Aside0.mk (Kd.V_elder' (kV HO_1) (Kd.R_base ho0) hb); have n2_ := Aside0.mk (Kd.N_elder' (by (with_reducible repeat (first | apply Kd.N_alloc | apply Kd.N_drewN | apply Kd.N_drew)); exact HO331.out) (Kd.R_base ho0) hb); have n3_ := Aside0.mk (Kd.R_lower (Kd.R_newM (M := fun k_ => (w.heap.size ≤ k_)) ho0 (below_size bA) (fun k_ h_ => h_)) (below_size bA)); have n4_ := Aside0.mk (below_step bA hb); clear HO_0; clear HO_1; clear HO331; clear HB; have HO_0 := n0_; have HO_1 := n1_; have HO331 := n2_; have HO334 := n3_; have HB := n4_; clear n0_ n1_ n2_ n3_ n4_; (try clear hb); (try clear hb2); (try clear hk); (try clear hi); (try clear ho0)) | ((with_reducible refine gate_callee (f := 18) rfl ?_); refine goesL_ (some 33) rfl rfl Tryd.func18 (by kernel_rfl) rfl #[.slice A1 l1.length c1] rfl aP ?_; (with_reducible refine (ansi_Write.calls kj3 _ _ l1 t335 _ ?side1 ?side2 ?side3 A15.out).mono ?_); (case side1 => repeat (first | exact (Kd.V_reads' HO_1.out).2.2 | (with_reducible refine Kd.C_alloc ?_ _) | (with_reducible refine Kd.C_drewN ?_ _) | (with_reducible refine Kd.C_drew ?_))); (case side2 => exact (Kd.V_reads' HO_1.out).2.1); (case side3 => exact GOK.of_below (GOK.sub HG.out rfl) bA); rintro e w109 ⟨v336, rfl, ho0, hb⟩; refine ⟨_, rfl, ?_⟩; have n0_ := Aside0.mk (Kd.V_elder' (kV HO_0) (Kd.R_base ho0) hb); have n1_ := Aside0.mk (Kd.V_elder' (kV HO_1) (Kd.R_base ho0) hb); have n2_ := Aside0.mk (Kd.N_elder' (by (with_reducible repeat (first | apply Kd.N_alloc | apply Kd.N_drewN | apply Kd.N_drew)); exact HO331.out) (Kd.R_base ho0) hb); have n3_ := Aside0.mk (Kd.R_elder' (kR HO334) (Kd.R_base ho0) hb); have n4_ := Aside0.mk (Kd.R_lower (Kd.R_new' (Kd.R_newM (M := fun k_ => (w.heap.size ≤ k_)) ho0 (below_size bA) (fun k_ h_ => h_)) (Kd.R_lt (kR HO334))) (below_size bA)); have n5_ := Aside0.mk (below_step bA hb); clear HO_0; clear HO_1; clear HO331; clear HO334; clear HB; have HO_0 := n0_; have HO_1 := n1_; have HO331 := n2_; have HO334 := n3_; have HO337 := n4_; have HB := n5_; clear n0_ n1_ n2_ n3_ n4_ n5_; (try clear hb); (try clear hb2); (try clear hk); (try clear hi); (try clear ho0); obtain ⟨Ao111, co111, eo111⟩ := Kd.R_slice HO337.out; subst eo111) | ((with_reducible refine gate_builtin (b := .append) (xs := #[.tmp 31, .tmp 33]) rfl ?_); (try (refine gate_guard (by rfl) ?_; dsimp only)); at_builtin; refine Kd.R_append_rows (Kd.int .u8) (w0 := w) w.heap.size rfl (.tmp 31) (.tmp 33) 22 5 (.int .u8 0) 1 rfl Tryd.underlying22 info5 rfl (by decide) (by omega) v333 t332 t335 _ _ _ (fun k_ => (w.heap.size ≤ k_) ∧ some k_ ≠ (.slice Ao111 t335.length co111 : Value).ownBlock) (fun _ => False) rfl rfl ?aO ?aR (fun _ _ h => h) (fun _ h => h.elim) ?aF ?aB ?aS ?aL ?_; (case aR => repeat (first | exact (Kd.R_reads' HO337.out).2.2 | (with_reducible refine Kd.C_alloc ?_ _) | (with_reducible refine Kd.C_drewN ?_ _) | (with_reducible refine Kd.C_drew ?_))); (case aB => exact bA); (case aF => exact (fun k_ hk => ⟨(Nat.le_trans (below_size bA) hk), Kd.fresh' (Kd.R_lt (kR HO337)) k_ hk⟩)); (case aO => exact (by (with_reducible repeat (first | apply Kd.R_alloc | apply Kd.R_drewN | apply Kd.R_drew)); exact Kd.R_mono HO334.out (fun _ hk => ⟨hk.1.1, hk.2⟩))); (case aS => exact (below_size bA)); (case aL => have := LMc16.out; omega); intro v339 w110 ho hb hg hat; rw [← Ny338.out] at ho; have n0_ := Aside0.mk (Kd.V_afterv (ok := (fun k_ => ((P0_ k_ ∨ P1_ k_) ∨ w.heap.size ≤ k_) ∧ some k_ ≠ (v330 : Value).ownBlock ∧ some k_ ≠ (.slice Ao111 t335.length co111 : Value).ownBlock)) (by (with_reducible repeat (first | apply Kd.V_alloc | apply Kd.V_drewN | apply Kd.V_drew)); exact Kd.V_mono HO_0.out (fun _ hk => ⟨⟨hk.1.1.1, ⟨hk.1.1.2, hk.2⟩⟩, hk.1.2⟩)) hg hat); have n1_ := Aside0.mk (Kd.V_afterv (ok := (fun k_ => ((P0_ k_ ∨ P1_ k_) ∨ w.heap.size ≤ k_) ∧ some k_ ≠ (v330 : Value).ownBlock ∧ some k_ ≠ (.slice Ao111 t335.length co111 : Value).ownBlock)) (by (with_reducible repeat (first | apply Kd.V_alloc | apply Kd.V_drewN | apply Kd.V_drew)); exact Kd.V_mono HO_1.out (fun _ hk => ⟨⟨hk.1.1.1, ⟨hk.1.1.2, hk.2⟩⟩, hk.1.2⟩)) hg hat); have n2_ := Aside0.mk (Kd.N_afterv (ok := (fun k_ => ((P0_ k_ ∨ P1_ k_) ∨ w.heap.size ≤ k_) ∧ some k_ ≠ (.slice Ao111 t335.length co111 : Value).ownBlock)) (by (with_reducible repeat (first | apply Kd.N_alloc | apply Kd.N_drewN | apply Kd.N_drew)); exact Kd.N_mono HO331.out (fun _ hk => ⟨⟨hk.1.1, hk.2⟩, hk.1.2⟩)) hg hat); have n3_ := Aside0.mk (Kd.R_after (ok := (fun k_ => (w.heap.size ≤ k_))) (by (with_reducible repeat (first | apply Kd.R_alloc | apply Kd.R_drewN | apply Kd.R_drew)); exact Kd.R_mono HO337.out (fun _ hk => ⟨hk.1.1, hk.2⟩)) hg hat); have n4_ := Aside0.mk (hb); have n5_ := Aside0.mk (ho); clear HO_0; clear HO_1; clear HO331; clear HO337; clear HB; clear HO334; have HO_0 := n0_; have HO_1 := n1_; have HO331 := n2_; have HO337 := n3_; have HB := n4_; have HO340 := n5_; clear n0_ n1_ n2_ n3_ n4_ n5_; clear ho hb hg hat) | ((with_reducible refine gate_callee (f := 23) rfl ?_); refine goesL_ (some 36) rfl rfl Tryd.func23 (by kernel_rfl) rfl #[.slice A2 l2.length c2] rfl aP ?_; (with_reducible refine (flongref17_Erase.calls kj3 _ _ l2 t341 _ ?side1 ?side2 A17.out).mono ?_); (case side1 => repeat (first | exact (Kd.C_below HR2.out HB.out) | (with_reducible refine Kd.C_alloc ?_ _) | (with_reducible refine Kd.C_drewN ?_ _) | (with_reducible refine Kd.C_drew ?_))); (case side2 => exact HC2.out); rintro e w112 ⟨v342, rfl, ho0, hb⟩; refine ⟨_, rfl, ?_⟩; have n0_ := Aside0.mk (Kd.V_elder' (kV HO_0) (Kd.R_base ho0) hb); have n1_ := Aside0.mk (Kd.V_elder' (kV HO_1) (Kd.R_base ho0) hb); have n2_ := Aside0.mk (Kd.N_elder' (by (with_reducible repeat (first | apply Kd.N_alloc | apply Kd.N_drewN | apply Kd.N_drew)); exact HO331.out) (Kd.R_base ho0) hb); have n3_ := Aside0.mk (Kd.R_below (kR HO337) hb); have n4_ := Aside0.mk (Kd.R_below (kR HO340) hb); have n5_ := Aside0.mk (Kd.R_lower (Kd.R_newM (M := fun k_ => (w.heap.size ≤ k_)) ho0 (below_size bA) (fun k_ h_ => h_)) (below_size bA)); have n6_ := Aside0.mk (below_step bA hb); clear HO_0; clear HO_1; clear HO331; clear HO337; clear HO340; clear HB; have HO_0 := n0_; have HO_1 := n1_; have HO331 := n2_; have HO337 := n3_; have HO340 := n4_; have HO343 := n5_; have HB := n6_; clear n0_ n1_ n2_ n3_ n4_ n5_ n6_; (try clear hb); (try clear hb2); (try clear hk); (try clear hi); (try clear ho0)) | ((with_reducible refine gate_callee (f := 25) rfl ?_); refine goesL_ (some 38) rfl rfl Tryd.func25 (by kernel_rfl) rfl #[.slice A2 l2.length c2] rfl aP ?_; (with_reducible refine (flongref17_Normal.calls kj3 _ _ l2 t344 _ ?side1 ?side2 A18.out).mono ?_); (case side1 => repeat (first | exact (Kd.C_below HR2.out HB.out) | (with_reducible refine Kd.C_alloc ?_ _) | (with_reducible refine Kd.C_drewN ?_ _) | (with_reducible refine Kd.C_drew ?_))); (case side2 => exact HC2.out); rintro e w113 ⟨v345, rfl, ho0, hb⟩; refine ⟨_, rfl, ?_⟩; have n0_ := Aside0.mk (Kd.V_elder' (kV HO_0) (Kd.R_base ho0) hb); have n1_ := Aside0.mk (Kd.V_elder' (kV HO_1) (Kd.R_base ho0) hb); have n2_ := Aside0.mk (Kd.N_elder' (by (with_reducible repeat (first | apply Kd.N_alloc | apply Kd.N_drewN | apply Kd.N_drew)); exact HO331.out) (Kd.R_base ho0) hb); have n3_ := Aside0.mk (Kd.R_below (kR HO337) hb); have n4_ := Aside0.mk (Kd.R_below (kR HO340) hb); have n5_ := Aside0.mk (Kd.R_elder' (kR HO343) (Kd.R_base ho0) hb); have n6_ := Aside0.mk (Kd.R_lower (Kd.R_new' (Kd.R_newM (M := fun k_ => (w.heap.size ≤ k_)) ho0 (below_size bA) (fun k_ h_ => h_)) (Kd.R_lt (kR HO343))) (below_size bA)); have n7_ := Aside0.mk (below_step bA hb); clear HO_0; clear HO_1; clear HO331; clear HO337; clear HO340; clear HO343; clear HB; have HO_0 := n0_; have HO_1 := n1_; have HO331 := n2_; have HO337 := n3_; have HO340 := n4_; have HO343 := n5_; have HO346 := n6_; have HB := n7_; clear n0_ n1_ n2_ n3_ n4_ n5_ n6_ n7_; (try clear hb); (try clear hb2); (try clear hk); (try clear hi); (try clear ho0); obtain ⟨Ao114, co114, eo114⟩ := Kd.R_slice HO346.out; subst eo114) | ((with_reducible refine gate_callee (f := 24) rfl ?_); refine goesL_ (some 39) rfl rfl Tryd.func24 (by kernel_rfl) rfl #[.slice Ao114 t344.length co114] rfl aP ?_; (with_reducible refine (flongref03_Text.calls kj3 _ _ t344 t347 _ ?side1 ?side2 A19.out).mono ?_); (case side1 => repeat (first | exact (Kd.R_reads' HO346.out).2.2 | (with_reducible refine Kd.C_alloc ?_ _) | (with_reducible refine Kd.C_drewN ?_ _) | (with_reducible refine Kd.C_drew ?_))); (case side2 => exact (Kd.R_reads' HO346.out).2.1); rintro e w115 ⟨rfl, hb⟩; refine ⟨_, rfl, ?_⟩; have n0_ := Aside0.mk (Kd.V_below (kV HO_0) hb); have n1_ := Aside0.mk (Kd.V_below (kV HO_1) hb); have n2_ := Aside0.mk (Kd.N_below (by (with_reducible repeat (first | apply Kd.N_alloc | apply Kd.N_drewN | apply Kd.N_drew)); exact HO331.out) hb); have n3_ := Aside0.mk (Kd.R_below (kR HO337) hb); have n4_ := Aside0.mk (Kd.R_below (kR HO340) hb); have n5_ := Aside0.mk (Kd.R_below (kR HO343) hb); have n6_ := Aside0.mk (Kd.R_below (kR HO346) hb); have n7_ := Aside0.mk (below_step bA hb); clear HO_0; clear HO_1; clear HO331; clear HO337; clear HO340; clear HO343; clear HO346; clear HB; have HO_0 := n0_; have HO_1 := n1_; have HO331 := n2_; have HO337 := n3_; have HO340 := n4_; have HO343 := n5_; have HO346 := n6_; have HB := n7_; clear n0_ n1_ n2_ n3_ n4_ n5_ n6_ n7_; (try clear hb); (try clear hb2); (try clear hk); (try clear hi)))
        have n0_ := Aside0.mk (Kd.V_drew HO_0.out)
        have n1_ := Aside0.mk (Kd.V_drew HO_1.out)
        have n2_ := Aside0.mk (Kd.N_drew HO331.out)
        have n3_ := Aside0.mk (Kd.R_drew HO337.out)
        have n4_ := Aside0.mk (Kd.R_drew HO340.out)
        have n5_ := Aside0.mk (Kd.R_drew HO343.out)
        have n6_ := Aside0.mk (Kd.R_drew HO346.out)
        have n7_ := Aside0.mk (below_drew1 HB.out)
        clear HO_0
        clear HO_1
        clear HO331
        clear HO337
        clear HO340
        clear HO343
        clear HO346
        clear HB
        have HO_0 := n0_
        have HO_1 := n1_
        have HO331 := n2_
        have HO337 := n3_
        have HO340 := n4_
        have HO343 := n5_
        have HO346 := n6_
        have HB := n7_
        clear n0_ n1_ n2_ n3_ n4_ n5_ n6_ n7_
        obtain ⟨Ao117, co117, eo117⟩ := Kd.N_slice HO331.out
        (first | subst eo117 | (injection eo117 with f1_ f2_ f3_; have f4_ := f1_.symm; have f5_ := f3_.symm; clear f1_ f2_ f3_; subst f4_; subst f5_))
        refine start_ (n := 25) (S := fun w' => True) (ds := []) #[false, false, false, false, false, false, false, false, false, false, false, false, false, false, false, false, false, false, false, false, false, false, false, false, false] (by kernel_rfl) rfl rfl trivial (fun hHeld => ?_); refine with_tabW flonglaw19_AnsiJoins.tab10 flonglaw19_AnsiJoins.bits10 (fun HT_ HW_ => ?_)
        generalize w115.drew = w116 at HO_0 HO_1 HO331 HO337 HO340 HO343 HO346 HB hHeld ⊢
        refine pure_ (i := 0) (N := some 40) (v := ?_) (a' := ?_) #[true, false, false, false, false, false, false, false, false, false, false, false, false, false, false, false, false, false, false, false, false, false, false, false, false] rfl rfl (any_of HT_.out (by kernel_rfl)) (fun _ _ _ h => h) (Or.inl ⟨by rfl, ?_⟩) ?_ ?_
        rotate_left
        ·intro w'
         go_simp
         with_reducible rfl
        rotate_left
        ·simp only [Act.put, List.setIfInBounds_toArray, List.set_cons_zero, List.set_cons_succ, i64_w, i32_w]
         rfl
        refine pure_ (i := 2) (N := some 42) (v := ?_) (a' := ?_) #[true, false, true, false, false, false, false, false, false, false, false, false, false, false, false, false, false, false, false, false, false, false, false, false, false] rfl rfl (any_of HT_.out (by kernel_rfl)) (fun _ _ _ h => h) (Or.inl ⟨by rfl, ?_⟩) ?_ ?_
        rotate_left
        ·intro w'
         go_simp
         with_reducible rfl
        rotate_left
        ·simp only [Act.put, List.setIfInBounds_toArray, List.set_cons_zero, List.set_cons_succ, i64_w, i32_w]
         rfl
        refine one_ (i := 1) (N := some 41) #[true, true, true, false, false, false, false, false, false, false, false, false, false, false, false, false, false, false, false, false, false, false, false, false, false] rfl rfl (one_of HT_.out (by kernel_rfl)) (by decide) (fun K hK => ?_)
        refine goes_ Tryd.func18 (by kernel_rfl) rfl #[.slice Ao117 y329.length co117] (by rfl) rfl rfl aP ?_
        with_reducible refine (ansi_Write.calls kj3 _ _ y329 t348 _ ?side1 ?side2 ?side3 A20.out).mono ?_
        (case side1 => repeat (first | exact (Kd.N_reads' HO331.out).2.2 | (with_reducible refine Kd.C_alloc ?_ _) | (with_reducible refine Kd.C_drewN ?_ _) | (with_reducible refine Kd.C_drew ?_)))
        (case side2 => exact (Kd.N_reads' HO331.out).2.1)
        (case side3 => exact GOK.of_below (GOK.sub HG.out rfl) bA)
        rintro e w118 ⟨v349, rfl, ho0, hb⟩
        refine ⟨_, rfl, ?_⟩
        have n0_ := Aside0.mk (Kd.V_elder' (kV HO_0) (Kd.R_base ho0) hb)
        have n1_ := Aside0.mk (Kd.V_elder' (kV HO_1) (Kd.R_base ho0) hb)
        have n2_ := Aside0.mk (Kd.N_elder' (by (with_reducible repeat (first | apply Kd.N_alloc | apply Kd.N_drewN | apply Kd.N_drew)); exact HO331.out) (Kd.R_base ho0) hb)
        have n3_ := Aside0.mk (Kd.R_elder' (kR HO337) (Kd.R_base ho0) hb)
        have n4_ := Aside0.mk (Kd.R_elder' (kR HO340) (Kd.R_base ho0) hb)
        have n5_ := Aside0.mk (Kd.R_below (kR HO343) hb)
        have n6_ := Aside0.mk (Kd.R_below (kR HO346) hb)
        have n7_ := Aside0.mk (Kd.R_lower (Kd.R_new' (Kd.R_new' (Kd.R_newM (M := fun k_ => (w.heap.size ≤ k_)) ho0 (below_size bA) (fun k_ h_ => h_)) (Kd.R_lt (kR HO337))) (Kd.R_lt (kR HO340))) (below_size bA))
        have n8_ := Aside0.mk (below_step bA hb)
        clear HO_0
        clear HO_1
        clear HO331
        clear HO337
        clear HO340
        clear HO343
        clear HO346
        clear HB
        have HO_0 := n0_
        have HO_1 := n1_
        have HO331 := n2_
        have HO337 := n3_
        have HO340 := n4_
        have HO343 := n5_
        have HO346 := n6_
        have HO350 := n7_
        have HB := n8_
        clear n0_ n1_ n2_ n3_ n4_ n5_ n6_ n7_ n8_
        (try clear hb)
        (try clear hb2)
        (try clear hk)
        (try clear hi)
        (try clear ho0)
        obtain ⟨Ao119, co119, eo119⟩ := Kd.R_slice HO350.out
        (first | subst eo119 | (injection eo119 with f1_ f2_ f3_; have f4_ := f1_.symm; have f5_ := f3_.symm; clear f1_ f2_ f3_; subst f4_; subst f5_))
        obtain ⟨Ao120, co120, eo120⟩ := Kd.R_slice HO340.out
        (first | subst eo120 | (injection eo120 with f1_ f2_ f3_; have f4_ := f1_.symm; have f5_ := f3_.symm; clear f1_ f2_ f3_; subst f4_; subst f5_))
        refine hK.out _ _ trivial (fun hHeld => ?_)
        clear hK K
        refine norm_ (a' := ?_) ?_ ?_
        rotate_left
        ·show Act.put _ (some 41) _ = _
         simp only [Act.put, List.setIfInBounds_toArray, List.set_cons_zero, List.set_cons_succ, i64_w, i32_w]
         rfl
        refine one_ (i := 3) (N := some 43) #[true, true, true, true, false, false, false, false, false, false, false, false, false, false, false, false, false, false, false, false, false, false, false, false, false] rfl rfl (one_of HT_.out (by kernel_rfl)) (by decide) (fun K hK => ?_)
        refine goes_ Tryd.func13 (by kernel_rfl) rfl #[.slice Ao119 t348.length co119, .slice Ao120 y338.length co120] (by rfl) rfl rfl aP ?_
        with_reducible refine (flongref00_Same.calls _ _ t348 _ _ y338 false _ ?side1 ?side2 ?side3 ?side4 A21.out).mono ?_
        (case side1 => repeat (first | exact (Kd.R_reads' HO350.out).2.2 | (with_reducible refine Kd.C_alloc ?_ _) | (with_reducible refine Kd.C_drewN ?_ _) | (with_reducible refine Kd.C_drew ?_)))
        (case side2 => exact (Kd.R_reads' HO350.out).2.1)
        (case side3 => repeat (first | exact (Kd.R_reads' HO340.out).2.2 | (with_reducible refine Kd.C_alloc ?_ _) | (with_reducible refine Kd.C_drewN ?_ _) | (with_reducible refine Kd.C_drew ?_)))
        (case side4 => exact (Kd.R_reads' HO340.out).2.1)
        rintro e w' ⟨rfl, ⟨nd, rfl⟩⟩
        refine ⟨_, rfl, ?_⟩
        refine hK.out _ _ trivial (fun hHeld => ?_)
        clear hK K
        refine norm_ (a' := ?_) ?_ ?_
        rotate_left
        ·show Act.put _ (some 43) _ = _
         simp only [Act.put, List.setIfInBounds_toArray, List.set_cons_zero, List.set_cons_succ, i64_w, i32_w]
         rfl
        refine pure_ (i := 4) (N := some 44) (v := ?_) (a' := ?_) #[true, true, true, true, true, false, false, false, false, false, false, false, false, false, false, false, false, false, false, false, false, false, false, false, false] rfl rfl (any_of HT_.out (by kernel_rfl)) (fun _ _ _ h => h) (Or.inl ⟨by rfl, ?_⟩) ?_ ?_
        rotate_left
        ·intro w'
         go_simp
         with_reducible rfl
        rotate_left
        ·simp only [Act.put, List.setIfInBounds_toArray, List.set_cons_zero, List.set_cons_succ, i64_w, i32_w]
         rfl
        refine pure_ (i := 5) (N := some 45) (v := undef) (a' := ?_) #[true, true, true, true, true, true, false, false, false, false, false, false, false, false, false, false, false, false, false, false, false, false, false, false, false] rfl rfl (any_of HT_.out (by kernel_rfl)) (fun _ _ _ h => h) (Or.inr ⟨by rfl, rfl⟩) ?_ ?_
        rotate_left
        ·simp only [Act.put, List.setIfInBounds_toArray, List.set_cons_zero, List.set_cons_succ, i64_w, i32_w]
         rfl
        refine pure_ (i := 6) (N := some 46) (v := undef) (a' := ?_) #[true, true, true, true, true, true, true, false, false, false, false, false, false, false, false, false, false, false, false, false, false, false, false, false, false] rfl rfl (any_of HT_.out (by kernel_rfl)) (fun _ _ _ h => h) (Or.inr ⟨by rfl, rfl⟩) ?_ ?_
        rotate_left
        ·simp only [Act.put, List.setIfInBounds_toArray, List.set_cons_zero, List.set_cons_succ, i64_w, i32_w]
         rfl
        refine pure_ (i := 7) (N := some 47) (v := undef) (a' := ?_) #[true, true, true, true, true, true, true, true, false, false, false, false, false, false, false, false, false, false, false, false, false, false, false, false, false] rfl rfl (any_of HT_.out (by kernel_rfl)) (fun _ _ _ h => h) (Or.inr ⟨by rfl, rfl⟩) ?_ ?_
        rotate_left
        ·simp only [Act.put, List.setIfInBounds_toArray, List.set_cons_zero, List.set_cons_succ, i64_w, i32_w]
         rfl
        refine pure_ (i := 8) (N := some 48) (v := undef) (a' := ?_) #[true, true, true, true, true, true, true, true, true, false, false, false, false, false, false, false, false, false, false, false, false, false, false, false, false] rfl rfl (any_of HT_.out (by kernel_rfl)) (fun _ _ _ h => h) (Or.inr ⟨by rfl, rfl⟩) ?_ ?_
        rotate_left
        ·simp only [Act.put, List.setIfInBounds_toArray, List.set_cons_zero, List.set_cons_succ, i64_w, i32_w]
         rfl
        refine pure_ (i := 9) (N := some 49) (v := undef) (a' := ?_) #[true, true, true, true, true, true, true, true, true, true, false, false, false, false, false, false, false, false, false, false, false, false, false, false, false] rfl rfl (any_of HT_.out (by kernel_rfl)) (fun _ _ _ h => h) (Or.inr ⟨by rfl, rfl⟩) ?_ ?_
        rotate_left
        ·simp only [Act.put, List.setIfInBounds_toArray, List.set_cons_zero, List.set_cons_succ, i64_w, i32_w]
         rfl
        refine pure_ (i := 10) (N := some 50) (v := undef) (a' := ?_) #[true, true, true, true, true, true, true, true, true, true, true, false, false, false, false, false, false, false, false, false, false, false, false, false, false] rfl rfl (any_of HT_.out (by kernel_rfl)) (fun _ _ _ h => h) (Or.inr ⟨by rfl, rfl⟩) ?_ ?_
        rotate_left
        ·simp only [Act.put, List.setIfInBounds_toArray, List.set_cons_zero, List.set_cons_succ, i64_w, i32_w]
         rfl
        refine pure_ (i := 11) (N := some 51) (v := undef) (a' := ?_) #[true, true, true, true, true, true, true, true, true, true, true, true, false, false, false, false, false, false, false, false, false, false, false, false, false] rfl rfl (any_of HT_.out (by kernel_rfl)) (fun _ _ _ h => h) (Or.inr ⟨by rfl, rfl⟩) ?_ ?_
        rotate_left
        ·simp only [Act.put, List.setIfInBounds_toArray, List.set_cons_zero, List.set_cons_succ, i64_w, i32_w]
         rfl
        refine pure_ (i := 12) (N := some 52) (v := ?_) (a' := ?_) #[true, true, true, true, true, true, true, true, true, true, true, true, true, false, false, false, false, false, false, false, false, false, false, false, false] rfl rfl (any_of HT_.out (by kernel_rfl)) (fun _ _ _ h => h) (Or.inl ⟨by rfl, ?_⟩) ?_ ?_
        rotate_left
        ·intro w'
         go_simp
         with_reducible rfl
        rotate_left
        ·simp only [Act.put, List.setIfInBounds_toArray, List.set_cons_zero, List.set_cons_succ, i64_w, i32_w]
         rfl
        refine pure_ (i := 13) (N := some 53) (v := ?_) (a' := ?_) #[true, true, true, true, true, true, true, true, true, true, true, true, true, true, false, false, false, false, false, false, false, false, false, false, false] rfl rfl (any_of HT_.out (by kernel_rfl)) (fun _ _ _ h => h) (Or.inl ⟨by rfl, ?_⟩) ?_ ?_
        rotate_left
        ·intro w'
         go_simp
         with_reducible rfl
        rotate_left
        ·simp only [Act.put, List.setIfInBounds_toArray, List.set_cons_zero, List.set_cons_succ, i64_w, i32_w]
         rfl
        refine pure_ (i := 14) (N := some 54) (v := undef) (a' := ?_) #[true, true, true, true, true, true, true, true, true, true, true, true, true, true, true, false, false, false, false, false, false, false, false, false, false] rfl rfl (any_of HT_.out (by kernel_rfl)) (fun _ _ _ h => h) (Or.inr ⟨by rfl, rfl⟩) ?_ ?_
        rotate_left
        ·simp only [Act.put, List.setIfInBounds_toArray, List.set_cons_zero, List.set_cons_succ, i64_w, i32_w]
         rfl
        refine pure_ (i := 15) (N := some 55) (v := undef) (a' := ?_) #[true, true, true, true, true, true, true, true, true, true, true, true, true, true, true, true, false, false, false, false, false, false, false, false, false] rfl rfl (any_of HT_.out (by kernel_rfl)) (fun _ _ _ h => h) (Or.inr ⟨by rfl, rfl⟩) ?_ ?_
        rotate_left
        ·simp only [Act.put, List.setIfInBounds_toArray, List.set_cons_zero, List.set_cons_succ, i64_w, i32_w]
         rfl
        refine pure_ (i := 16) (N := some 56) (v := undef) (a' := ?_) #[true, true, true, true, true, true, true, true, true, true, true, true, true, true, true, true, true, false, false, false, false, false, false, false, false] rfl rfl (any_of HT_.out (by kernel_rfl)) (fun _ _ _ h => h) (Or.inr ⟨by rfl, rfl⟩) ?_ ?_
        rotate_left
        ·simp only [Act.put, List.setIfInBounds_toArray, List.set_cons_zero, List.set_cons_succ, i64_w, i32_w]
         rfl
        refine pure_ (i := 17) (N := some 57) (v := undef) (a' := ?_) #[true, true, true, true, true, true, true, true, true, true, true, true, true, true, true, true, true, true, false, false, false, false, false, false, false] rfl rfl (any_of HT_.out (by kernel_rfl)) (fun _ _ _ h => h) (Or.inr ⟨by rfl, rfl⟩) ?_ ?_
        rotate_left
        ·simp only [Act.put, List.setIfInBounds_toArray, List.set_cons_zero, List.set_cons_succ, i64_w, i32_w]
         rfl
        refine pure_ (i := 18) (N := some 58) (v := undef) (a' := ?_) #[true, true, true, true, true, true, true, true, true, true, true, true, true, true, true, true, true, true, true, false, false, false, false, false, false] rfl rfl (any_of HT_.out (by kernel_rfl)) (fun _ _ _ h => h) (Or.inr ⟨by rfl, rfl⟩) ?_ ?_
        rotate_left
        ·simp only [Act.put, List.setIfInBounds_toArray, List.set_cons_zero, List.set_cons_succ, i64_w, i32_w]
         rfl
        refine pure_ (i := 19) (N := some 59) (v := undef) (a' := ?_) #[true, true, true, true, true, true, true, true, true, true, true, true, true, true, true, true, true, true, true, true, false, false, false, false, false] rfl rfl (any_of HT_.out (by kernel_rfl)) (fun _ _ _ h => h) (Or.inr ⟨by rfl, rfl⟩) ?_ ?_
        rotate_left
        ·simp only [Act.put, List.setIfInBounds_toArray, List.set_cons_zero, List.set_cons_succ, i64_w, i32_w]
         rfl
        refine pure_ (i := 20) (N := some 60) (v := ?_) (a' := ?_) #[true, true, true, true, true, true, true, true, true, true, true, true, true, true, true, true, true, true, true, true, true, false, false, false, false] rfl rfl (any_of HT_.out (by kernel_rfl)) (fun _ _ _ h => h) (Or.inl ⟨by rfl, ?_⟩) ?_ ?_
        rotate_left
        ·intro w'
         go_simp
         with_reducible rfl
        rotate_left
        ·simp only [Act.put, List.setIfInBounds_toArray, List.set_cons_zero, List.set_cons_succ, i64_w, i32_w]
         rfl
        refine pure_ (i := 21) (N := some 61) (v := ?_) (a' := ?_) #[true, true, true, true, true, true, true, true, true, true, true, true, true, true, true, true, true, true, true, true, true, true, false, false, false] rfl rfl (any_of HT_.out (by kernel_rfl)) (fun _ _ _ h => h) (Or.inl ⟨by rfl, ?_⟩) ?_ ?_
        rotate_left
        ·intro w'
         go_simp
         with_reducible rfl
        rotate_left
        ·simp only [Act.put, List.setIfInBounds_toArray, List.set_cons_zero, List.set_cons_succ, i64_w, i32_w]
         rfl
        refine pure_ (i := 22) (N := some 62) (v := undef) (a' := ?_) #[true, true, true, true, true, true, true, true, true, true, true, true, true, true, true, true, true, true, true, true, true, true, true, false, false] rfl rfl (any_of HT_.out (by kernel_rfl)) (fun _ _ _ h => h) (Or.inr ⟨by rfl, rfl⟩) ?_ ?_
        rotate_left
        ·simp only [Act.put, List.setIfInBounds_toArray, List.set_cons_zero, List.set_cons_succ, i64_w, i32_w]
         rfl
        refine pure_ (i := 23) (N := some 63) (v := ?_) (a' := ?_) #[true, true, true, true, true, true, true, true, true, true, true, true, true, true, true, true, true, true, true, true, true, true, true, true, false] rfl rfl (any_of HT_.out (by kernel_rfl)) (fun _ _ _ h => h) (Or.inl ⟨by rfl, ?_⟩) ?_ ?_
        rotate_left
        ·intro w'
         go_simp
         with_reducible rfl
        rotate_left
        ·simp only [Act.put, List.setIfInBounds_toArray, List.set_cons_zero, List.set_cons_succ, i64_w, i32_w]
         rfl
        refine pure_ (i := 24) (N := some 6) (v := ?_) (a' := ?_) #[true, true, true, true, true, true, true, true, true, true, true, true, true, true, true, true, true, true, true, true, true, true, true, true, true] rfl rfl (any_of HT_.out (by kernel_rfl)) (fun _ _ _ h => h) (Or.inl ⟨by rfl, ?_⟩) ?_ ?_
        rotate_left
        ·intro w'
         go_simp
         with_reducible rfl
        rotate_left
        ·simp only [Act.put, List.setIfInBounds_toArray, List.set_cons_zero, List.set_cons_succ, i64_w, i32_w]
         rfl
        refine done_ (done_of HT_.out (by kernel_rfl)) ?_
        try go_wp2
        go_ret
        exact ⟨eW, bA⟩
      ·rw [if_neg c16] at H
       exact absurd H (by simp)
     ·rw [if_neg c13] at H
      exact absurd H (by simp)
    ·rw [if_neg c12] at H
     exact absurd H (by simp)

end Go.Proofs.YtdjepocklmlnbaaDoor.X
