-- Written by this session's xprint.py (a variant of the kit's printer). Not trusted: Lean checks it.
import Derived.Test.YtmeinakeiefcdaaDoorX0
import Derived.Test.YtmeinakeiefcdaaDoorSlim
import Derived.Test.YtmeinakeiefcdaaDoorX6
import Derived.Test.YtmeinakeiefcdaaDoorX7
namespace Go.Proofs.YtmeinakeiefcdaaDoor.X
open Go.RowKit Go.Proofs.YtmeinakeiefcdaaDoorW.PrintWords Go.Proofs.YtmeinakeiefcdaaDoorW.PrintLast Go.Proofs.YtmeinakeiefcdaaDoorW.PrintMore
attribute [local go_sem] max2_int min2_int max_two min_two max_three min_three max_four min_four   -- for this text's walks alone
set_option linter.unusedVariables false
set_option maxHeartbeats 8000000
set_option maxRecDepth 100000
set_option linter.unusedSimpArgs false

/-! ### flongref02_is: function 85 -/
def flongref02_is.f (k : Nat) (l0 : List Int) : Option (Bool) := (flongref02_value.f k l0).bind fun t426 => (if t426 < 0 then (some false) else (if t426 > 1114111 then (some false) else ((flongref02_Valid.f (wrap32 (t426))).bind fun t427 => (if t427 = true then ((flongref02_One.f k (wrap32 (t426))).bind fun t428 => (some ((strOfNums t428).toList == (strOfNums l0).toList))) else (some false)))))
theorem flongref02_is.mono : ∀ a0 k, LeO (flongref02_is.f k a0) (flongref02_is.f (k + 1) a0) := by
 intro a0 k
 unfold flongref02_is.f
 repeat' first
   | (with_reducible exact flongref02_One.mono _ _)
   | (with_reducible exact flongref02_value.mono _ _)
   | (with_reducible exact LeO.refl _)
   | (with_reducible exact LeO.none _)
   | (with_reducible refine LeO.ite ?_ ?_)
   | (with_reducible refine LeO.bind ?_ (fun _ => ?_))
def flongref02_is.T4 : Bool × List (List Nat × List Nat) := (true, [([], []), ([0], [0]), ([1], [1]), ([2], [2]), ([], []), ([4], [4]), ([3, 5], [3, 5]), ([6, 2, 0, 1, 2, 3, 4, 5, 6], [6])])
def flongref02_is.B4 : List Nat := [0, 1, 3, 7, 0, 16, 63, 127]
theorem flongref02_is.tab4 : rtab .any (opsOf Tryd.f85 4) = flongref02_is.T4 := by kernel_rfl
theorem flongref02_is.bits4 : waitsOk flongref02_is.T4.2 flongref02_is.B4 = true := by kernel_rfl
theorem flongref02_is.calls (k : Nat) (A0 : Option Addr) (c0 : Nat) (l0 : List Int) (r : Bool) (w : World) (hr0 : Kd.C (Kd.int .u8) w A0 l0.length l0) (hc0 : l0.length ≤ c0) (h : flongref02_is.f k l0 = some r) :
  Calls Tryd.prog 85 #[.slice A0 l0.length c0] w fun e w' => e = .returned (.bool r) ∧ Below w.heap.size w w' := by
 have HR0 := Aside0.mk hr0
 have HC0 := Aside0.mk hc0
 clear hr0 hc0
 have HB := Aside0.mk (Below.refl w.heap.size w)
 have H : ((flongref02_value.f k l0).bind fun t426 => (if t426 < 0 then (some false) else (if t426 > 1114111 then (some false) else ((flongref02_Valid.f (wrap32 (t426))).bind fun t427 => (if t427 = true then ((flongref02_One.f k (wrap32 (t426))).bind fun t428 => (some ((strOfNums t428).toList == (strOfNums l0).toList))) else (some false)))))) = some r := h
 clear h
 replace H := Option.bind_eq_some_iff.mp H
 obtain ⟨t426, A20, H⟩ := H
 replace H : (if t426 < 0 then (some false) else (if t426 > 1114111 then (some false) else ((flongref02_Valid.f (wrap32 (t426))).bind fun t427 => (if t427 = true then ((flongref02_One.f k (wrap32 (t426))).bind fun t428 => (some ((strOfNums t428).toList == (strOfNums l0).toList))) else (some false))))) = some r := H
 have A2 := Aside0.mk A20
 clear A20
 by_cases c3 : t426 < 0
 ·rw [if_pos c3] at H
  have c3b0 : decide (t426 < 0) = true := decide_eq_true c3
  clear c3
  obtain rfl := Option.some.inj H
  go_enter Tryd.func85, Tryd.ntmps85
  go_wp2_with (first | ((with_reducible refine gate_callee (f := 86) rfl ?_); refine goesL_ (some 5) rfl rfl Tryd.func86 (by kernel_rfl) rfl #[.slice A0 l0.length c0] rfl aP ?_; (with_reducible refine (flongref02_value.calls k _ _ l0 t426 _ ?side1 ?side2 A2.out).mono ?_); (case side1 => repeat (first | exact HR0.out | (with_reducible refine Kd.C_alloc ?_ _) | (with_reducible refine Kd.C_drewN ?_ _) | (with_reducible refine Kd.C_drew ?_))); (case side2 => exact HC0.out); rintro e w' ⟨rfl, ⟨nd, rfl⟩⟩; refine ⟨_, rfl, ?_⟩))
  go_ret
  exact ⟨eW, bA⟩
 ·rw [if_neg c3] at H
  have c3b0 : decide (t426 < 0) = false := decide_eq_false c3
  clear c3
  by_cases c4 : t426 > 1114111
  ·rw [if_pos c4] at H
   have c4b0 : decide (1114111 < t426) = true := decide_eq_true c4
   clear c4
   obtain rfl := Option.some.inj H
   go_enter Tryd.func85, Tryd.ntmps85
   go_wp2_with (first | ((with_reducible refine gate_callee (f := 86) rfl ?_); refine goesL_ (some 5) rfl rfl Tryd.func86 (by kernel_rfl) rfl #[.slice A0 l0.length c0] rfl aP ?_; (with_reducible refine (flongref02_value.calls k _ _ l0 t426 _ ?side1 ?side2 A2.out).mono ?_); (case side1 => repeat (first | exact HR0.out | (with_reducible refine Kd.C_alloc ?_ _) | (with_reducible refine Kd.C_drewN ?_ _) | (with_reducible refine Kd.C_drew ?_))); (case side2 => exact HC0.out); rintro e w' ⟨rfl, ⟨nd, rfl⟩⟩; refine ⟨_, rfl, ?_⟩))
   go_ret
   exact ⟨eW, bA⟩
  ·rw [if_neg c4] at H
   have c4b0 : decide (1114111 < t426) = false := decide_eq_false c4
   clear c4
   replace H := Option.bind_eq_some_iff.mp H
   obtain ⟨t427, A50, H⟩ := H
   replace H : (if t427 = true then ((flongref02_One.f k (wrap32 (t426))).bind fun t428 => (some ((strOfNums t428).toList == (strOfNums l0).toList))) else (some false)) = some r := H
   have A5 := Aside0.mk A50
   clear A50
   by_cases c6 : t427 = true
   ·subst c6
    have H1 : ((flongref02_One.f k (wrap32 (t426))).bind fun t428 => (some ((strOfNums t428).toList == (strOfNums l0).toList))) = some r := by rw [if_pos rfl] at H; exact H
    clear H
    have H := H1
    clear H1
    replace H := Option.bind_eq_some_iff.mp H
    obtain ⟨t428, A70, H⟩ := H
    replace H : (some ((strOfNums t428).toList == (strOfNums l0).toList)) = some r := H
    have A7 := Aside0.mk A70
    clear A70
    obtain rfl := Option.some.inj H
    go_enter Tryd.func85, Tryd.ntmps85
    try go_wp2_with (first | ((with_reducible refine gate_callee (f := 86) rfl ?_); refine goesL_ (some 5) rfl rfl Tryd.func86 (by kernel_rfl) rfl #[.slice A0 l0.length c0] rfl aP ?_; (with_reducible refine (flongref02_value.calls k _ _ l0 t426 _ ?side1 ?side2 A2.out).mono ?_); (case side1 => repeat (first | exact HR0.out | (with_reducible refine Kd.C_alloc ?_ _) | (with_reducible refine Kd.C_drewN ?_ _) | (with_reducible refine Kd.C_drew ?_))); (case side2 => exact HC0.out); rintro e w' ⟨rfl, ⟨nd, rfl⟩⟩; refine ⟨_, rfl, ?_⟩) | (go_at_call 55; (with_reducible refine (flongref02_Valid.calls (wrap32 (t426)) true _ A5.out).mono ?_); rintro e w' ⟨rfl, ⟨nd, rfl⟩⟩))
    generalize hq_ : World.drewN w _ = w8
    have n0_ := Aside0.mk (below_at hq_ HB.out)
    clear HB
    have HB := n0_
    clear n0_
    clear hq_
    have n0_ := Aside0.mk (below_drew1 HB.out)
    clear HB
    have HB := n0_
    clear n0_
    refine start_ (n := 8) (S := fun w' => (convert 25 9 (.slice A0 l0.length c0)).run Tryd.prog w' = .ok (.string (strOfNums l0)) w') (ds := []) #[false, false, false, false, false, false, false, false] (by kernel_rfl) rfl rfl ((Kd.C_string (P := Tryd.prog) (A := A0) (c := c0) Tryd.underlying25 Tryd.underlying5 Tryd.underlying9 (Kd.C_below HR0.out bA))) (fun hHeld => ?_); refine with_tabW flongref02_is.tab4 flongref02_is.bits4 (fun HT_ HW_ => ?_)
    generalize w8.drew = w9 at HB hHeld ⊢
    refine pure_ (i := 0) (N := some 18) (v := ?_) (a' := ?_) #[true, false, false, false, false, false, false, false] rfl rfl (any_of HT_.out (by kernel_rfl)) (fun _ _ _ h => h) (Or.inl ⟨by rfl, ?_⟩) ?_ ?_
    rotate_left
    ·intro w'
     go_simp
     with_reducible rfl
    rotate_left
    ·simp only [Act.put, List.setIfInBounds_toArray, List.set_cons_zero, List.set_cons_succ, i64_w, i32_w]
     rfl
    refine pure_ (i := 1) (N := some 19) (v := ?_) (a' := ?_) #[true, true, false, false, false, false, false, false] rfl rfl (any_of HT_.out (by kernel_rfl)) (fun _ _ _ h => h) (Or.inl ⟨by rfl, ?_⟩) ?_ ?_
    rotate_left
    ·intro w'
     go_simp
     with_reducible rfl
    rotate_left
    ·simp only [Act.put, List.setIfInBounds_toArray, List.set_cons_zero, List.set_cons_succ, i64_w, i32_w]
     rfl
    refine pure_ (i := 4) (N := some 22) (v := ?_) (a' := ?_) #[true, true, false, false, true, false, false, false] rfl rfl (any_of HT_.out (by kernel_rfl)) (fun _ _ _ h => h) (Or.inl ⟨by rfl, ?_⟩) ?_ ?_
    rotate_left
    ·intro w'
     go_simp
     with_reducible rfl
    rotate_left
    ·simp only [Act.put, List.setIfInBounds_toArray, List.set_cons_zero, List.set_cons_succ, i64_w, i32_w]
     rfl
    refine take_ (i := 5) (N := some 23) (v := ?_) (a' := ?_) #[true, true, false, false, true, true, false, false] rfl rfl (take_ofW HT_.out HW_.out (by kernel_rfl)) (fun _ _ _ h => h) (Or.inl ⟨by rfl, ?_⟩) hHeld ?_ ?_
    rotate_left
    ·intro w' s0
     go_simp
     with_reducible rfl
    rotate_left
    ·simp only [Act.put, List.setIfInBounds_toArray, List.set_cons_zero, List.set_cons_succ, i64_w, i32_w]
     rfl
    refine one_ (i := 2) (N := some 20) #[true, true, true, false, true, true, false, false] rfl rfl (one_of HT_.out (by kernel_rfl)) (by decide) (fun K hK => ?_)
    refine goes_ Tryd.func28 (by kernel_rfl) rfl #[.int .i32 (wrap32 (t426))] (by rfl) rfl rfl aP ?_
    with_reducible refine (flongref02_One.calls k (wrap32 (t426)) t428 _ A7.out).mono ?_
    rintro e w10 ⟨v429, rfl, ho0, hb⟩
    refine ⟨_, rfl, ?_⟩
    have n0_ := Aside0.mk (Kd.R_lower ho0 (below_size bA))
    have n1_ := Aside0.mk (below_step bA hb)
    clear HB
    have HO430 := n0_
    have HB := n1_
    clear n0_ n1_
    (try clear hb)
    (try clear hb2)
    (try clear hk)
    (try clear hi)
    (try clear ho0)
    refine hK.out _ _ ((Kd.C_string (P := Tryd.prog) (A := A0) (c := c0) Tryd.underlying25 Tryd.underlying5 Tryd.underlying9 (Kd.C_below HR0.out bA))) (fun hHeld => ?_)
    clear hK K
    refine norm_ (a' := ?_) ?_ ?_
    rotate_left
    ·show Act.put _ (some 20) _ = _
     simp only [Act.put, List.setIfInBounds_toArray, List.set_cons_zero, List.set_cons_succ, i64_w, i32_w]
     rfl
    refine one_ (i := 3) (N := some 21) #[true, true, true, true, true, true, false, false] rfl rfl (one_of HT_.out (by kernel_rfl)) (by decide) (fun K hK => ?_)
    have hcv11 := own_string (P := Tryd.prog) Tryd.underlying25 Tryd.underlying5 Tryd.underlying9 (Kd.own_of_R HO430.out)
    refine value_ (w1 := ?_) (v := ?_) (by rfl) rfl ?_ ?_
    rotate_left 2
    ·go_simp
     constructor
     ·rfl
     ·rfl
    clear hcv11
    refine hK.out _ _ ((Kd.C_string (P := Tryd.prog) (A := A0) (c := c0) Tryd.underlying25 Tryd.underlying5 Tryd.underlying9 (Kd.C_below HR0.out bA))) (fun hHeld => ?_)
    clear hK K
    refine norm_ (a' := ?_) ?_ ?_
    rotate_left
    ·show Act.put _ (some 21) _ = _
     simp only [Act.put, List.setIfInBounds_toArray, List.set_cons_zero, List.set_cons_succ, i64_w, i32_w]
     rfl
    refine pure_ (i := 6) (N := some 24) (v := ?_) (a' := ?_) #[true, true, true, true, true, true, true, false] rfl rfl (any_of HT_.out (by kernel_rfl)) (fun _ _ _ h => h) (Or.inl ⟨by rfl, ?_⟩) ?_ ?_
    rotate_left
    ·intro w'
     go_simp
     with_reducible rfl
    rotate_left
    ·simp only [Act.put, List.setIfInBounds_toArray, List.set_cons_zero, List.set_cons_succ, i64_w, i32_w]
     rfl
    refine pure_ (i := 7) (N := some 2) (v := ?_) (a' := ?_) #[true, true, true, true, true, true, true, true] rfl rfl (any_of HT_.out (by kernel_rfl)) (fun _ _ _ h => h) (Or.inl ⟨by rfl, ?_⟩) ?_ ?_
    rotate_left
    ·intro w'
     go_simp
     with_reducible rfl
    rotate_left
    ·simp only [Act.put, List.setIfInBounds_toArray, List.set_cons_zero, List.set_cons_succ, i64_w, i32_w]
     rfl
    refine done_ (done_of HT_.out (by kernel_rfl)) ?_
    try go_wp2
    go_ret
    exact ⟨eW, bA⟩
   ·replace c6 := Bool.eq_false_iff.mpr c6
    subst c6
    have H1 : (some false) = some r := by rw [if_neg (show ¬ (false = true) by decide)] at H; exact H
    clear H
    have H := H1
    clear H1
    obtain rfl := Option.some.inj H
    go_enter Tryd.func85, Tryd.ntmps85
    go_wp2_with (first | ((with_reducible refine gate_callee (f := 86) rfl ?_); refine goesL_ (some 5) rfl rfl Tryd.func86 (by kernel_rfl) rfl #[.slice A0 l0.length c0] rfl aP ?_; (with_reducible refine (flongref02_value.calls k _ _ l0 t426 _ ?side1 ?side2 A2.out).mono ?_); (case side1 => repeat (first | exact HR0.out | (with_reducible refine Kd.C_alloc ?_ _) | (with_reducible refine Kd.C_drewN ?_ _) | (with_reducible refine Kd.C_drew ?_))); (case side2 => exact HC0.out); rintro e w' ⟨rfl, ⟨nd, rfl⟩⟩; refine ⟨_, rfl, ?_⟩) | (go_at_call 55; (with_reducible refine (flongref02_Valid.calls (wrap32 (t426)) false _ A5.out).mono ?_); rintro e w' ⟨rfl, ⟨nd, rfl⟩⟩))
    go_ret
    exact ⟨eW, bA⟩

/-! ### flongref02_Decode: function 72 -/
mutual
def flongref02_Decode.l0 : Nat → List Int → List Int → Int → Option (List Int)
 | 0, _, _, _ => none
 | k + 1, x0, x3, x4 => if x4 < (x0.length : Int) then (flongref02_Decode.l1 k x0 x3 x4 0 1) else (some x3)
def flongref02_Decode.l1 : Nat → List Int → List Int → Int → Int → Int → Option (List Int)
 | 0, _, _, _, _, _ => none
 | k + 1, x0, x3, x4, x5, x6 => if x6 ≤ 4 then (if (wrap64 (x4 + x6)) ≤ (x0.length : Int) then (flongref02_Decode.j2 k x0 x3 x4 x5 x6 (x5 == 0)) else (flongref02_Decode.j2 k x0 x3 x4 x5 x6 false)) else (flongref02_Decode.j2 k x0 x3 x4 x5 x6 false)
def flongref02_Decode.j2 : Nat → List Int → List Int → Int → Int → Int → Bool → Option (List Int)
 | 0, _, _, _, _, _, _ => none
 | k + 1, x0, x3, x4, x5, x6, x24 => if x24 = true then (if 0 ≤ x4 then (if x4 ≤ (wrap64 (x4 + x6)) then (if (wrap64 (x4 + x6)) ≤ (x0.length : Int) then ((flongref02_is.f k ((x0.take ((wrap64 (x4 + x6)) : Int).toNat).drop (x4 : Int).toNat)).bind fun t432 => (if t432 = true then (flongref02_Decode.l1 k x0 x3 x4 x6 (wrap64 (x6 + 1))) else (flongref02_Decode.l1 k x0 x3 x4 x5 (wrap64 (x6 + 1))))) else (none)) else (none)) else (none)) else (if x5 = 0 then (if x3.length < 35184372088832 then (flongref02_Decode.l0 k x0 (x3 ++ [65533]) (wrap64 (x4 + 1))) else (none)) else (if 0 ≤ x4 then (if x4 ≤ (wrap64 (x4 + x5)) then (if (wrap64 (x4 + x5)) ≤ (x0.length : Int) then ((flongref02_value.f k ((x0.take ((wrap64 (x4 + x5)) : Int).toNat).drop (x4 : Int).toNat)).bind fun t437 => (if x3.length < 35184372088832 then (flongref02_Decode.l0 k x0 (x3 ++ [wrap32 (t437)]) (wrap64 (x4 + x5))) else (none))) else (none)) else (none)) else (none)))
end
def flongref02_Decode.f (k : Nat) (l0 : List Int) : Option (List Int) := flongref02_Decode.l0 k l0 ([] : List Int) 0
theorem flongref02_Decode.mono_l : ∀ k, (∀ y0 y1 y2, LeO (flongref02_Decode.l0 k y0 y1 y2) (flongref02_Decode.l0 (k + 1) y0 y1 y2)) ∧ (∀ y0 y1 y2 y3 y4, LeO (flongref02_Decode.l1 k y0 y1 y2 y3 y4) (flongref02_Decode.l1 (k + 1) y0 y1 y2 y3 y4)) ∧ (∀ y0 y1 y2 y3 y4 y5, LeO (flongref02_Decode.j2 k y0 y1 y2 y3 y4 y5) (flongref02_Decode.j2 (k + 1) y0 y1 y2 y3 y4 y5))
 | 0 => ⟨fun _ _ _ r h => by simp [flongref02_Decode.l0] at h, fun _ _ _ _ _ r h => by simp [flongref02_Decode.l1] at h, fun _ _ _ _ _ _ r h => by simp [flongref02_Decode.j2] at h⟩
 | k + 1 => by
  obtain ⟨ih0, ih1, ih2⟩ := flongref02_Decode.mono_l k
  refine ⟨?_, ?_, ?_⟩
  ·intro y0 y1 y2
   unfold flongref02_Decode.l0
   repeat' first
   | (with_reducible exact ih0 _ _ _)
   | (with_reducible exact ih1 _ _ _ _ _)
   | (with_reducible exact ih2 _ _ _ _ _ _)
   | (with_reducible exact flongref02_is.mono _ _)
   | (with_reducible exact flongref02_value.mono _ _)
   | (with_reducible exact LeO.refl _)
   | (with_reducible exact LeO.none _)
   | (with_reducible refine LeO.ite ?_ ?_)
   | (with_reducible refine LeO.bind ?_ (fun _ => ?_))
  ·intro y0 y1 y2 y3 y4
   unfold flongref02_Decode.l1
   repeat' first
   | (with_reducible exact ih0 _ _ _)
   | (with_reducible exact ih1 _ _ _ _ _)
   | (with_reducible exact ih2 _ _ _ _ _ _)
   | (with_reducible exact flongref02_is.mono _ _)
   | (with_reducible exact flongref02_value.mono _ _)
   | (with_reducible exact LeO.refl _)
   | (with_reducible exact LeO.none _)
   | (with_reducible refine LeO.ite ?_ ?_)
   | (with_reducible refine LeO.bind ?_ (fun _ => ?_))
  ·intro y0 y1 y2 y3 y4 y5
   unfold flongref02_Decode.j2
   repeat' first
   | (with_reducible exact ih0 _ _ _)
   | (with_reducible exact ih1 _ _ _ _ _)
   | (with_reducible exact ih2 _ _ _ _ _ _)
   | (with_reducible exact flongref02_is.mono _ _)
   | (with_reducible exact flongref02_value.mono _ _)
   | (with_reducible exact LeO.refl _)
   | (with_reducible exact LeO.none _)
   | (with_reducible refine LeO.ite ?_ ?_)
   | (with_reducible refine LeO.bind ?_ (fun _ => ?_))
theorem flongref02_Decode.mono : ∀ a0 k, LeO (flongref02_Decode.f k a0) (flongref02_Decode.f (k + 1) a0) := by
 intro a0 k
 obtain ⟨ih0, ih1, ih2⟩ := flongref02_Decode.mono_l k
 unfold flongref02_Decode.f
 repeat' first
   | (with_reducible exact ih0 _ _ _)
   | (with_reducible exact ih1 _ _ _ _ _)
   | (with_reducible exact ih2 _ _ _ _ _ _)
   | (with_reducible exact flongref02_is.mono _ _)
   | (with_reducible exact flongref02_value.mono _ _)
   | (with_reducible exact LeO.refl _)
   | (with_reducible exact LeO.none _)
   | (with_reducible refine LeO.ite ?_ ?_)
   | (with_reducible refine LeO.bind ?_ (fun _ => ?_))
theorem flongref02_Decode.calls (k : Nat) (A0 : Option Addr) (c0 : Nat) (l0 : List Int) (r : List Int) (w : World) (hr0 : Kd.C (Kd.int .u8) w A0 l0.length l0) (hc0 : l0.length ≤ c0) (h : flongref02_Decode.f k l0 = some r) :
  Calls Tryd.prog 72 #[.slice A0 l0.length c0] w fun e w' => ∃ v0_ : Value, e = .returned (v0_) ∧ Kd.R (Kd.int .i32) 21 w' w.heap.size (fun _ => True) v0_ r ∧ Below w.heap.size w w' := by
 have HR0 := Aside0.mk hr0
 have HC0 := Aside0.mk hc0
 clear hr0 hc0
 have HB := Aside0.mk (Below.refl w.heap.size w)
 have H : (flongref02_Decode.l0 k l0 ([] : List Int) 0) = some r := h
 clear h
 have H' := Aside0.mk H
 clear H
 go_enter Tryd.func72, Tryd.ntmps72
 go_wp2
 go_loopg [3, 4] k (fun kq v3 v4 w' => ∃ (x3_1 : List Int) (x4_1 : Int), v4 = .int .i64 x4_1 ∧ Aside0 (flongref02_Decode.l0 kq l0 x3_1 x4_1 = some r) ∧ Aside0 (kq ≤ k) ∧ Aside0 (Kd.R (Kd.int .i32) 21 w' w.heap.size (fun _ => True) v3 x3_1) ∧ Aside0 (Below w.heap.size w w'))
 case atStart => exact ⟨(([] : List Int)), (0), sA, H', ⟨Nat.le_refl _⟩, ⟨by first | exact Kd.R_nil _ _ _ _ _ | exact Kd.N_nil _ _ _ _ _ | exact Kd.V_nil _ _ _ _ _ | exact Kd.Q_nil _ _ _ _ _ | exact Kd.S_nil _ _ _ _ _⟩, ⟨bA⟩⟩
 case round =>
  clear H'
  obtain ⟨x3_1, x4_1, rfl, HA, HK1, HO_3, HB⟩ := hrel
  cases gk with
  | zero => exact absurd HA.out (by simp [flongref02_Decode.l0])
  | succ k1 =>
   have H := HA.out
   clear HA
   simp only [flongref02_Decode.l0] at H
   by_cases c2 : x4_1 < (l0.length : Int)
   ·rw [if_pos c2] at H
    have c2b0 : decide (x4_1 < (l0.length : Int)) = true := decide_eq_true c2
    clear c2
    have H' := Aside0.mk H
    clear H
    go_wp2
    go_loopg [5, 6] k1 (fun kq v5 v6 w' => ∃ (x5_2 : Int) (x6_2 : Int), v5 = .int .i64 x5_2 ∧ v6 = .int .i64 x6_2 ∧ Aside0 (flongref02_Decode.l1 kq l0 x3_1 x4_1 x5_2 x6_2 = some r) ∧ Aside0 (kq ≤ k1) ∧ Aside0 (Kd.R (Kd.int .i32) 21 w' w.heap.size (fun _ => True) u3 x3_1) ∧ Aside0 (Below w.heap.size w w'))
    case atStart => exact ⟨(0), (1), sA, sA, H', ⟨Nat.le_refl _⟩, ⟨kR HO_3⟩, ⟨bA⟩⟩
    case round =>
     clear H'
     try clear c2
     try clear c2b0
     try clear p2
     obtain ⟨x5_2, x6_2, rfl, rfl, HA, HK2, HO_3, HB⟩ := hrel
     cases gk with
     | zero => exact absurd HA.out (by simp [flongref02_Decode.l1])
     | succ k2 =>
      have H := HA.out
      clear HA
      simp only [flongref02_Decode.l1] at H
      have HC3 := Aside0.mk H
      clear H
      go_upto_region 6 with (fail)
      go_cut [24] (fun v24 wc => ∃ (kq : Nat) (x24_2 : Bool), v24 = .bool x24_2 ∧ Aside0 (flongref02_Decode.j2 kq l0 x3_1 x4_1 x5_2 x6_2 x24_2 = some r) ∧ Aside0 (kq ≤ k2) ∧ Aside0 (Kd.R (Kd.int .i32) 21 wc w.heap.size (fun _ => True) u3 x3_1) ∧ Aside0 (Below w.heap.size w wc))
      case first =>
       have H := HC3.out
       clear HC3
       by_cases c4 : x6_2 ≤ 4
       ·rw [if_pos c4] at H
        have c4b0 : decide (x6_2 ≤ 4) = true := decide_eq_true c4
        clear c4
        (first | rw [c4b0] | (simp only [i64_w, i32_w]; rw [c4b0]) | skip)
        by_cases c5 : (wrap64 (x4_1 + x6_2)) ≤ (l0.length : Int)
        ·rw [if_pos c5] at H
         have c5b0 : decide ((wrap64 (x4_1 + x6_2)) ≤ (l0.length : Int)) = true := decide_eq_true c5
         clear c5
         have H' := Aside0.mk H
         clear H
         go_wp2
         go_meet
         case rel => exact ⟨_, ((x5_2 == 0)), sA, H', ⟨by have := HK1.out; have := HK2.out; first | omega | exact Nat.le_refl _⟩, ⟨kR HO_3⟩, ⟨bA⟩⟩
        ·rw [if_neg c5] at H
         have c5b0 : decide ((wrap64 (x4_1 + x6_2)) ≤ (l0.length : Int)) = false := decide_eq_false c5
         clear c5
         have H' := Aside0.mk H
         clear H
         go_wp2
         go_meet
         case rel => exact ⟨_, (false), sA, H', ⟨by have := HK1.out; have := HK2.out; first | omega | exact Nat.le_refl _⟩, ⟨kR HO_3⟩, ⟨bA⟩⟩
       ·rw [if_neg c4] at H
        have c4b0 : decide (x6_2 ≤ 4) = false := decide_eq_false c4
        clear c4
        (first | rw [c4b0] | (simp only [i64_w, i32_w]; rw [c4b0]) | skip)
        have H' := Aside0.mk H
        clear H
        go_wp2
        go_meet
        case rel => exact ⟨_, (false), sA, H', ⟨by have := HK1.out; have := HK2.out; first | omega | exact Nat.le_refl _⟩, ⟨kR HO_3⟩, ⟨bA⟩⟩
      case rest =>
       clear HC3
       try clear c2
       try clear c2b0
       try clear p2
       try clear c4
       try clear c4b0
       try clear c5
       try clear c5b0
       try clear p2
       obtain ⟨kq, x24_2, rfl, HA, HJ2, HO_3, HB⟩ := hcut
       cases kq with
       | zero => exact absurd HA.out (by simp [flongref02_Decode.j2])
       | succ kj2 =>
        have H := HA.out
        clear HA
        simp only [flongref02_Decode.j2] at H
        by_cases c6 : x24_2 = true
        ·subst c6
         have H1 : (if 0 ≤ x4_1 then (if x4_1 ≤ (wrap64 (x4_1 + x6_2)) then (if (wrap64 (x4_1 + x6_2)) ≤ (l0.length : Int) then ((flongref02_is.f kj2 ((l0.take ((wrap64 (x4_1 + x6_2)) : Int).toNat).drop (x4_1 : Int).toNat)).bind fun t432 => (if t432 = true then (flongref02_Decode.l1 kj2 l0 x3_1 x4_1 x6_2 (wrap64 (x6_2 + 1))) else (flongref02_Decode.l1 kj2 l0 x3_1 x4_1 x5_2 (wrap64 (x6_2 + 1))))) else (none)) else (none)) else (none)) = some r := by rw [if_pos rfl] at H; exact H
         clear H
         have H := H1
         clear H1
         by_cases c7 : 0 ≤ x4_1
         ·rw [if_pos c7] at H
          have c7b0 := eq_true c7
          have c7b1 : decide (0 ≤ x4_1) = true := decide_eq_true c7
          clear c7
          by_cases c8 : x4_1 ≤ (wrap64 (x4_1 + x6_2))
          ·rw [if_pos c8] at H
           have c8b0 := eq_true c8
           have c8b1 : decide (x4_1 ≤ (wrap64 (x4_1 + x6_2))) = true := decide_eq_true c8
           by_cases c9 : (wrap64 (x4_1 + x6_2)) ≤ (l0.length : Int)
           ·rw [if_pos c9] at H
            have c9b0 := eq_true c9
            have c9b1 : decide ((wrap64 (x4_1 + x6_2)) ≤ (l0.length : Int)) = true := decide_eq_true c9
            replace H := Option.bind_eq_some_iff.mp H
            obtain ⟨t432, A100, H⟩ := H
            replace H : (if t432 = true then (flongref02_Decode.l1 kj2 l0 x3_1 x4_1 x6_2 (wrap64 (x6_2 + 1))) else (flongref02_Decode.l1 kj2 l0 x3_1 x4_1 x5_2 (wrap64 (x6_2 + 1)))) = some r := H
            have A10 := Aside0.mk A100
            clear A100
            by_cases c11 : t432 = true
            ·subst c11
             have H1 : (flongref02_Decode.l1 kj2 l0 x3_1 x4_1 x6_2 (wrap64 (x6_2 + 1))) = some r := by rw [if_pos rfl] at H; exact H
             clear H
             have H := H1
             clear H1
             have H' := Aside0.mk H
             clear H
             obtain ⟨i012, hi012, _, hsz12, _⟩ := info_parts info5
             obtain ⟨A12, hcut12, hA12, hC12⟩ := print_mid_of (P := Tryd.prog) (Value.int .u8) 0 25 5 .i64 .i64 Tryd.underlying25 hi012 hsz12 A0 c0 l0 x4_1 (wrap64 (x4_1 + x6_2)) (of_decide_eq_true asA) (by first | omega | exact of_decide_eq_true asA) (of_decide_eq_true asA) HC0.out
             have HR431 := Aside0.mk (Kd.C_of_reads (h1 := fun _ => rfl) (hA12 _ (Kd.reads_of_C HR0.out)))
             have HC431 := Aside0.mk hC12
             clear hA12 hC12 hi012 hsz12
             go_wp2_with (first | ((with_reducible refine gate_callee (f := 85) rfl ?_); refine goesL_ (some 33) rfl rfl Tryd.func85 (by kernel_rfl) rfl #[.slice A12 ((l0.take ((wrap64 (x4_1 + x6_2)) : Int).toNat).drop (x4_1 : Int).toNat).length (c0 - x4_1.toNat)] rfl (by (try simp only [List.map_toArray, List.map_cons, List.map_nil]); first | done | (rw [show ((l0.take ((wrap64 (x4_1 + x6_2)) : Int).toNat).drop (x4_1 : Int).toNat).length = ((wrap64 (x4_1 + x6_2)).toNat - x4_1.toNat) from (by rw [List.length_drop, List.length_take]; have h_ : ((wrap64 (x4_1 + x6_2)) : Int) ≤ (l0.length : Int) := of_decide_eq_true asA; omega)] <;> rfl) | rfl | (simp only [List.length_drop, List.length_take]; rfl)) ?_; (with_reducible refine (flongref02_is.calls kj2 _ _ ((l0.take ((wrap64 (x4_1 + x6_2)) : Int).toNat).drop (x4_1 : Int).toNat) true _ ?side1 ?side2 A10.out).mono ?_); (case side1 => repeat (first | exact (Kd.C_below HR431.out HB.out) | (with_reducible refine Kd.C_alloc ?_ _) | (with_reducible refine Kd.C_drewN ?_ _) | (with_reducible refine Kd.C_drew ?_))); (case side2 => exact HC431.out); rintro e w13 ⟨rfl, hb⟩; refine ⟨_, rfl, ?_⟩; replace HO_3 := Aside0.mk (Kd.R_below (kR HO_3) hb); replace HB := Aside0.mk (below_step bA hb); (try clear hb); (try clear hb2); (try clear hk); (try clear hi)))
             go_roundg kj2
             case measure => have := HK1.out; have := HK2.out; have := HJ2.out; omega
             case rel => exact ⟨(x6_2), (wrap64 (x6_2 + 1)), sA, sA, H', ⟨by have := HK1.out; have := HK2.out; have := HJ2.out; omega⟩, ⟨kR HO_3⟩, ⟨bA⟩⟩
            ·replace c11 := Bool.eq_false_iff.mpr c11
             subst c11
             have H1 : (flongref02_Decode.l1 kj2 l0 x3_1 x4_1 x5_2 (wrap64 (x6_2 + 1))) = some r := by rw [if_neg (show ¬ (false = true) by decide)] at H; exact H
             clear H
             have H := H1
             clear H1
             have H' := Aside0.mk H
             clear H
             obtain ⟨i014, hi014, _, hsz14, _⟩ := info_parts info5
             obtain ⟨A14, hcut14, hA14, hC14⟩ := print_mid_of (P := Tryd.prog) (Value.int .u8) 0 25 5 .i64 .i64 Tryd.underlying25 hi014 hsz14 A0 c0 l0 x4_1 (wrap64 (x4_1 + x6_2)) (of_decide_eq_true asA) (by first | omega | exact of_decide_eq_true asA) (of_decide_eq_true asA) HC0.out
             have HR431 := Aside0.mk (Kd.C_of_reads (h1 := fun _ => rfl) (hA14 _ (Kd.reads_of_C HR0.out)))
             have HC431 := Aside0.mk hC14
             clear hA14 hC14 hi014 hsz14
             go_wp2_with (first | ((with_reducible refine gate_callee (f := 85) rfl ?_); refine goesL_ (some 33) rfl rfl Tryd.func85 (by kernel_rfl) rfl #[.slice A14 ((l0.take ((wrap64 (x4_1 + x6_2)) : Int).toNat).drop (x4_1 : Int).toNat).length (c0 - x4_1.toNat)] rfl (by (try simp only [List.map_toArray, List.map_cons, List.map_nil]); first | done | (rw [show ((l0.take ((wrap64 (x4_1 + x6_2)) : Int).toNat).drop (x4_1 : Int).toNat).length = ((wrap64 (x4_1 + x6_2)).toNat - x4_1.toNat) from (by rw [List.length_drop, List.length_take]; have h_ : ((wrap64 (x4_1 + x6_2)) : Int) ≤ (l0.length : Int) := of_decide_eq_true asA; omega)] <;> rfl) | rfl | (simp only [List.length_drop, List.length_take]; rfl)) ?_; (with_reducible refine (flongref02_is.calls kj2 _ _ ((l0.take ((wrap64 (x4_1 + x6_2)) : Int).toNat).drop (x4_1 : Int).toNat) false _ ?side1 ?side2 A10.out).mono ?_); (case side1 => repeat (first | exact (Kd.C_below HR431.out HB.out) | (with_reducible refine Kd.C_alloc ?_ _) | (with_reducible refine Kd.C_drewN ?_ _) | (with_reducible refine Kd.C_drew ?_))); (case side2 => exact HC431.out); rintro e w15 ⟨rfl, hb⟩; refine ⟨_, rfl, ?_⟩; replace HO_3 := Aside0.mk (Kd.R_below (kR HO_3) hb); replace HB := Aside0.mk (below_step bA hb); (try clear hb); (try clear hb2); (try clear hk); (try clear hi)))
             go_roundg kj2
             case measure => have := HK1.out; have := HK2.out; have := HJ2.out; omega
             case rel => exact ⟨(x5_2), (wrap64 (x6_2 + 1)), sA, sA, H', ⟨by have := HK1.out; have := HK2.out; have := HJ2.out; omega⟩, ⟨kR HO_3⟩, ⟨bA⟩⟩
           ·rw [if_neg c9] at H
            exact absurd H (by simp)
          ·rw [if_neg c8] at H
           exact absurd H (by simp)
         ·rw [if_neg c7] at H
          exact absurd H (by simp)
        ·replace c6 := Bool.eq_false_iff.mpr c6
         subst c6
         have H1 : (if x5_2 = 0 then (if x3_1.length < 35184372088832 then (flongref02_Decode.l0 kj2 l0 (x3_1 ++ [65533]) (wrap64 (x4_1 + 1))) else (none)) else (if 0 ≤ x4_1 then (if x4_1 ≤ (wrap64 (x4_1 + x5_2)) then (if (wrap64 (x4_1 + x5_2)) ≤ (l0.length : Int) then ((flongref02_value.f kj2 ((l0.take ((wrap64 (x4_1 + x5_2)) : Int).toNat).drop (x4_1 : Int).toNat)).bind fun t437 => (if x3_1.length < 35184372088832 then (flongref02_Decode.l0 kj2 l0 (x3_1 ++ [wrap32 (t437)]) (wrap64 (x4_1 + x5_2))) else (none))) else (none)) else (none)) else (none))) = some r := by rw [if_neg (show ¬ (false = true) by decide)] at H; exact H
         clear H
         have H := H1
         clear H1
         by_cases c16 : x5_2 = 0
         ·rw [if_pos c16] at H
          have c16b0 : (x5_2 == 0) = true := beq_iff_eq.mpr c16
          have c16b1 : (x5_2 != 0) = false := bne_eq_false_iff_eq.mpr c16
          clear c16
          by_cases c17 : x3_1.length < 35184372088832
          ·rw [if_pos c17] at H
           have LMc17 := Aside0.mk c17
           clear c17
           obtain ⟨y433, hy433⟩ : ∃ y_ : List Int, y_ = (x3_1 ++ [65533]) := ⟨_, rfl⟩
           replace H : (flongref02_Decode.l0 kj2 l0 y433 (wrap64 (x4_1 + 1))) = some r := hyA hy433 H
           have Ny433 := Aside0.mk hy433
           clear hy433
           have H' := Aside0.mk H
           clear H
           go_wp2_with (first | ((with_reducible refine gate_builtin (b := .append) (xs := #[.tmp 37, .tmp 38]) rfl ?_); (try (refine gate_guard (by rfl) ?_; dsimp only)); at_builtin; refine Kd.R_append (Kd.int .i32) (w0 := w) w.heap.size rfl (.tmp 37) (.tmp 38) 77 21 (.int .i32 0) 4 rfl Tryd.underlying77 info21 rfl (by decide) (by omega) u3 x3_1 65533 [.int .i32 65533] (fun _ => True) (fun _ => False) rfl rfl ?aP (fun _ hk => hk.elim) ?aF ?aO ?aB ?aS ?aL ?_; (case aP => exact rfl); (case aB => exact bA); (case aF => exact (fun _ _ => trivial)); (case aO => exact (kR HO_3)); (case aS => exact (below_size bA)); (case aL => have := LMc17.out; omega); intro v434 w18 ho hb hg hat; rw [← Ny433.out] at ho; have n0_ := Aside0.mk (hb); have n1_ := Aside0.mk (ho); clear HB; clear HO_3; have HB := n0_; have HO435 := n1_; clear n0_ n1_; clear ho hb hg hat))
           go_roundg kj2
           case measure => have := HK1.out; have := HK2.out; have := HJ2.out; omega
           case rel => exact ⟨(y433), (wrap64 (x4_1 + 1)), sA, H', ⟨by have := HK1.out; have := HK2.out; have := HJ2.out; omega⟩, ⟨kR HO435⟩, ⟨bA⟩⟩
          ·rw [if_neg c17] at H
           exact absurd H (by simp)
         ·rw [if_neg c16] at H
          have c16b0 : (x5_2 == 0) = false := beq_eq_false_iff_ne.mpr c16
          have c16b1 : (x5_2 != 0) = true := bne_iff_ne.mpr c16
          by_cases c19 : 0 ≤ x4_1
          ·rw [if_pos c19] at H
           have c19b0 := eq_true c19
           have c19b1 : decide (0 ≤ x4_1) = true := decide_eq_true c19
           clear c19
           by_cases c20 : x4_1 ≤ (wrap64 (x4_1 + x5_2))
           ·rw [if_pos c20] at H
            have c20b0 := eq_true c20
            have c20b1 : decide (x4_1 ≤ (wrap64 (x4_1 + x5_2))) = true := decide_eq_true c20
            by_cases c21 : (wrap64 (x4_1 + x5_2)) ≤ (l0.length : Int)
            ·rw [if_pos c21] at H
             have c21b0 := eq_true c21
             have c21b1 : decide ((wrap64 (x4_1 + x5_2)) ≤ (l0.length : Int)) = true := decide_eq_true c21
             replace H := Option.bind_eq_some_iff.mp H
             obtain ⟨t437, A220, H⟩ := H
             replace H : (if x3_1.length < 35184372088832 then (flongref02_Decode.l0 kj2 l0 (x3_1 ++ [wrap32 (t437)]) (wrap64 (x4_1 + x5_2))) else (none)) = some r := H
             have A22 := Aside0.mk A220
             clear A220
             by_cases c23 : x3_1.length < 35184372088832
             ·rw [if_pos c23] at H
              have LMc23 := Aside0.mk c23
              clear c23
              obtain ⟨y438, hy438⟩ : ∃ y_ : List Int, y_ = (x3_1 ++ [wrap32 (t437)]) := ⟨_, rfl⟩
              replace H : (flongref02_Decode.l0 kj2 l0 y438 (wrap64 (x4_1 + x5_2))) = some r := hyA hy438 H
              have Ny438 := Aside0.mk hy438
              clear hy438
              have H' := Aside0.mk H
              clear H
              obtain ⟨i024, hi024, _, hsz24, _⟩ := info_parts info5
              obtain ⟨A24, hcut24, hA24, hC24⟩ := print_mid_of (P := Tryd.prog) (Value.int .u8) 0 25 5 .i64 .i64 Tryd.underlying25 hi024 hsz24 A0 c0 l0 x4_1 (wrap64 (x4_1 + x5_2)) (of_decide_eq_true asA) (by first | omega | exact of_decide_eq_true asA) (of_decide_eq_true asA) HC0.out
              have HR436 := Aside0.mk (Kd.C_of_reads (h1 := fun _ => rfl) (hA24 _ (Kd.reads_of_C HR0.out)))
              have HC436 := Aside0.mk hC24
              clear hA24 hC24 hi024 hsz24
              go_wp2_with (first | ((with_reducible refine gate_callee (f := 86) rfl ?_); refine goesL_ (some 49) rfl rfl Tryd.func86 (by kernel_rfl) rfl #[.slice A24 ((l0.take ((wrap64 (x4_1 + x5_2)) : Int).toNat).drop (x4_1 : Int).toNat).length (c0 - x4_1.toNat)] rfl (by (try simp only [List.map_toArray, List.map_cons, List.map_nil]); first | done | (rw [show ((l0.take ((wrap64 (x4_1 + x5_2)) : Int).toNat).drop (x4_1 : Int).toNat).length = ((wrap64 (x4_1 + x5_2)).toNat - x4_1.toNat) from (by rw [List.length_drop, List.length_take]; have h_ : ((wrap64 (x4_1 + x5_2)) : Int) ≤ (l0.length : Int) := of_decide_eq_true asA; omega)] <;> rfl) | rfl | (simp only [List.length_drop, List.length_take]; rfl)) ?_; (with_reducible refine (flongref02_value.calls kj2 _ _ ((l0.take ((wrap64 (x4_1 + x5_2)) : Int).toNat).drop (x4_1 : Int).toNat) t437 _ ?side1 ?side2 A22.out).mono ?_); (case side1 => repeat (first | exact (Kd.C_below HR436.out HB.out) | (with_reducible refine Kd.C_alloc ?_ _) | (with_reducible refine Kd.C_drewN ?_ _) | (with_reducible refine Kd.C_drew ?_))); (case side2 => exact HC436.out); rintro e w' ⟨rfl, ⟨nd, rfl⟩⟩; refine ⟨_, rfl, ?_⟩) | ((with_reducible refine gate_builtin (b := .append) (xs := #[.tmp 42, .tmp 51]) rfl ?_); (try (refine gate_guard (by rfl) ?_; dsimp only)); at_builtin; refine Kd.R_append (Kd.int .i32) (w0 := w) w.heap.size rfl (.tmp 42) (.tmp 51) 77 21 (.int .i32 0) 4 rfl Tryd.underlying77 info21 rfl (by decide) (by omega) u3 x3_1 (wrap32 (t437)) [.int .i32 (wrap32 (t437))] (fun _ => True) (fun _ => False) rfl rfl ?aP (fun _ hk => hk.elim) ?aF ?aO ?aB ?aS ?aL ?_; (case aP => exact rfl); (case aB => exact bA); (case aF => exact (fun _ _ => trivial)); (case aO => exact (kR HO_3)); (case aS => exact (below_size bA)); (case aL => have := LMc23.out; omega); intro v439 w25 ho hb hg hat; rw [← Ny438.out] at ho; have n0_ := Aside0.mk (hb); have n1_ := Aside0.mk (ho); clear HB; clear HO_3; have HB := n0_; have HO440 := n1_; clear n0_ n1_; clear ho hb hg hat))
              go_roundg kj2
              case measure => have := HK1.out; have := HK2.out; have := HJ2.out; omega
              case rel => exact ⟨(y438), (wrap64 (x4_1 + x5_2)), sA, H', ⟨by have := HK1.out; have := HK2.out; have := HJ2.out; omega⟩, ⟨kR HO440⟩, ⟨bA⟩⟩
             ·rw [if_neg c23] at H
              exact absurd H (by simp)
            ·rw [if_neg c21] at H
             exact absurd H (by simp)
           ·rw [if_neg c20] at H
            exact absurd H (by simp)
          ·rw [if_neg c19] at H
           exact absurd H (by simp)
   ·rw [if_neg c2] at H
    have c2b0 : decide (x4_1 < (l0.length : Int)) = false := decide_eq_false c2
    clear c2
    obtain rfl := Option.some.inj H
    go_wp2
    go_ret
    exact ⟨_, eW, kR HO_3, bA⟩

/-! ### flongref18_at: function 49 -/
def flongref18_at.f (k : Nat) (l0 : List Int) (a1 : Int) : Option (Int) := if a1 ≥ (l0.length : Int) then (some (-1)) else (if 0 ≤ a1 then (if a1 ≤ (mn (l0.length : Int) (wrap64 (a1 + 4))) then (if (mn (l0.length : Int) (wrap64 (a1 + 4))) ≤ (l0.length : Int) then ((flongref02_Decode.f k ((l0.take ((mn (l0.length : Int) (wrap64 (a1 + 4))) : Int).toNat).drop (a1 : Int).toNat)).bind fun t442 => (if 0 < (t442.length : Int) then ((flongref02_Control.f (rd t442 0)).bind fun t446 => (if t446 = true then (some (-1)) else (if a1 ≤ (l0.length : Int) then ((flongref02_One.f k (rd t442 0)).bind fun t448 => ((flongref18_begins.f (l0.drop (a1 : Int).toNat) t448).bind fun t451 => (if t451 = true then (some (rd t442 0)) else (some (-1))))) else (none)))) else (none))) else (none)) else (none)) else (none))
theorem flongref18_at.mono : ∀ a0 a1 k, LeO (flongref18_at.f k a0 a1) (flongref18_at.f (k + 1) a0 a1) := by
 intro a0 a1 k
 unfold flongref18_at.f
 repeat' first
   | (with_reducible exact flongref02_Decode.mono _ _)
   | (with_reducible exact flongref02_One.mono _ _)
   | (with_reducible exact LeO.refl _)
   | (with_reducible exact LeO.none _)
   | (with_reducible refine LeO.ite ?_ ?_)
   | (with_reducible refine LeO.bind ?_ (fun _ => ?_))
def flongref18_at.T4 : Bool × List (List Nat × List Nat) := (true, [([], []), ([0], [0]), ([1, 1], [1]), ([2], [2]), ([2], [2]), ([3, 4, 2], [2, 3, 4]), ([2], [2]), ([6, 2, 2], [2, 6]), ([5, 7, 7, 2], [2, 5, 7]), ([8, 2], [2, 8]), ([2, 9], [2, 9])])
def flongref18_at.B4 : List Nat := [0, 1, 3, 7, 7, 31, 7, 71, 255, 511, 1023]
theorem flongref18_at.tab4 : rtab .any (opsOf Tryd.f49 4) = flongref18_at.T4 := by kernel_rfl
theorem flongref18_at.bits4 : waitsOk flongref18_at.T4.2 flongref18_at.B4 = true := by kernel_rfl
theorem flongref18_at.calls (k : Nat) (A0 : Option Addr) (c0 : Nat) (l0 : List Int) (a1 : Int) (r : Int) (w : World) (hr0 : Kd.C (Kd.int .u8) w A0 l0.length l0) (hc0 : l0.length ≤ c0) (h : flongref18_at.f k l0 a1 = some r) :
  Calls Tryd.prog 49 #[.slice A0 l0.length c0, .int .i64 a1] w fun e w' => e = .returned (.int .i32 r) ∧ Below w.heap.size w w' := by
 have HR0 := Aside0.mk hr0
 have HC0 := Aside0.mk hc0
 clear hr0 hc0
 have HB := Aside0.mk (Below.refl w.heap.size w)
 have H : (if a1 ≥ (l0.length : Int) then (some (-1)) else (if 0 ≤ a1 then (if a1 ≤ (mn (l0.length : Int) (wrap64 (a1 + 4))) then (if (mn (l0.length : Int) (wrap64 (a1 + 4))) ≤ (l0.length : Int) then ((flongref02_Decode.f k ((l0.take ((mn (l0.length : Int) (wrap64 (a1 + 4))) : Int).toNat).drop (a1 : Int).toNat)).bind fun t442 => (if 0 < (t442.length : Int) then ((flongref02_Control.f (rd t442 0)).bind fun t446 => (if t446 = true then (some (-1)) else (if a1 ≤ (l0.length : Int) then ((flongref02_One.f k (rd t442 0)).bind fun t448 => ((flongref18_begins.f (l0.drop (a1 : Int).toNat) t448).bind fun t451 => (if t451 = true then (some (rd t442 0)) else (some (-1))))) else (none)))) else (none))) else (none)) else (none)) else (none))) = some r := h
 clear h
 by_cases c3 : a1 ≥ (l0.length : Int)
 ·rw [if_pos c3] at H
  have c3b0 : decide ((l0.length : Int) ≤ a1) = true := decide_eq_true c3
  clear c3
  obtain rfl := Option.some.inj H
  go_enter Tryd.func49, Tryd.ntmps49
  go_wp2
  go_ret
  exact ⟨eW, bA⟩
 ·rw [if_neg c3] at H
  have c3b0 : decide ((l0.length : Int) ≤ a1) = false := decide_eq_false c3
  clear c3
  obtain ⟨ji4, hji4⟩ : ∃ j_ : Int, (mn (l0.length : Int) (wrap64 (a1 + 4))) = j_ := ⟨_, rfl⟩
  replace H : (if 0 ≤ a1 then (if a1 ≤ (ji4) then (if (ji4) ≤ (l0.length : Int) then ((flongref02_Decode.f k ((l0.take ((ji4) : Int).toNat).drop (a1 : Int).toNat)).bind fun t442 => (if 0 < (t442.length : Int) then ((flongref02_Control.f (rd t442 0)).bind fun t446 => (if t446 = true then (some (-1)) else (if a1 ≤ (l0.length : Int) then ((flongref02_One.f k (rd t442 0)).bind fun t448 => ((flongref18_begins.f (l0.drop (a1 : Int).toNat) t448).bind fun t451 => (if t451 = true then (some (rd t442 0)) else (some (-1))))) else (none)))) else (none))) else (none)) else (none)) else (none)) = some r := by first | (rw [hji4] at H; exact H) | (simp only [hji4] at H ⊢; exact H)
  have hji4_ : (if (wrap64 (a1 + 4)) < (l0.length : Int) then (wrap64 (a1 + 4)) else (l0.length : Int)) = ji4 := hji4
  by_cases c5 : 0 ≤ a1
  ·rw [if_pos c5] at H
   have c5b0 := eq_true c5
   have c5b1 : decide (0 ≤ a1) = true := decide_eq_true c5
   clear c5
   by_cases c6 : a1 ≤ (ji4)
   ·rw [if_pos c6] at H
    have c6b0 := eq_true c6
    have c6b1 : decide (a1 ≤ (ji4)) = true := decide_eq_true c6
    clear c6
    by_cases c7 : (ji4) ≤ (l0.length : Int)
    ·rw [if_pos c7] at H
     have c7b0 := eq_true c7
     have c7b1 : decide ((ji4) ≤ (l0.length : Int)) = true := decide_eq_true c7
     clear c7
     replace H := Option.bind_eq_some_iff.mp H
     obtain ⟨t442, A80, H⟩ := H
     replace H : (if 0 < (t442.length : Int) then ((flongref02_Control.f (rd t442 0)).bind fun t446 => (if t446 = true then (some (-1)) else (if a1 ≤ (l0.length : Int) then ((flongref02_One.f k (rd t442 0)).bind fun t448 => ((flongref18_begins.f (l0.drop (a1 : Int).toNat) t448).bind fun t451 => (if t451 = true then (some (rd t442 0)) else (some (-1))))) else (none)))) else (none)) = some r := H
     have A8 := Aside0.mk A80
     clear A80
     by_cases c9 : 0 < (t442.length : Int)
     ·rw [if_pos c9] at H
      have c9b0 : decide (0 < (t442.length : Int)) = true := decide_eq_true c9
      have c9b1 : decide (0 < t442.length) = true := decide_eq_true (by omega)
      clear c9
      replace H := Option.bind_eq_some_iff.mp H
      obtain ⟨t446, A100, H⟩ := H
      replace H : (if t446 = true then (some (-1)) else (if a1 ≤ (l0.length : Int) then ((flongref02_One.f k (rd t442 0)).bind fun t448 => ((flongref18_begins.f (l0.drop (a1 : Int).toNat) t448).bind fun t451 => (if t451 = true then (some (rd t442 0)) else (some (-1))))) else (none))) = some r := H
      have A10 := Aside0.mk A100
      clear A100
      by_cases c11 : t446 = true
      ·subst c11
       have H1 : (some (-1)) = some r := by rw [if_pos rfl] at H; exact H
       clear H
       have H := H1
       clear H1
       obtain rfl := Option.some.inj H
       obtain ⟨i012, hi012, _, hsz12, _⟩ := info_parts info5
       obtain ⟨A12, hcut12, hA12, hC12⟩ := print_mid_of (P := Tryd.prog) (Value.int .u8) 0 25 5 .i64 .i64 Tryd.underlying25 hi012 hsz12 A0 c0 l0 a1 (ji4) (of_decide_eq_true asA) (by first | omega | exact of_decide_eq_true asA) (of_decide_eq_true asA) HC0.out
       have HR441 := Aside0.mk (Kd.C_of_reads (h1 := fun _ => rfl) (hA12 _ (Kd.reads_of_C HR0.out)))
       have HC441 := Aside0.mk hC12
       clear hA12 hC12 hi012 hsz12
       go_enter Tryd.func49, Tryd.ntmps49
       try go_wp2_with (first | ((with_reducible refine gate_callee (f := 72) rfl ?_); refine goesL_ (some 18) rfl rfl Tryd.func72 (by kernel_rfl) rfl #[.slice A12 ((l0.take ((ji4) : Int).toNat).drop (a1 : Int).toNat).length (c0 - a1.toNat)] rfl (by (try simp only [List.map_toArray, List.map_cons, List.map_nil]); first | done | (rw [show ((l0.take ((ji4) : Int).toNat).drop (a1 : Int).toNat).length = ((ji4).toNat - a1.toNat) from (by rw [List.length_drop, List.length_take]; have h_ : ((ji4) : Int) ≤ (l0.length : Int) := of_decide_eq_true asA; omega)] <;> rfl) | (simp only [hji4]; rfl) | rfl | (simp only [List.length_drop, List.length_take]; rfl)) ?_; (with_reducible refine (flongref02_Decode.calls k _ _ ((l0.take ((ji4) : Int).toNat).drop (a1 : Int).toNat) t442 _ ?side1 ?side2 A8.out).mono ?_); (case side1 => repeat (first | exact HR441.out | (with_reducible refine Kd.C_alloc ?_ _) | (with_reducible refine Kd.C_drewN ?_ _) | (with_reducible refine Kd.C_drew ?_))); (case side2 => exact HC441.out); rintro e w13 ⟨v443, rfl, ho0, hb⟩; refine ⟨_, rfl, ?_⟩; have HO444 := Aside0.mk (Kd.R_lower ho0 (below_size bA)); replace HB := Aside0.mk (below_step bA hb); (try clear hb); (try clear hb2); (try clear hk); (try clear hi); (try clear ho0); obtain ⟨Ao14, co14, eo14⟩ := Kd.R_slice HO444.out; subst eo14; have p445 : 0 ≤ (0 : Int) := (by omega); have q445 : 0 < (t442.length : Int) := of_decide_eq_true asA; obtain ⟨ad445, e445, hx445_0⟩ := Kd.at_int (Kd.R_reads' HO444.out).2.2 0 p445 q445; cases e445; have qi445 : (0 < t442.length) = True := eq_true (by omega); (try rw [show ((0 : Int)).toNat = 0 from rfl] at hx445_0); (try rw [Addr.add_zero'] at hx445_0); replace p445 := eq_true p445; replace q445 := eq_true q445))
       have n0_ := Aside0.mk (Kd.R_drew HO444.out)
       have n1_ := Aside0.mk (below_drew1 HB.out)
       clear HO444
       clear HB
       have HO444 := n0_
       have HB := n1_
       clear n0_ n1_
       refine start_ (n := 11) (S := fun w' => True) (ds := []) #[false, false, false, false, false, false, false, false, false, false, false] (by kernel_rfl) rfl rfl trivial (fun hHeld => ?_); refine with_tabW flongref18_at.tab4 flongref18_at.bits4 (fun HT_ HW_ => ?_)
       generalize w13.drew = w15 at HO444 HB hHeld ⊢
       refine pure_ (i := 0) (N := some 21) (v := ?_) (a' := ?_) #[true, false, false, false, false, false, false, false, false, false, false] rfl rfl (any_of HT_.out (by kernel_rfl)) (fun _ _ _ h => h) (Or.inl ⟨by rfl, ?_⟩) ?_ ?_
       rotate_left
       ·intro w'
        go_simp
        with_reducible rfl
       rotate_left
       ·simp only [Act.put, List.setIfInBounds_toArray, List.set_cons_zero, List.set_cons_succ, i64_w, i32_w]
        rfl
       refine one_ (i := 1) (N := some 22) #[true, true, false, false, false, false, false, false, false, false, false] rfl rfl (one_of HT_.out (by kernel_rfl)) (by decide) (fun K hK => ?_)
       refine goes_ Tryd.func57 (by kernel_rfl) rfl #[.int .i32 (rd t442 0)] (by rfl) rfl rfl aP ?_
       with_reducible refine (flongref02_Control.calls (rd t442 0) true _ A10.out).mono ?_
       rintro e w' ⟨rfl, ⟨nd, rfl⟩⟩
       refine ⟨_, rfl, ?_⟩
       refine hK.out _ _ trivial (fun hHeld => ?_)
       clear hK K
       refine norm_ (a' := ?_) ?_ ?_
       rotate_left
       ·show Act.put _ (some 22) _ = _
        simp only [Act.put, List.setIfInBounds_toArray, List.set_cons_zero, List.set_cons_succ, i64_w, i32_w]
        rfl
       refine pure_ (i := 2) (N := some 23) (v := ?_) (a' := ?_) #[true, true, true, false, false, false, false, false, false, false, false] rfl rfl (any_of HT_.out (by kernel_rfl)) (fun _ _ _ h => h) (Or.inl ⟨by rfl, ?_⟩) ?_ ?_
       rotate_left
       ·intro w'
        go_simp
        with_reducible rfl
       rotate_left
       ·simp only [Act.put, List.setIfInBounds_toArray, List.set_cons_zero, List.set_cons_succ, i64_w, i32_w]
        rfl
       refine pure_ (i := 3) (N := some 24) (v := undef) (a' := ?_) #[true, true, true, true, false, false, false, false, false, false, false] rfl rfl (any_of HT_.out (by kernel_rfl)) (fun _ _ _ h => h) (Or.inr ⟨by rfl, rfl⟩) ?_ ?_
       rotate_left
       ·simp only [Act.put, List.setIfInBounds_toArray, List.set_cons_zero, List.set_cons_succ, i64_w, i32_w]
        rfl
       refine pure_ (i := 4) (N := some 25) (v := undef) (a' := ?_) #[true, true, true, true, true, false, false, false, false, false, false] rfl rfl (any_of HT_.out (by kernel_rfl)) (fun _ _ _ h => h) (Or.inr ⟨by rfl, rfl⟩) ?_ ?_
       rotate_left
       ·simp only [Act.put, List.setIfInBounds_toArray, List.set_cons_zero, List.set_cons_succ, i64_w, i32_w]
        rfl
       refine pure_ (i := 5) (N := some 26) (v := undef) (a' := ?_) #[true, true, true, true, true, true, false, false, false, false, false] rfl rfl (any_of HT_.out (by kernel_rfl)) (fun _ _ _ h => h) (Or.inr ⟨by rfl, rfl⟩) ?_ ?_
       rotate_left
       ·simp only [Act.put, List.setIfInBounds_toArray, List.set_cons_zero, List.set_cons_succ, i64_w, i32_w]
        rfl
       refine pure_ (i := 6) (N := some 27) (v := undef) (a' := ?_) #[true, true, true, true, true, true, true, false, false, false, false] rfl rfl (any_of HT_.out (by kernel_rfl)) (fun _ _ _ h => h) (Or.inr ⟨by rfl, rfl⟩) ?_ ?_
       rotate_left
       ·simp only [Act.put, List.setIfInBounds_toArray, List.set_cons_zero, List.set_cons_succ, i64_w, i32_w]
        rfl
       refine pure_ (i := 7) (N := some 28) (v := undef) (a' := ?_) #[true, true, true, true, true, true, true, true, false, false, false] rfl rfl (any_of HT_.out (by kernel_rfl)) (fun _ _ _ h => h) (Or.inr ⟨by rfl, rfl⟩) ?_ ?_
       rotate_left
       ·simp only [Act.put, List.setIfInBounds_toArray, List.set_cons_zero, List.set_cons_succ, i64_w, i32_w]
        rfl
       refine pure_ (i := 8) (N := some 29) (v := undef) (a' := ?_) #[true, true, true, true, true, true, true, true, true, false, false] rfl rfl (any_of HT_.out (by kernel_rfl)) (fun _ _ _ h => h) (Or.inr ⟨by rfl, rfl⟩) ?_ ?_
       rotate_left
       ·simp only [Act.put, List.setIfInBounds_toArray, List.set_cons_zero, List.set_cons_succ, i64_w, i32_w]
        rfl
       refine pure_ (i := 9) (N := some 30) (v := undef) (a' := ?_) #[true, true, true, true, true, true, true, true, true, true, false] rfl rfl (any_of HT_.out (by kernel_rfl)) (fun _ _ _ h => h) (Or.inr ⟨by rfl, rfl⟩) ?_ ?_
       rotate_left
       ·simp only [Act.put, List.setIfInBounds_toArray, List.set_cons_zero, List.set_cons_succ, i64_w, i32_w]
        rfl
       refine pure_ (i := 10) (N := some 31) (v := ?_) (a' := ?_) #[true, true, true, true, true, true, true, true, true, true, true] rfl rfl (any_of HT_.out (by kernel_rfl)) (fun _ _ _ h => h) (Or.inl ⟨by rfl, ?_⟩) ?_ ?_
       rotate_left
       ·intro w'
        go_simp
        with_reducible rfl
       rotate_left
       ·simp only [Act.put, List.setIfInBounds_toArray, List.set_cons_zero, List.set_cons_succ, i64_w, i32_w]
        rfl
       refine done_ (done_of HT_.out (by kernel_rfl)) ?_
       try go_wp2
       go_ret
       exact ⟨by first | rfl | (simp [errW_none, errW_some] <;> rfl) | (simp only [← hji4]; first | rfl | (simp [errW_none, errW_some] <;> rfl)) | (simp [*, errW_none, errW_some] <;> rfl), bA⟩
      ·replace c11 := Bool.eq_false_iff.mpr c11
       subst c11
       have H1 : (if a1 ≤ (l0.length : Int) then ((flongref02_One.f k (rd t442 0)).bind fun t448 => ((flongref18_begins.f (l0.drop (a1 : Int).toNat) t448).bind fun t451 => (if t451 = true then (some (rd t442 0)) else (some (-1))))) else (none)) = some r := by rw [if_neg (show ¬ (false = true) by decide)] at H; exact H
       clear H
       have H := H1
       clear H1
       have c16b0 := eq_true (of_decide_eq_true asA : 0 ≤ a1)
       by_cases c17 : a1 ≤ (l0.length : Int)
       ·rw [if_pos c17] at H
        have c17b0 := eq_true c17
        have c17b1 : decide (a1 ≤ (l0.length : Int)) = true := decide_eq_true c17
        clear c17
        replace H := Option.bind_eq_some_iff.mp H
        obtain ⟨t448, A180, H⟩ := H
        replace H : ((flongref18_begins.f (l0.drop (a1 : Int).toNat) t448).bind fun t451 => (if t451 = true then (some (rd t442 0)) else (some (-1)))) = some r := H
        have A18 := Aside0.mk A180
        clear A180
        replace H := Option.bind_eq_some_iff.mp H
        obtain ⟨t451, A190, H⟩ := H
        replace H : (if t451 = true then (some (rd t442 0)) else (some (-1))) = some r := H
        have A19 := Aside0.mk A190
        clear A190
        by_cases c20 : t451 = true
        ·subst c20
         have H1 : (some (rd t442 0)) = some r := by rw [if_pos rfl] at H; exact H
         clear H
         have H := H1
         clear H1
         obtain rfl := Option.some.inj H
         obtain ⟨i021, hi021, _, hsz21, _⟩ := info_parts info5
         obtain ⟨A21, hcut21, hA21, hC21⟩ := print_mid_of (P := Tryd.prog) (Value.int .u8) 0 25 5 .i64 .i64 Tryd.underlying25 hi021 hsz21 A0 c0 l0 a1 (ji4) (of_decide_eq_true asA) (by first | omega | exact of_decide_eq_true asA) (of_decide_eq_true asA) HC0.out
         have HR441 := Aside0.mk (Kd.C_of_reads (h1 := fun _ => rfl) (hA21 _ (Kd.reads_of_C HR0.out)))
         have HC441 := Aside0.mk hC21
         clear hA21 hC21 hi021 hsz21
         go_enter Tryd.func49, Tryd.ntmps49
         try go_wp2_with (first | ((with_reducible refine gate_callee (f := 72) rfl ?_); refine goesL_ (some 18) rfl rfl Tryd.func72 (by kernel_rfl) rfl #[.slice A21 ((l0.take ((ji4) : Int).toNat).drop (a1 : Int).toNat).length (c0 - a1.toNat)] rfl (by (try simp only [List.map_toArray, List.map_cons, List.map_nil]); first | done | (rw [show ((l0.take ((ji4) : Int).toNat).drop (a1 : Int).toNat).length = ((ji4).toNat - a1.toNat) from (by rw [List.length_drop, List.length_take]; have h_ : ((ji4) : Int) ≤ (l0.length : Int) := of_decide_eq_true asA; omega)] <;> rfl) | (simp only [hji4]; rfl) | rfl | (simp only [List.length_drop, List.length_take]; rfl)) ?_; (with_reducible refine (flongref02_Decode.calls k _ _ ((l0.take ((ji4) : Int).toNat).drop (a1 : Int).toNat) t442 _ ?side1 ?side2 A8.out).mono ?_); (case side1 => repeat (first | exact HR441.out | (with_reducible refine Kd.C_alloc ?_ _) | (with_reducible refine Kd.C_drewN ?_ _) | (with_reducible refine Kd.C_drew ?_))); (case side2 => exact HC441.out); rintro e w22 ⟨v443, rfl, ho0, hb⟩; refine ⟨_, rfl, ?_⟩; have HO444 := Aside0.mk (Kd.R_lower ho0 (below_size bA)); replace HB := Aside0.mk (below_step bA hb); (try clear hb); (try clear hb2); (try clear hk); (try clear hi); (try clear ho0); obtain ⟨Ao23, co23, eo23⟩ := Kd.R_slice HO444.out; subst eo23; have p445 : 0 ≤ (0 : Int) := (by omega); have q445 : 0 < (t442.length : Int) := of_decide_eq_true asA; obtain ⟨ad445, e445, hx445_0⟩ := Kd.at_int (Kd.R_reads' HO444.out).2.2 0 p445 q445; cases e445; have qi445 : (0 < t442.length) = True := eq_true (by omega); (try rw [show ((0 : Int)).toNat = 0 from rfl] at hx445_0); (try rw [Addr.add_zero'] at hx445_0); replace p445 := eq_true p445; replace q445 := eq_true q445))
         have n0_ := Aside0.mk (Kd.R_drew HO444.out)
         have n1_ := Aside0.mk (below_drew1 HB.out)
         clear HO444
         clear HB
         have HO444 := n0_
         have HB := n1_
         clear n0_ n1_
         refine start_ (n := 11) (S := fun w' => True) (ds := []) #[false, false, false, false, false, false, false, false, false, false, false] (by kernel_rfl) rfl rfl trivial (fun hHeld => ?_); refine with_tabW flongref18_at.tab4 flongref18_at.bits4 (fun HT_ HW_ => ?_)
         generalize w22.drew = w24 at HO444 HB hHeld ⊢
         refine pure_ (i := 0) (N := some 21) (v := ?_) (a' := ?_) #[true, false, false, false, false, false, false, false, false, false, false] rfl rfl (any_of HT_.out (by kernel_rfl)) (fun _ _ _ h => h) (Or.inl ⟨by rfl, ?_⟩) ?_ ?_
         rotate_left
         ·intro w'
          go_simp
          with_reducible rfl
         rotate_left
         ·simp only [Act.put, List.setIfInBounds_toArray, List.set_cons_zero, List.set_cons_succ, i64_w, i32_w]
          rfl
         refine one_ (i := 1) (N := some 22) #[true, true, false, false, false, false, false, false, false, false, false] rfl rfl (one_of HT_.out (by kernel_rfl)) (by decide) (fun K hK => ?_)
         refine goes_ Tryd.func57 (by kernel_rfl) rfl #[.int .i32 (rd t442 0)] (by rfl) rfl rfl aP ?_
         with_reducible refine (flongref02_Control.calls (rd t442 0) false _ A10.out).mono ?_
         rintro e w' ⟨rfl, ⟨nd, rfl⟩⟩
         refine ⟨_, rfl, ?_⟩
         obtain ⟨i025, hi025, _, hsz25, _⟩ := info_parts info5
         obtain ⟨A25, hcut25, hA25, hC25⟩ := print_drop_of (P := Tryd.prog) (Value.int .u8) 0 25 5 .i64 Tryd.underlying25 hi025 hsz25 A0 c0 l0 a1 (of_decide_eq_true asA) (of_decide_eq_true asA) HC0.out
         have HR447 := Aside0.mk (Kd.C_of_reads (h1 := fun _ => rfl) (hA25 _ (Kd.reads_of_C HR0.out)))
         have HC447 := Aside0.mk hC25
         clear hA25 hC25 hi025 hsz25
         refine hK.out _ _ trivial (fun hHeld => ?_)
         clear hK K
         refine norm_ (a' := ?_) ?_ ?_
         rotate_left
         ·show Act.put _ (some 22) _ = _
          simp only [Act.put, List.setIfInBounds_toArray, List.set_cons_zero, List.set_cons_succ, i64_w, i32_w]
          rfl
         refine pure_ (i := 2) (N := some 23) (v := ?_) (a' := ?_) #[true, true, true, false, false, false, false, false, false, false, false] rfl rfl (any_of HT_.out (by kernel_rfl)) (fun _ _ _ h => h) (Or.inl ⟨by rfl, ?_⟩) ?_ ?_
         rotate_left
         ·intro w'
          go_simp
          with_reducible rfl
         rotate_left
         ·simp only [Act.put, List.setIfInBounds_toArray, List.set_cons_zero, List.set_cons_succ, i64_w, i32_w]
          rfl
         refine pure_ (i := 3) (N := some 24) (v := ?_) (a' := ?_) #[true, true, true, true, false, false, false, false, false, false, false] rfl rfl (any_of HT_.out (by kernel_rfl)) (fun _ _ _ h => h) (Or.inl ⟨by rfl, ?_⟩) ?_ ?_
         rotate_left
         ·intro w'
          go_simp
          with_reducible rfl
         rotate_left
         ·simp only [Act.put, List.setIfInBounds_toArray, List.set_cons_zero, List.set_cons_succ, i64_w, i32_w]
          rfl
         refine pure_ (i := 4) (N := some 25) (v := ?_) (a' := ?_) #[true, true, true, true, true, false, false, false, false, false, false] rfl rfl (any_of HT_.out (by kernel_rfl)) (fun _ _ _ h => h) (Or.inl ⟨by rfl, ?_⟩) ?_ ?_
         rotate_left
         ·intro w'
          go_simp
          with_reducible rfl
         rotate_left
         ·simp only [Act.put, List.setIfInBounds_toArray, List.set_cons_zero, List.set_cons_succ, i64_w, i32_w]
          rfl
         refine pure_ (i := 5) (N := some 26) (v := ?_) (a' := ?_) #[true, true, true, true, true, true, false, false, false, false, false] rfl rfl (any_of HT_.out (by kernel_rfl)) (fun _ _ _ h => h) (Or.inl ⟨by rfl, ?_⟩) ?_ ?_
         rotate_left
         ·intro w'
          go_simp
          with_reducible rfl
         rotate_left
         ·simp only [Act.put, List.setIfInBounds_toArray, List.set_cons_zero, List.set_cons_succ, i64_w, i32_w]
          rfl
         refine pure_ (i := 6) (N := some 27) (v := ?_) (a' := ?_) #[true, true, true, true, true, true, true, false, false, false, false] rfl rfl (any_of HT_.out (by kernel_rfl)) (fun _ _ _ h => h) (Or.inl ⟨by rfl, ?_⟩) ?_ ?_
         rotate_left
         ·intro w'
          go_simp
          with_reducible rfl
         rotate_left
         ·simp only [Act.put, List.setIfInBounds_toArray, List.set_cons_zero, List.set_cons_succ, i64_w, i32_w]
          rfl
         refine one_ (i := 7) (N := some 28) #[true, true, true, true, true, true, true, true, false, false, false] rfl rfl (one_of HT_.out (by kernel_rfl)) (by decide) (fun K hK => ?_)
         refine goes_ Tryd.func28 (by kernel_rfl) rfl #[.int .i32 (rd t442 0)] (by rfl) rfl rfl aP ?_
         with_reducible refine (flongref02_One.calls k (rd t442 0) t448 _ A18.out).mono ?_
         rintro e w26 ⟨v449, rfl, ho0, hb⟩
         refine ⟨_, rfl, ?_⟩
         have n0_ := Aside0.mk (Kd.R_below (kR HO444) hb)
         have n1_ := Aside0.mk (Kd.R_lower ho0 (below_size bA))
         have n2_ := Aside0.mk (below_step bA hb)
         clear HO444
         clear HB
         have HO444 := n0_
         have HO450 := n1_
         have HB := n2_
         clear n0_ n1_ n2_
         (try clear hb)
         (try clear hb2)
         (try clear hk)
         (try clear hi)
         (try clear ho0)
         obtain ⟨Ao27, co27, eo27⟩ := Kd.R_slice HO450.out
         (first | subst eo27 | (injection eo27 with f1_ f2_ f3_; have f4_ := f1_.symm; have f5_ := f3_.symm; clear f1_ f2_ f3_; subst f4_; subst f5_))
         refine hK.out _ _ trivial (fun hHeld => ?_)
         clear hK K
         refine norm_ (a' := ?_) ?_ ?_
         rotate_left
         ·show Act.put _ (some 28) _ = _
          simp only [Act.put, List.setIfInBounds_toArray, List.set_cons_zero, List.set_cons_succ, i64_w, i32_w]
          rfl
         refine one_ (i := 8) (N := some 29) #[true, true, true, true, true, true, true, true, true, false, false] rfl rfl (one_of HT_.out (by kernel_rfl)) (by decide) (fun K hK => ?_)
         refine goes_ Tryd.func50 (by kernel_rfl) rfl #[.slice A25 (l0.drop (a1 : Int).toNat).length (c0 - a1.toNat), .slice Ao27 t448.length co27] (by rfl) rfl rfl (by (try simp only [List.map_toArray, List.map_cons, List.map_nil]); first | done | (rw [show (l0.drop (a1 : Int).toNat).length = (l0.length - a1.toNat) from List.length_drop] <;> rfl) | rfl | (simp only [List.length_drop, List.length_take]; rfl)) ?_
         with_reducible refine (flongref18_begins.calls _ _ (l0.drop (a1 : Int).toNat) _ _ t448 true _ ?side1 ?side2 ?side3 ?side4 A19.out).mono ?_
         (case side1 => repeat (first | exact (Kd.C_below HR447.out HB.out) | (with_reducible refine Kd.C_alloc ?_ _) | (with_reducible refine Kd.C_drewN ?_ _) | (with_reducible refine Kd.C_drew ?_)))
         (case side2 => exact HC447.out)
         (case side3 => repeat (first | exact (Kd.R_reads' HO450.out).2.2 | (with_reducible refine Kd.C_alloc ?_ _) | (with_reducible refine Kd.C_drewN ?_ _) | (with_reducible refine Kd.C_drew ?_)))
         (case side4 => exact (Kd.R_reads' HO450.out).2.1)
         rintro e w' ⟨rfl, ⟨nd, rfl⟩⟩
         refine ⟨_, rfl, ?_⟩
         refine hK.out _ _ trivial (fun hHeld => ?_)
         clear hK K
         refine norm_ (a' := ?_) ?_ ?_
         rotate_left
         ·show Act.put _ (some 29) _ = _
          simp only [Act.put, List.setIfInBounds_toArray, List.set_cons_zero, List.set_cons_succ, i64_w, i32_w]
          rfl
         refine pure_ (i := 9) (N := some 30) (v := ?_) (a' := ?_) #[true, true, true, true, true, true, true, true, true, true, false] rfl rfl (any_of HT_.out (by kernel_rfl)) (fun _ _ _ h => h) (Or.inl ⟨by rfl, ?_⟩) ?_ ?_
         rotate_left
         ·intro w'
          go_simp
          with_reducible rfl
         rotate_left
         ·simp only [Act.put, List.setIfInBounds_toArray, List.set_cons_zero, List.set_cons_succ, i64_w, i32_w]
          rfl
         refine pure_ (i := 10) (N := some 31) (v := ?_) (a' := ?_) #[true, true, true, true, true, true, true, true, true, true, true] rfl rfl (any_of HT_.out (by kernel_rfl)) (fun _ _ _ h => h) (Or.inl ⟨by rfl, ?_⟩) ?_ ?_
         rotate_left
         ·intro w'
          go_simp
          with_reducible rfl
         rotate_left
         ·simp only [Act.put, List.setIfInBounds_toArray, List.set_cons_zero, List.set_cons_succ, i64_w, i32_w]
          rfl
         refine done_ (done_of HT_.out (by kernel_rfl)) ?_
         try go_wp2
         go_ret
         exact ⟨by first | rfl | (simp [errW_none, errW_some] <;> rfl) | (simp only [← hji4]; first | rfl | (simp [errW_none, errW_some] <;> rfl)) | (simp [*, errW_none, errW_some] <;> rfl), bA⟩
        ·replace c20 := Bool.eq_false_iff.mpr c20
         subst c20
         have H1 : (some (-1)) = some r := by rw [if_neg (show ¬ (false = true) by decide)] at H; exact H
         clear H
         have H := H1
         clear H1
         obtain rfl := Option.some.inj H
         obtain ⟨i028, hi028, _, hsz28, _⟩ := info_parts info5
         obtain ⟨A28, hcut28, hA28, hC28⟩ := print_mid_of (P := Tryd.prog) (Value.int .u8) 0 25 5 .i64 .i64 Tryd.underlying25 hi028 hsz28 A0 c0 l0 a1 (ji4) (of_decide_eq_true asA) (by first | omega | exact of_decide_eq_true asA) (of_decide_eq_true asA) HC0.out
         have HR441 := Aside0.mk (Kd.C_of_reads (h1 := fun _ => rfl) (hA28 _ (Kd.reads_of_C HR0.out)))
         have HC441 := Aside0.mk hC28
         clear hA28 hC28 hi028 hsz28
         go_enter Tryd.func49, Tryd.ntmps49
         try go_wp2_with (first | ((with_reducible refine gate_callee (f := 72) rfl ?_); refine goesL_ (some 18) rfl rfl Tryd.func72 (by kernel_rfl) rfl #[.slice A28 ((l0.take ((ji4) : Int).toNat).drop (a1 : Int).toNat).length (c0 - a1.toNat)] rfl (by (try simp only [List.map_toArray, List.map_cons, List.map_nil]); first | done | (rw [show ((l0.take ((ji4) : Int).toNat).drop (a1 : Int).toNat).length = ((ji4).toNat - a1.toNat) from (by rw [List.length_drop, List.length_take]; have h_ : ((ji4) : Int) ≤ (l0.length : Int) := of_decide_eq_true asA; omega)] <;> rfl) | (simp only [hji4]; rfl) | rfl | (simp only [List.length_drop, List.length_take]; rfl)) ?_; (with_reducible refine (flongref02_Decode.calls k _ _ ((l0.take ((ji4) : Int).toNat).drop (a1 : Int).toNat) t442 _ ?side1 ?side2 A8.out).mono ?_); (case side1 => repeat (first | exact HR441.out | (with_reducible refine Kd.C_alloc ?_ _) | (with_reducible refine Kd.C_drewN ?_ _) | (with_reducible refine Kd.C_drew ?_))); (case side2 => exact HC441.out); rintro e w29 ⟨v443, rfl, ho0, hb⟩; refine ⟨_, rfl, ?_⟩; have HO444 := Aside0.mk (Kd.R_lower ho0 (below_size bA)); replace HB := Aside0.mk (below_step bA hb); (try clear hb); (try clear hb2); (try clear hk); (try clear hi); (try clear ho0); obtain ⟨Ao30, co30, eo30⟩ := Kd.R_slice HO444.out; subst eo30; have p445 : 0 ≤ (0 : Int) := (by omega); have q445 : 0 < (t442.length : Int) := of_decide_eq_true asA; obtain ⟨ad445, e445, hx445_0⟩ := Kd.at_int (Kd.R_reads' HO444.out).2.2 0 p445 q445; cases e445; have qi445 : (0 < t442.length) = True := eq_true (by omega); (try rw [show ((0 : Int)).toNat = 0 from rfl] at hx445_0); (try rw [Addr.add_zero'] at hx445_0); replace p445 := eq_true p445; replace q445 := eq_true q445))
         have n0_ := Aside0.mk (Kd.R_drew HO444.out)
         have n1_ := Aside0.mk (below_drew1 HB.out)
         clear HO444
         clear HB
         have HO444 := n0_
         have HB := n1_
         clear n0_ n1_
         refine start_ (n := 11) (S := fun w' => True) (ds := []) #[false, false, false, false, false, false, false, false, false, false, false] (by kernel_rfl) rfl rfl trivial (fun hHeld => ?_); refine with_tabW flongref18_at.tab4 flongref18_at.bits4 (fun HT_ HW_ => ?_)
         generalize w29.drew = w31 at HO444 HB hHeld ⊢
         refine pure_ (i := 0) (N := some 21) (v := ?_) (a' := ?_) #[true, false, false, false, false, false, false, false, false, false, false] rfl rfl (any_of HT_.out (by kernel_rfl)) (fun _ _ _ h => h) (Or.inl ⟨by rfl, ?_⟩) ?_ ?_
         rotate_left
         ·intro w'
          go_simp
          with_reducible rfl
         rotate_left
         ·simp only [Act.put, List.setIfInBounds_toArray, List.set_cons_zero, List.set_cons_succ, i64_w, i32_w]
          rfl
         refine one_ (i := 1) (N := some 22) #[true, true, false, false, false, false, false, false, false, false, false] rfl rfl (one_of HT_.out (by kernel_rfl)) (by decide) (fun K hK => ?_)
         refine goes_ Tryd.func57 (by kernel_rfl) rfl #[.int .i32 (rd t442 0)] (by rfl) rfl rfl aP ?_
         with_reducible refine (flongref02_Control.calls (rd t442 0) false _ A10.out).mono ?_
         rintro e w' ⟨rfl, ⟨nd, rfl⟩⟩
         refine ⟨_, rfl, ?_⟩
         obtain ⟨i032, hi032, _, hsz32, _⟩ := info_parts info5
         obtain ⟨A32, hcut32, hA32, hC32⟩ := print_drop_of (P := Tryd.prog) (Value.int .u8) 0 25 5 .i64 Tryd.underlying25 hi032 hsz32 A0 c0 l0 a1 (of_decide_eq_true asA) (of_decide_eq_true asA) HC0.out
         have HR447 := Aside0.mk (Kd.C_of_reads (h1 := fun _ => rfl) (hA32 _ (Kd.reads_of_C HR0.out)))
         have HC447 := Aside0.mk hC32
         clear hA32 hC32 hi032 hsz32
         refine hK.out _ _ trivial (fun hHeld => ?_)
         clear hK K
         refine norm_ (a' := ?_) ?_ ?_
         rotate_left
         ·show Act.put _ (some 22) _ = _
          simp only [Act.put, List.setIfInBounds_toArray, List.set_cons_zero, List.set_cons_succ, i64_w, i32_w]
          rfl
         refine pure_ (i := 2) (N := some 23) (v := ?_) (a' := ?_) #[true, true, true, false, false, false, false, false, false, false, false] rfl rfl (any_of HT_.out (by kernel_rfl)) (fun _ _ _ h => h) (Or.inl ⟨by rfl, ?_⟩) ?_ ?_
         rotate_left
         ·intro w'
          go_simp
          with_reducible rfl
         rotate_left
         ·simp only [Act.put, List.setIfInBounds_toArray, List.set_cons_zero, List.set_cons_succ, i64_w, i32_w]
          rfl
         refine pure_ (i := 3) (N := some 24) (v := ?_) (a' := ?_) #[true, true, true, true, false, false, false, false, false, false, false] rfl rfl (any_of HT_.out (by kernel_rfl)) (fun _ _ _ h => h) (Or.inl ⟨by rfl, ?_⟩) ?_ ?_
         rotate_left
         ·intro w'
          go_simp
          with_reducible rfl
         rotate_left
         ·simp only [Act.put, List.setIfInBounds_toArray, List.set_cons_zero, List.set_cons_succ, i64_w, i32_w]
          rfl
         refine pure_ (i := 4) (N := some 25) (v := ?_) (a' := ?_) #[true, true, true, true, true, false, false, false, false, false, false] rfl rfl (any_of HT_.out (by kernel_rfl)) (fun _ _ _ h => h) (Or.inl ⟨by rfl, ?_⟩) ?_ ?_
         rotate_left
         ·intro w'
          go_simp
          with_reducible rfl
         rotate_left
         ·simp only [Act.put, List.setIfInBounds_toArray, List.set_cons_zero, List.set_cons_succ, i64_w, i32_w]
          rfl
         refine pure_ (i := 5) (N := some 26) (v := ?_) (a' := ?_) #[true, true, true, true, true, true, false, false, false, false, false] rfl rfl (any_of HT_.out (by kernel_rfl)) (fun _ _ _ h => h) (Or.inl ⟨by rfl, ?_⟩) ?_ ?_
         rotate_left
         ·intro w'
          go_simp
          with_reducible rfl
         rotate_left
         ·simp only [Act.put, List.setIfInBounds_toArray, List.set_cons_zero, List.set_cons_succ, i64_w, i32_w]
          rfl
         refine pure_ (i := 6) (N := some 27) (v := ?_) (a' := ?_) #[true, true, true, true, true, true, true, false, false, false, false] rfl rfl (any_of HT_.out (by kernel_rfl)) (fun _ _ _ h => h) (Or.inl ⟨by rfl, ?_⟩) ?_ ?_
         rotate_left
         ·intro w'
          go_simp
          with_reducible rfl
         rotate_left
         ·simp only [Act.put, List.setIfInBounds_toArray, List.set_cons_zero, List.set_cons_succ, i64_w, i32_w]
          rfl
         refine one_ (i := 7) (N := some 28) #[true, true, true, true, true, true, true, true, false, false, false] rfl rfl (one_of HT_.out (by kernel_rfl)) (by decide) (fun K hK => ?_)
         refine goes_ Tryd.func28 (by kernel_rfl) rfl #[.int .i32 (rd t442 0)] (by rfl) rfl rfl aP ?_
         with_reducible refine (flongref02_One.calls k (rd t442 0) t448 _ A18.out).mono ?_
         rintro e w33 ⟨v449, rfl, ho0, hb⟩
         refine ⟨_, rfl, ?_⟩
         have n0_ := Aside0.mk (Kd.R_below (kR HO444) hb)
         have n1_ := Aside0.mk (Kd.R_lower ho0 (below_size bA))
         have n2_ := Aside0.mk (below_step bA hb)
         clear HO444
         clear HB
         have HO444 := n0_
         have HO450 := n1_
         have HB := n2_
         clear n0_ n1_ n2_
         (try clear hb)
         (try clear hb2)
         (try clear hk)
         (try clear hi)
         (try clear ho0)
         obtain ⟨Ao34, co34, eo34⟩ := Kd.R_slice HO450.out
         (first | subst eo34 | (injection eo34 with f1_ f2_ f3_; have f4_ := f1_.symm; have f5_ := f3_.symm; clear f1_ f2_ f3_; subst f4_; subst f5_))
         refine hK.out _ _ trivial (fun hHeld => ?_)
         clear hK K
         refine norm_ (a' := ?_) ?_ ?_
         rotate_left
         ·show Act.put _ (some 28) _ = _
          simp only [Act.put, List.setIfInBounds_toArray, List.set_cons_zero, List.set_cons_succ, i64_w, i32_w]
          rfl
         refine one_ (i := 8) (N := some 29) #[true, true, true, true, true, true, true, true, true, false, false] rfl rfl (one_of HT_.out (by kernel_rfl)) (by decide) (fun K hK => ?_)
         refine goes_ Tryd.func50 (by kernel_rfl) rfl #[.slice A32 (l0.drop (a1 : Int).toNat).length (c0 - a1.toNat), .slice Ao34 t448.length co34] (by rfl) rfl rfl (by (try simp only [List.map_toArray, List.map_cons, List.map_nil]); first | done | (rw [show (l0.drop (a1 : Int).toNat).length = (l0.length - a1.toNat) from List.length_drop] <;> rfl) | rfl | (simp only [List.length_drop, List.length_take]; rfl)) ?_
         with_reducible refine (flongref18_begins.calls _ _ (l0.drop (a1 : Int).toNat) _ _ t448 false _ ?side1 ?side2 ?side3 ?side4 A19.out).mono ?_
         (case side1 => repeat (first | exact (Kd.C_below HR447.out HB.out) | (with_reducible refine Kd.C_alloc ?_ _) | (with_reducible refine Kd.C_drewN ?_ _) | (with_reducible refine Kd.C_drew ?_)))
         (case side2 => exact HC447.out)
         (case side3 => repeat (first | exact (Kd.R_reads' HO450.out).2.2 | (with_reducible refine Kd.C_alloc ?_ _) | (with_reducible refine Kd.C_drewN ?_ _) | (with_reducible refine Kd.C_drew ?_)))
         (case side4 => exact (Kd.R_reads' HO450.out).2.1)
         rintro e w' ⟨rfl, ⟨nd, rfl⟩⟩
         refine ⟨_, rfl, ?_⟩
         refine hK.out _ _ trivial (fun hHeld => ?_)
         clear hK K
         refine norm_ (a' := ?_) ?_ ?_
         rotate_left
         ·show Act.put _ (some 29) _ = _
          simp only [Act.put, List.setIfInBounds_toArray, List.set_cons_zero, List.set_cons_succ, i64_w, i32_w]
          rfl
         refine pure_ (i := 9) (N := some 30) (v := ?_) (a' := ?_) #[true, true, true, true, true, true, true, true, true, true, false] rfl rfl (any_of HT_.out (by kernel_rfl)) (fun _ _ _ h => h) (Or.inl ⟨by rfl, ?_⟩) ?_ ?_
         rotate_left
         ·intro w'
          go_simp
          with_reducible rfl
         rotate_left
         ·simp only [Act.put, List.setIfInBounds_toArray, List.set_cons_zero, List.set_cons_succ, i64_w, i32_w]
          rfl
         refine pure_ (i := 10) (N := some 31) (v := ?_) (a' := ?_) #[true, true, true, true, true, true, true, true, true, true, true] rfl rfl (any_of HT_.out (by kernel_rfl)) (fun _ _ _ h => h) (Or.inl ⟨by rfl, ?_⟩) ?_ ?_
         rotate_left
         ·intro w'
          go_simp
          with_reducible rfl
         rotate_left
         ·simp only [Act.put, List.setIfInBounds_toArray, List.set_cons_zero, List.set_cons_succ, i64_w, i32_w]
          rfl
         refine done_ (done_of HT_.out (by kernel_rfl)) ?_
         try go_wp2
         go_ret
         exact ⟨by first | rfl | (simp [errW_none, errW_some] <;> rfl) | (simp only [← hji4]; first | rfl | (simp [errW_none, errW_some] <;> rfl)) | (simp [*, errW_none, errW_some] <;> rfl), bA⟩
       ·rw [if_neg c17] at H
        exact absurd H (by simp)
     ·rw [if_neg c9] at H
      exact absurd H (by simp)
    ·rw [if_neg c7] at H
     exact absurd H (by simp)
   ·rw [if_neg c6] at H
    exact absurd H (by simp)
  ·rw [if_neg c5] at H
   exact absurd H (by simp)

/-! ### flongref18_Take: function 21 -/
mutual
def flongref18_Take.l0 : Nat → List Int → List Int → Int → Option (Int × Int × Int × Int)
 | 0, _, _, _ => none
 | k + 1, x0, x5, x6 => if x6 < (x5.length : Int) then (flongref18_Take.l1 k x0 x5 x6 0) else (some (0, 0, 0, 5))
def flongref18_Take.l1 : Nat → List Int → List Int → Int → Int → Option (Int × Int × Int × Int)
 | 0, _, _, _, _ => none
 | k + 1, x0, x5, x6, x7 => if x7 ≤ 4 then ((flongref18_at.f k x0 x7).bind fun t457 => (if t457 < 0 then (flongref18_Take.j2 k x0 x5 x6 x7 t457 true) else (if t457 = 160 then (flongref18_Take.j2 k x0 x5 x6 x7 t457 true) else (if 0 ≤ x6 then (if x6 < (x5.length : Int) then (if (rd x5 x6) > 0 then (if t457 = 32 then (flongref18_Take.j2 k x0 x5 x6 x7 t457 true) else ((flongref02_Width.f k t457).bind fun t459 => (flongref18_Take.j2 k x0 x5 x6 x7 t457 (t459 == 0)))) else (flongref18_Take.j2 k x0 x5 x6 x7 t457 false)) else (none)) else (none))))) else (flongref18_Take.l0 k x0 x5 (wrap64 (x6 + 1)))
def flongref18_Take.j2 : Nat → List Int → List Int → Int → Int → Int → Bool → Option (Int × Int × Int × Int)
 | 0, _, _, _, _, _, _ => none
 | k + 1, x0, x5, x6, x7, x8, x49 => if x49 = true then (flongref18_Take.l1 k x0 x5 x6 (wrap64 (x7 + 2))) else (if 0 ≤ x6 then (if x6 < (x5.length : Int) then ((flongref18_One.f k x8 (rd x5 x6)).bind fun t461 => ((flongref18_begins.f x0 t461).bind fun t464 => (if t464 = true then (if x7 = 0 then (some (x8, rd x5 x6, (t461.length : Int), 0)) else (if (rd x5 x6) ≥ 2 then (some (x8, rd x5 x6, (t461.length : Int), 0)) else (flongref18_Take.l1 k x0 x5 x6 (wrap64 (x7 + 2))))) else (flongref18_Take.l1 k x0 x5 x6 (wrap64 (x7 + 2)))))) else (none)) else (none))
end
def flongref18_Take.f (k : Nat) (l0 : List Int) : Option (Int × Int × Int × Int) := (flongref18_at.f k l0 0).bind fun t453 => (if t453 < 0 then (some (0, 0, 0, 5)) else (flongref18_Take.l0 k l0 (([3, 2, 1, 0] : List Int)) 0))
theorem flongref18_Take.mono_l : ∀ k, (∀ y0 y1 y2, LeO (flongref18_Take.l0 k y0 y1 y2) (flongref18_Take.l0 (k + 1) y0 y1 y2)) ∧ (∀ y0 y1 y2 y3, LeO (flongref18_Take.l1 k y0 y1 y2 y3) (flongref18_Take.l1 (k + 1) y0 y1 y2 y3)) ∧ (∀ y0 y1 y2 y3 y4 y5, LeO (flongref18_Take.j2 k y0 y1 y2 y3 y4 y5) (flongref18_Take.j2 (k + 1) y0 y1 y2 y3 y4 y5))
 | 0 => ⟨fun _ _ _ r h => by simp [flongref18_Take.l0] at h, fun _ _ _ _ r h => by simp [flongref18_Take.l1] at h, fun _ _ _ _ _ _ r h => by simp [flongref18_Take.j2] at h⟩
 | k + 1 => by
  obtain ⟨ih0, ih1, ih2⟩ := flongref18_Take.mono_l k
  refine ⟨?_, ?_, ?_⟩
  ·intro y0 y1 y2
   unfold flongref18_Take.l0
   repeat' first
   | (with_reducible exact ih0 _ _ _)
   | (with_reducible exact ih1 _ _ _ _)
   | (with_reducible exact ih2 _ _ _ _ _ _)
   | (with_reducible exact flongref02_Width.mono _ _)
   | (with_reducible exact flongref18_One.mono _ _ _)
   | (with_reducible exact flongref18_at.mono _ _ _)
   | (with_reducible exact LeO.refl _)
   | (with_reducible exact LeO.none _)
   | (with_reducible refine LeO.ite ?_ ?_)
   | (with_reducible refine LeO.bind ?_ (fun _ => ?_))
  ·intro y0 y1 y2 y3
   unfold flongref18_Take.l1
   repeat' first
   | (with_reducible exact ih0 _ _ _)
   | (with_reducible exact ih1 _ _ _ _)
   | (with_reducible exact ih2 _ _ _ _ _ _)
   | (with_reducible exact flongref02_Width.mono _ _)
   | (with_reducible exact flongref18_One.mono _ _ _)
   | (with_reducible exact flongref18_at.mono _ _ _)
   | (with_reducible exact LeO.refl _)
   | (with_reducible exact LeO.none _)
   | (with_reducible refine LeO.ite ?_ ?_)
   | (with_reducible refine LeO.bind ?_ (fun _ => ?_))
  ·intro y0 y1 y2 y3 y4 y5
   unfold flongref18_Take.j2
   repeat' first
   | (with_reducible exact ih0 _ _ _)
   | (with_reducible exact ih1 _ _ _ _)
   | (with_reducible exact ih2 _ _ _ _ _ _)
   | (with_reducible exact flongref02_Width.mono _ _)
   | (with_reducible exact flongref18_One.mono _ _ _)
   | (with_reducible exact flongref18_at.mono _ _ _)
   | (with_reducible exact LeO.refl _)
   | (with_reducible exact LeO.none _)
   | (with_reducible refine LeO.ite ?_ ?_)
   | (with_reducible refine LeO.bind ?_ (fun _ => ?_))
theorem flongref18_Take.mono : ∀ a0 k, LeO (flongref18_Take.f k a0) (flongref18_Take.f (k + 1) a0) := by
 intro a0 k
 obtain ⟨ih0, ih1, ih2⟩ := flongref18_Take.mono_l k
 unfold flongref18_Take.f
 repeat' first
   | (with_reducible exact ih0 _ _ _)
   | (with_reducible exact ih1 _ _ _ _)
   | (with_reducible exact ih2 _ _ _ _ _ _)
   | (with_reducible exact flongref02_Width.mono _ _)
   | (with_reducible exact flongref18_One.mono _ _ _)
   | (with_reducible exact flongref18_at.mono _ _ _)
   | (with_reducible exact LeO.refl _)
   | (with_reducible exact LeO.none _)
   | (with_reducible refine LeO.ite ?_ ?_)
   | (with_reducible refine LeO.bind ?_ (fun _ => ?_))
theorem flongref18_Take.calls (k : Nat) (A0 : Option Addr) (c0 : Nat) (l0 : List Int) (r1 : Int) (r2 : Int) (r3 : Int) (r4 : Int) (w : World) (hr0 : Kd.C (Kd.int .u8) w A0 l0.length l0) (hc0 : l0.length ≤ c0) (h : flongref18_Take.f k l0 = some (r1, r2, r3, r4)) :
  Calls Tryd.prog 21 #[.slice A0 l0.length c0] w fun e w' => e = .returned (.tuple #[.agg #[.int .i32 r1, .int .u8 r2], .int .i64 r3, .int .i64 r4]) ∧ Below w.heap.size w w' := by
 have hu35 := Tryd.underlying35
 have HR0 := Aside0.mk hr0
 have HC0 := Aside0.mk hc0
 clear hr0 hc0
 have HB := Aside0.mk (Below.refl w.heap.size w)
 have H : ((flongref18_at.f k l0 0).bind fun t453 => (if t453 < 0 then (some (0, 0, 0, 5)) else (flongref18_Take.l0 k l0 (([3, 2, 1, 0] : List Int)) 0))) = some (r1, r2, r3, r4) := h
 clear h
 replace H := Option.bind_eq_some_iff.mp H
 obtain ⟨t453, A20, H⟩ := H
 replace H : (if t453 < 0 then (some (0, 0, 0, 5)) else (flongref18_Take.l0 k l0 (([3, 2, 1, 0] : List Int)) 0)) = some (r1, r2, r3, r4) := H
 have A2 := Aside0.mk A20
 clear A20
 by_cases c3 : t453 < 0
 ·rw [if_pos c3] at H
  have c3b0 : decide (t453 < 0) = true := decide_eq_true c3
  clear c3
  simp only [Option.some.injEq, Prod.mk.injEq] at H
  obtain ⟨rfl, rfl, rfl, rfl⟩ := H
  go_enter Tryd.func21, Tryd.ntmps21
  go_wp2_with (first | ((with_reducible refine gate_dst (N := 2) rfl ?_); refine box_event ?hg (N := 2) ?hd (cs := #[.int .i32 0, .int .u8 0]) (t := 35) ?hr ?_; (case hd => rfl); (case hg => rfl); (case hr => first | (go_simp; done) | (go_simp; rfl)); intro gb452 hg w4 hbox hb; have BK452 := Aside0.mk (hbox); have GW452 := Aside0.mk ((geA hg : w.heap.size ≤ gb452)); have GE452 := Aside0.mk ((geA hg : w.heap.size ≤ gb452)); replace HB := Aside0.mk (below_step bA hb); clear hb hbox hg) | ((with_reducible refine gate_callee (f := 49) rfl ?_); refine goesL_ (some 11) rfl rfl Tryd.func49 (by kernel_rfl) rfl #[.slice A0 l0.length c0, .int .i64 0] rfl aP ?_; (with_reducible refine (flongref18_at.calls k _ _ l0 0 t453 _ ?side1 ?side2 A2.out).mono ?_); (case side1 => repeat (first | exact (Kd.C_below HR0.out HB.out) | (with_reducible refine Kd.C_alloc ?_ _) | (with_reducible refine Kd.C_drewN ?_ _) | (with_reducible refine Kd.C_drew ?_))); (case side2 => exact HC0.out); rintro e w5 ⟨rfl, hb⟩; refine ⟨_, rfl, ?_⟩; replace BK452 := Aside0.mk (blk_below (g := gb452) (o := .cells #[.int .i32 0, .int .u8 0] 35 (0, 0)) (kB BK452) hb); replace HB := Aside0.mk (below_step bG hb); (try clear hb); (try clear hb2); (try clear hk); (try clear hi); have hcz6_0 : w5.cell? ⟨gb452, 0, none⟩ = some (.int .i32 0) := (blk_cell BK452.out 0).trans rfl; have hcz6_1 : w5.cell? ⟨gb452, 1, none⟩ = some (.int .u8 0) := (blk_cell BK452.out 1).trans rfl; have hfz6_0 := blk_frozen BK452.out 0; have hfz6_1 := blk_frozen BK452.out 1))
  refine bodyPost_ret (results_ctt rfl _ _ gb452 35 #[.int .i32 0, .int .u8 0] (0, 0) _ rfl (by (with_reducible repeat (first | refine blk_drewN ?_ _ | refine blk_drew ?_ | refine blk_alloc ?_ _)); refine blk_put (cs := #[.int .i32 0, .int .u8 0]) ?_ 1 _ rfl; (with_reducible repeat (first | refine blk_drewN ?_ _ | refine blk_drew ?_ | refine blk_alloc ?_ _)); refine blk_put (cs := #[.int .i32 0, .int .u8 0]) ?_ 0 _ rfl; (with_reducible repeat (first | refine blk_drewN ?_ _ | refine blk_drew ?_ | refine blk_alloc ?_ _)); exact BK452.out) Tryd.underlying35 rfl (by kernel_rfl)) rfl ?_
  exact ⟨eW, bG⟩
 ·rw [if_neg c3] at H
  have c3b0 : decide (t453 < 0) = false := decide_eq_false c3
  clear c3
  obtain ⟨y454, hy454⟩ : ∃ y_ : List Int, y_ = (([3, 2, 1, 0] : List Int)) := ⟨_, rfl⟩
  replace H : (flongref18_Take.l0 k l0 y454 0) = some (r1, r2, r3, r4) := hyA hy454 H
  have Ny454 := Aside0.mk hy454
  clear hy454
  have H' := Aside0.mk H
  clear H
  go_enter Tryd.func21, Tryd.ntmps21
  go_wp2_with (first | ((with_reducible refine gate_dst (N := 2) rfl ?_); refine box_event ?hg (N := 2) ?hd (cs := #[.int .i32 0, .int .u8 0]) (t := 35) ?hr ?_; (case hd => rfl); (case hg => rfl); (case hr => first | (go_simp; done) | (go_simp; rfl)); intro gb452 hg w7 hbox hb; have BK452 := Aside0.mk (hbox); have GW452 := Aside0.mk ((geA hg : w.heap.size ≤ gb452)); have GE452 := Aside0.mk ((geA hg : w.heap.size ≤ gb452)); replace HB := Aside0.mk (below_step bA hb); clear hb hbox hg) | ((with_reducible refine gate_callee (f := 49) rfl ?_); refine goesL_ (some 11) rfl rfl Tryd.func49 (by kernel_rfl) rfl #[.slice A0 l0.length c0, .int .i64 0] rfl aP ?_; (with_reducible refine (flongref18_at.calls k _ _ l0 0 t453 _ ?side1 ?side2 A2.out).mono ?_); (case side1 => repeat (first | exact (Kd.C_below HR0.out HB.out) | (with_reducible refine Kd.C_alloc ?_ _) | (with_reducible refine Kd.C_drewN ?_ _) | (with_reducible refine Kd.C_drew ?_))); (case side2 => exact HC0.out); rintro e w8 ⟨rfl, hb⟩; refine ⟨_, rfl, ?_⟩; replace BK452 := Aside0.mk (blk_below (g := gb452) (o := .cells #[.int .i32 0, .int .u8 0] 35 (0, 0)) (kB BK452) hb); replace HB := Aside0.mk (below_step bG hb); (try clear hb); (try clear hb2); (try clear hk); (try clear hi)) | ((with_reducible refine gate_dst (N := 14) rfl ?_); refine Kd.R_lit (Kd.int .u8) _ 5 ?hg (N := 14) ?hd (xs := ([3, 2, 1, 0] : List Int)) (inner := [.int .u8 3, .int .u8 2, .int .u8 1, .int .u8 0]) (ok := fun _ => True) (okp := fun _ => True) ?hr ?hp (fun _ hk => hk) trivial (Below.refl _ _) (Nat.le_refl _) (by simp) ?_; (case hd => rfl); (case hg => rfl); (case hr => first | (go_simp; done) | (go_simp; rfl)); (case hp => exact (Reps.one (show Kd.M (Kd.int .u8) _ _ _ 3 [.int .u8 3] from rfl) (Reps.one (show Kd.M (Kd.int .u8) _ _ _ 2 [.int .u8 2] from rfl) (Reps.one (show Kd.M (Kd.int .u8) _ _ _ 1 [.int .u8 1] from rfl) (Reps.one (show Kd.M (Kd.int .u8) _ _ _ 0 [.int .u8 0] from rfl) (Reps.none _ _)))))); intro v455 w9 ho10 hb hg_ hnew_; clear hg_ hnew_; (first | rw [← Ny454.out] at ho10 | (simp only [Int.reduceToNat] at ho10; rw [← Ny454.out] at ho10)); have HO456 := Aside0.mk (Kd.R_lower ho10 (below_size bG)); replace BK452 := Aside0.mk (blk_below (g := gb452) (o := .cells #[.int .i32 0, .int .u8 0] 35 (0, 0)) (kB BK452) hb); replace HB := Aside0.mk (below_step bG hb); clear hb ho10))
  go_loopg [6] k (fun kq v6 w' => ∃ (x6_1 : Int) (x453000_1 : Int) (x453001_1 : Int), v6 = .int .i64 x6_1 ∧ Aside0 (flongref18_Take.l0 kq l0 y454 x6_1 = some (r1, r2, r3, r4)) ∧ Aside0 (kq ≤ k) ∧ Aside0 (Kd.R (Kd.int .u8) 5 w' w.heap.size (fun _ => True) v455 y454) ∧ Aside0 (w'.heap[gb452]? = some (.cells #[.int .i32 x453000_1, .int .u8 x453001_1] 35 (0, 0))) ∧ Aside0 (Below w.heap.size w w'))
  case atStart => exact ⟨(0), (0), (0), sA, H', ⟨Nat.le_refl _⟩, ⟨kR HO456⟩, ⟨kB BK452⟩, ⟨bG⟩⟩
  case round =>
   clear H'
   try clear c2
   try clear p2
   try clear c3
   try clear c3b0
   try clear c4
   try clear hcz6_0
   try clear hcz6_1
   try clear hfz6_0
   try clear hfz6_1
   obtain ⟨x6_1, x453000_1, x453001_1, rfl, HA, HK1, HO_5, BK452, HB⟩ := hrel
   cases gk with
   | zero => exact absurd HA.out (by simp [flongref18_Take.l0])
   | succ k1 =>
    have H := HA.out
    clear HA
    simp only [flongref18_Take.l0] at H
    by_cases c11 : x6_1 < (y454.length : Int)
    ·rw [if_pos c11] at H
     have c11b0 : decide (x6_1 < (y454.length : Int)) = true := decide_eq_true c11
     clear c11
     have H' := Aside0.mk H
     clear H
     obtain ⟨Ao12, co12, eo12⟩ := Kd.R_slice HO_5.out
     subst eo12
     go_wp2
     go_loopg [7] k1 (fun kq v7 w' => ∃ (x7_2 : Int) (x453000_2 : Int) (x453001_2 : Int), v7 = .int .i64 x7_2 ∧ Aside0 (flongref18_Take.l1 kq l0 y454 x6_1 x7_2 = some (r1, r2, r3, r4)) ∧ Aside0 (kq ≤ k1) ∧ Aside0 (Kd.R (Kd.int .u8) 5 w' w.heap.size (fun _ => True) (.slice Ao12 y454.length co12) y454) ∧ Aside0 (w'.heap[gb452]? = some (.cells #[.int .i32 x453000_2, .int .u8 x453001_2] 35 (0, 0))) ∧ Aside0 (Below w.heap.size w w'))
     case atStart => exact ⟨(0), (x453000_1), (x453001_1), sA, H', ⟨Nat.le_refl _⟩, ⟨kR HO_5⟩, ⟨kB BK452⟩, ⟨bG⟩⟩
     case round =>
      clear H'
      try clear c1
      try clear c2
      try clear p2
      try clear c3
      try clear c3b0
      try clear c4
      try clear c11
      try clear c11b0
      try clear hcz6_0
      try clear hcz6_1
      try clear hfz6_0
      try clear hfz6_1
      try clear p2
      obtain ⟨x7_2, x453000_2, x453001_2, rfl, HA, HK2, HO_5, BK452, HB⟩ := hrel
      cases gk with
      | zero => exact absurd HA.out (by simp [flongref18_Take.l1])
      | succ k2 =>
       have H := HA.out
       clear HA
       simp only [flongref18_Take.l1] at H
       by_cases c13 : x7_2 ≤ 4
       ·rw [if_pos c13] at H
        have c13b0 : decide (x7_2 ≤ 4) = true := decide_eq_true c13
        clear c13
        replace H := Option.bind_eq_some_iff.mp H
        obtain ⟨t457, A140, H⟩ := H
        replace H : (if t457 < 0 then (flongref18_Take.j2 k2 l0 y454 x6_1 x7_2 t457 true) else (if t457 = 160 then (flongref18_Take.j2 k2 l0 y454 x6_1 x7_2 t457 true) else (if 0 ≤ x6_1 then (if x6_1 < (y454.length : Int) then (if (rd y454 x6_1) > 0 then (if t457 = 32 then (flongref18_Take.j2 k2 l0 y454 x6_1 x7_2 t457 true) else ((flongref02_Width.f k2 t457).bind fun t459 => (flongref18_Take.j2 k2 l0 y454 x6_1 x7_2 t457 (t459 == 0)))) else (flongref18_Take.j2 k2 l0 y454 x6_1 x7_2 t457 false)) else (none)) else (none)))) = some (r1, r2, r3, r4) := H
        have A14 := Aside0.mk A140
        clear A140
        have HC15 := Aside0.mk H
        clear H
        go_upto_region 11 with (first | ((with_reducible refine gate_callee (f := 49) rfl ?_); refine goesL_ (some 27) rfl rfl Tryd.func49 (by kernel_rfl) rfl #[.slice A0 l0.length c0, .int .i64 x7_2] rfl aP ?_; (with_reducible refine (flongref18_at.calls k2 _ _ l0 x7_2 t457 _ ?side1 ?side2 A14.out).mono ?_); (case side1 => repeat (first | exact (Kd.C_below HR0.out HB.out) | (with_reducible refine Kd.C_alloc ?_ _) | (with_reducible refine Kd.C_drewN ?_ _) | (with_reducible refine Kd.C_drew ?_))); (case side2 => exact HC0.out); rintro e w16 ⟨rfl, hb⟩; refine ⟨_, rfl, ?_⟩; replace HO_5 := Aside0.mk (Kd.R_below (kR HO_5) hb); replace BK452 := Aside0.mk (blk_below (g := gb452) (o := .cells #[.int .i32 x453000_2, .int .u8 x453001_2] 35 (0, 0)) (kB BK452) hb); replace HB := Aside0.mk (below_step bG hb); (try clear hb); (try clear hb2); (try clear hk); (try clear hi)))
        (try simp only [Act.put, List.setIfInBounds_toArray, List.set_cons_zero, List.set_cons_succ])
        go_cut [49] (fun v49 wc => ∃ (kq : Nat) (x49_14 : Bool), v49 = .bool x49_14 ∧ Aside0 (flongref18_Take.j2 kq l0 y454 x6_1 x7_2 t457 x49_14 = some (r1, r2, r3, r4)) ∧ Aside0 (kq ≤ k2) ∧ Aside0 (Kd.R (Kd.int .u8) 5 wc w.heap.size (fun _ => True) (.slice Ao12 y454.length co12) y454) ∧ Aside0 (wc.heap[gb452]? = some (.cells #[.int .i32 x453000_2, .int .u8 x453001_2] 35 (0, 0))) ∧ Aside0 (Below w.heap.size w wc))
        case first =>
         have H := HC15.out
         clear HC15
         by_cases c17 : t457 < 0
         ·rw [if_pos c17] at H
          have c17b0 : decide (t457 < 0) = true := decide_eq_true c17
          clear c17
          (first | rw [c17b0] | (simp only [i64_w, i32_w]; rw [c17b0]) | skip)
          have H' := Aside0.mk H
          clear H
          go_wp2
          go_meet
          case rel => exact ⟨_, (true), sA, H', ⟨by have := HK1.out; have := HK2.out; first | omega | exact Nat.le_refl _⟩, ⟨kR HO_5⟩, ⟨kB BK452⟩, ⟨bG⟩⟩
         ·rw [if_neg c17] at H
          have c17b0 : decide (t457 < 0) = false := decide_eq_false c17
          clear c17
          (first | rw [c17b0] | (simp only [i64_w, i32_w]; rw [c17b0]) | skip)
          by_cases c18 : t457 = 160
          ·rw [if_pos c18] at H
           have c18b0 : (t457 == 160) = true := beq_iff_eq.mpr c18
           have c18b1 : (t457 != 160) = false := bne_eq_false_iff_eq.mpr c18
           clear c18
           have H' := Aside0.mk H
           clear H
           go_wp2
           go_meet
           case rel => exact ⟨_, (true), sA, H', ⟨by have := HK1.out; have := HK2.out; first | omega | exact Nat.le_refl _⟩, ⟨kR HO_5⟩, ⟨kB BK452⟩, ⟨bG⟩⟩
          ·rw [if_neg c18] at H
           have c18b0 : (t457 == 160) = false := beq_eq_false_iff_ne.mpr c18
           have c18b1 : (t457 != 160) = true := bne_iff_ne.mpr c18
           by_cases c19 : 0 ≤ x6_1
           ·rw [if_pos c19] at H
            have c19b0 : decide (0 ≤ x6_1) = true := decide_eq_true c19
            clear c19
            by_cases c20 : x6_1 < (y454.length : Int)
            ·rw [if_pos c20] at H
             have c20b0 : decide (x6_1 < (y454.length : Int)) = true := decide_eq_true c20
             clear c20
             by_cases c21 : (rd y454 x6_1) > 0
             ·rw [if_pos c21] at H
              have c21b0 : decide (0 < (rd y454 x6_1)) = true := decide_eq_true c21
              clear c21
              by_cases c22 : t457 = 32
              ·rw [if_pos c22] at H
               have c22b0 : (t457 == 32) = true := beq_iff_eq.mpr c22
               have c22b1 : (t457 != 32) = false := bne_eq_false_iff_eq.mpr c22
               clear c22
               have H' := Aside0.mk H
               clear H
               have p458 : 0 ≤ (x6_1 : Int) := of_decide_eq_true asA
               have q458 : x6_1 < (y454.length : Int) := of_decide_eq_true asA
               obtain ⟨ad458, e458, hx458_0⟩ := Kd.at_int (Kd.R_reads' HO_5.out).2.2 x6_1 p458 q458
               cases e458
               replace p458 := eq_true p458
               replace q458 := eq_true q458
               go_wp2
               go_meet
               case rel => exact ⟨_, (true), sA, H', ⟨by have := HK1.out; have := HK2.out; first | omega | exact Nat.le_refl _⟩, ⟨kR HO_5⟩, ⟨kB BK452⟩, ⟨bG⟩⟩
              ·rw [if_neg c22] at H
               have c22b0 : (t457 == 32) = false := beq_eq_false_iff_ne.mpr c22
               have c22b1 : (t457 != 32) = true := bne_iff_ne.mpr c22
               replace H := Option.bind_eq_some_iff.mp H
               obtain ⟨t459, A230, H⟩ := H
               replace H : (flongref18_Take.j2 k2 l0 y454 x6_1 x7_2 t457 (t459 == 0)) = some (r1, r2, r3, r4) := H
               have A23 := Aside0.mk A230
               clear A230
               have H' := Aside0.mk H
               clear H
               have p458 : 0 ≤ (x6_1 : Int) := of_decide_eq_true asA
               have q458 : x6_1 < (y454.length : Int) := of_decide_eq_true asA
               obtain ⟨ad458, e458, hx458_0⟩ := Kd.at_int (Kd.R_reads' HO_5.out).2.2 x6_1 p458 q458
               cases e458
               replace p458 := eq_true p458
               replace q458 := eq_true q458
               go_wp2_with (first | (go_at_call 31; (with_reducible refine (flongref02_Width.calls k2 t457 t459 _ A23.out).mono ?_); rintro e w24 ⟨rfl, hb⟩; replace HO_5 := Aside0.mk (Kd.R_below (kR HO_5) hb); replace BK452 := Aside0.mk (blk_below (g := gb452) (o := .cells #[.int .i32 x453000_2, .int .u8 x453001_2] 35 (0, 0)) (kB BK452) hb); replace HB := Aside0.mk (below_step bG hb); (try clear hb); (try clear hb2); (try clear hk); (try clear hi)))
               go_meet
               case rel => exact ⟨_, ((t459 == 0)), sA, H', ⟨by have := HK1.out; have := HK2.out; first | omega | exact Nat.le_refl _⟩, ⟨kR HO_5⟩, ⟨kB BK452⟩, ⟨bG⟩⟩
             ·rw [if_neg c21] at H
              have c21b0 : decide (0 < (rd y454 x6_1)) = false := decide_eq_false c21
              clear c21
              have H' := Aside0.mk H
              clear H
              have p458 : 0 ≤ (x6_1 : Int) := of_decide_eq_true asA
              have q458 : x6_1 < (y454.length : Int) := of_decide_eq_true asA
              obtain ⟨ad458, e458, hx458_0⟩ := Kd.at_int (Kd.R_reads' HO_5.out).2.2 x6_1 p458 q458
              cases e458
              replace p458 := eq_true p458
              replace q458 := eq_true q458
              go_wp2
              go_meet
              case rel => exact ⟨_, (false), sA, H', ⟨by have := HK1.out; have := HK2.out; first | omega | exact Nat.le_refl _⟩, ⟨kR HO_5⟩, ⟨kB BK452⟩, ⟨bG⟩⟩
            ·rw [if_neg c20] at H
             exact absurd H (by simp)
           ·rw [if_neg c19] at H
            exact absurd H (by simp)
        case rest =>
         clear HC15
         try clear c1
         try clear c2
         try clear p2
         try clear c3
         try clear c3b0
         try clear c4
         try clear p4
         try clear q4
         try clear hx4
         try clear c11
         try clear c11b0
         try clear c13
         try clear c13b0
         try clear c17
         try clear c17b0
         try clear c18
         try clear c18b0
         try clear c18b1
         try clear c19
         try clear c19b0
         try clear c20
         try clear c20b0
         try clear c21
         try clear c21b0
         try clear c22
         try clear c22b0
         try clear c22b1
         try clear hcz6_0
         try clear hcz6_1
         try clear hfz6_0
         try clear hfz6_1
         try clear hx458_0
         try clear p2
         try clear p458
         try clear q458
         obtain ⟨kq, x49_14, rfl, HA, HJ14, HO_5, BK452, HB⟩ := hcut
         cases kq with
         | zero => exact absurd HA.out (by simp [flongref18_Take.j2])
         | succ kj14 =>
          have H := HA.out
          clear HA
          simp only [flongref18_Take.j2] at H
          by_cases c25 : x49_14 = true
          ·subst c25
           have H1 : (flongref18_Take.l1 kj14 l0 y454 x6_1 (wrap64 (x7_2 + 2))) = some (r1, r2, r3, r4) := by rw [if_pos rfl] at H; exact H
           clear H
           have H := H1
           clear H1
           have H' := Aside0.mk H
           clear H
           go_wp2
           go_roundg kj14
           case measure => have := HK1.out; have := HK2.out; have := HJ14.out; omega
           case rel => exact ⟨(wrap64 (x7_2 + 2)), (x453000_2), (x453001_2), sA, H', ⟨by have := HK1.out; have := HK2.out; have := HJ14.out; omega⟩, ⟨kR HO_5⟩, ⟨kB BK452⟩, ⟨bG⟩⟩
          ·replace c25 := Bool.eq_false_iff.mpr c25
           subst c25
           have H1 : (if 0 ≤ x6_1 then (if x6_1 < (y454.length : Int) then ((flongref18_One.f kj14 t457 (rd y454 x6_1)).bind fun t461 => ((flongref18_begins.f l0 t461).bind fun t464 => (if t464 = true then (if x7_2 = 0 then (some (t457, rd y454 x6_1, (t461.length : Int), 0)) else (if (rd y454 x6_1) ≥ 2 then (some (t457, rd y454 x6_1, (t461.length : Int), 0)) else (flongref18_Take.l1 kj14 l0 y454 x6_1 (wrap64 (x7_2 + 2))))) else (flongref18_Take.l1 kj14 l0 y454 x6_1 (wrap64 (x7_2 + 2)))))) else (none)) else (none)) = some (r1, r2, r3, r4) := by rw [if_neg (show ¬ (false = true) by decide)] at H; exact H
           clear H
           have H := H1
           clear H1
           by_cases c26 : 0 ≤ x6_1
           ·rw [if_pos c26] at H
            have c26b0 : decide (0 ≤ x6_1) = true := decide_eq_true c26
            clear c26
            by_cases c27 : x6_1 < (y454.length : Int)
            ·rw [if_pos c27] at H
             have c27b0 : decide (x6_1 < (y454.length : Int)) = true := decide_eq_true c27
             clear c27
             replace H := Option.bind_eq_some_iff.mp H
             obtain ⟨t461, A280, H⟩ := H
             replace H : ((flongref18_begins.f l0 t461).bind fun t464 => (if t464 = true then (if x7_2 = 0 then (some (t457, rd y454 x6_1, (t461.length : Int), 0)) else (if (rd y454 x6_1) ≥ 2 then (some (t457, rd y454 x6_1, (t461.length : Int), 0)) else (flongref18_Take.l1 kj14 l0 y454 x6_1 (wrap64 (x7_2 + 2))))) else (flongref18_Take.l1 kj14 l0 y454 x6_1 (wrap64 (x7_2 + 2))))) = some (r1, r2, r3, r4) := H
             have A28 := Aside0.mk A280
             clear A280
             replace H := Option.bind_eq_some_iff.mp H
             obtain ⟨t464, A290, H⟩ := H
             replace H : (if t464 = true then (if x7_2 = 0 then (some (t457, rd y454 x6_1, (t461.length : Int), 0)) else (if (rd y454 x6_1) ≥ 2 then (some (t457, rd y454 x6_1, (t461.length : Int), 0)) else (flongref18_Take.l1 kj14 l0 y454 x6_1 (wrap64 (x7_2 + 2))))) else (flongref18_Take.l1 kj14 l0 y454 x6_1 (wrap64 (x7_2 + 2)))) = some (r1, r2, r3, r4) := H
             have A29 := Aside0.mk A290
             clear A290
             by_cases c30 : t464 = true
             ·subst c30
              have H1 : (if x7_2 = 0 then (some (t457, rd y454 x6_1, (t461.length : Int), 0)) else (if (rd y454 x6_1) ≥ 2 then (some (t457, rd y454 x6_1, (t461.length : Int), 0)) else (flongref18_Take.l1 kj14 l0 y454 x6_1 (wrap64 (x7_2 + 2))))) = some (r1, r2, r3, r4) := by rw [if_pos rfl] at H; exact H
              clear H
              have H := H1
              clear H1
              by_cases c31 : x7_2 = 0
              ·rw [if_pos c31] at H
               have c31b0 : (x7_2 == 0) = true := beq_iff_eq.mpr c31
               have c31b1 : (x7_2 != 0) = false := bne_eq_false_iff_eq.mpr c31
               clear c31
               simp only [Option.some.injEq, Prod.mk.injEq] at H
               obtain ⟨rfl, rfl, rfl, rfl⟩ := H
               have p460 : 0 ≤ (x6_1 : Int) := of_decide_eq_true asA
               have q460 : x6_1 < (y454.length : Int) := of_decide_eq_true asA
               obtain ⟨ad460, e460, hx460_0⟩ := Kd.at_int (Kd.R_reads' HO_5.out).2.2 x6_1 p460 q460
               cases e460
               replace p460 := eq_true p460
               replace q460 := eq_true q460
               go_wp2_with (first | ((with_reducible refine gate_callee (f := 40) rfl ?_); refine goesL_ (some 56) rfl rfl Tryd.func40 (by kernel_rfl) rfl #[.agg #[.int .i32 t457, .int .u8 (rd y454 x6_1)]] rfl aP ?_; (with_reducible refine (flongref18_One.calls kj14 t457 (rd y454 x6_1) t461 _ A28.out).mono ?_); rintro e w32 ⟨v462, rfl, ho0, hb⟩; refine ⟨_, rfl, ?_⟩; have n0_ := Aside0.mk (Kd.R_below (kR HO_5) hb); have n1_ := Aside0.mk (Kd.V_lower (Kd.V_mono (ok' := fun k_ => some k_ ≠ (.slice (some ad460) y454.length co12 : Value).ownBlock ∧ k_ ≠ gb452) ho0 (fun k_ hk_ => ⟨(Kd.fresh' (Kd.R_lt (kR HO_5)) k_ hk_), (Kd.freshB (g := gb452) (o := .cells #[.int .i32 x453000_2, .int .u8 x453001_2] 35 (0, 0)) (kB BK452) k_ hk_)⟩)) (below_size bG)); have n2_ := Aside0.mk (blk_below (g := gb452) (o := .cells #[.int .i32 x453000_2, .int .u8 x453001_2] 35 (0, 0)) (kB BK452) hb); have n3_ := Aside0.mk (below_step bG hb); clear HO_5; clear BK452; clear HB; have HO_5 := n0_; have HO463 := n1_; have BK452 := n2_; have HB := n3_; clear n0_ n1_ n2_ n3_; (try clear hb); (try clear hb2); (try clear hk); (try clear hi); (try clear ho0); obtain ⟨Ao33, co33, eo33⟩ := Kd.V_slice HO463.out; subst eo33) | ((with_reducible refine gate_callee (f := 50) rfl ?_); refine goesL_ (some 59) rfl rfl Tryd.func50 (by kernel_rfl) rfl #[.slice A0 l0.length c0, .slice Ao33 t461.length co33] rfl aP ?_; (with_reducible refine (flongref18_begins.calls _ _ l0 _ _ t461 true _ ?side1 ?side2 ?side3 ?side4 A29.out).mono ?_); (case side1 => repeat (first | exact (Kd.C_below HR0.out HB.out) | (with_reducible refine Kd.C_alloc ?_ _) | (with_reducible refine Kd.C_drewN ?_ _) | (with_reducible refine Kd.C_drew ?_))); (case side2 => exact HC0.out); (case side3 => repeat (first | exact (Kd.V_reads' HO463.out).2.2 | (with_reducible refine Kd.C_alloc ?_ _) | (with_reducible refine Kd.C_drewN ?_ _) | (with_reducible refine Kd.C_drew ?_))); (case side4 => exact (Kd.V_reads' HO463.out).2.1); rintro e w' ⟨rfl, ⟨nd, rfl⟩⟩; refine ⟨_, rfl, ?_⟩; (try (rw [drewN_self w32]; generalize hq_ : World.drewN w32 _ = w32; have n0_ : Aside0 (Kd.V (Kd.int .u8) 5 w32 w.heap.size (fun k_ => some k_ ≠ (.slice (some ad460) y454.length co12 : Value).ownBlock ∧ k_ ≠ gb452) (.slice Ao33 t461.length co33) t461) := ⟨by rw [← hq_]; exact (kV HO463)⟩; have n1_ : Aside0 (Kd.R (Kd.int .u8) 5 w32 w.heap.size (fun _ => True) (.slice (some ad460) y454.length co12) y454) := ⟨by rw [← hq_]; exact (kR HO_5)⟩; have n2_ : Aside0 (w32.heap[gb452]? = some (.cells #[.int .i32 x453000_2, .int .u8 x453001_2] 35 (0, 0))) := ⟨by rw [← hq_]; exact (kB BK452)⟩; have n3_ : Aside0 (Below w.heap.size w w32) := ⟨by rw [← hq_]; exact bG⟩; clear HO463 HO_5 BK452 HB hq_; have HO463 := n0_; have HO_5 := n1_; have BK452 := n2_; have HB := n3_; clear n0_ n1_ n2_ n3_)); have p465 : 0 ≤ (x6_1 : Int) := of_decide_eq_true asA; have q465 : x6_1 < (y454.length : Int) := of_decide_eq_true asA; obtain ⟨ad465, e465, hx465_0⟩ := Kd.at_int (Kd.R_reads' HO_5.out).2.2 x6_1 p465 q465; obtain rfl : ad460 = ad465 := (by injection e465); replace p465 := eq_true p465; replace q465 := eq_true q465; have hcz34_0 : w32.cell? ⟨gb452, 0, none⟩ = some (.int .i32 x453000_2) := (blk_cell BK452.out 0).trans rfl; have hcz34_1 : w32.cell? ⟨gb452, 1, none⟩ = some (.int .u8 x453001_2) := (blk_cell BK452.out 1).trans rfl; have hfz34_0 := blk_frozen BK452.out 0; have hfz34_1 := blk_frozen BK452.out 1))
               refine bodyPost_ret (results_ctt rfl _ _ gb452 35 #[.int .i32 t457, .int .u8 (rd y454 x6_1)] (0, 0) _ rfl (by (with_reducible repeat (first | refine blk_drewN ?_ _ | refine blk_drew ?_ | refine blk_alloc ?_ _)); refine blk_put (cs := #[.int .i32 t457, .int .u8 x453001_2]) ?_ 1 _ rfl; (with_reducible repeat (first | refine blk_drewN ?_ _ | refine blk_drew ?_ | refine blk_alloc ?_ _)); refine blk_put (cs := #[.int .i32 x453000_2, .int .u8 x453001_2]) ?_ 0 _ rfl; (with_reducible repeat (first | refine blk_drewN ?_ _ | refine blk_drew ?_ | refine blk_alloc ?_ _)); exact BK452.out) Tryd.underlying35 rfl (by kernel_rfl)) rfl ?_
               exact ⟨eW, bG⟩
              ·rw [if_neg c31] at H
               have c31b0 : (x7_2 == 0) = false := beq_eq_false_iff_ne.mpr c31
               have c31b1 : (x7_2 != 0) = true := bne_iff_ne.mpr c31
               by_cases c35 : (rd y454 x6_1) ≥ 2
               ·rw [if_pos c35] at H
                have c35b0 : decide (2 ≤ (rd y454 x6_1)) = true := decide_eq_true c35
                clear c35
                simp only [Option.some.injEq, Prod.mk.injEq] at H
                obtain ⟨rfl, rfl, rfl, rfl⟩ := H
                have p460 : 0 ≤ (x6_1 : Int) := of_decide_eq_true asA
                have q460 : x6_1 < (y454.length : Int) := of_decide_eq_true asA
                obtain ⟨ad460, e460, hx460_0⟩ := Kd.at_int (Kd.R_reads' HO_5.out).2.2 x6_1 p460 q460
                cases e460
                replace p460 := eq_true p460
                replace q460 := eq_true q460
                go_wp2_with (first | ((with_reducible refine gate_callee (f := 40) rfl ?_); refine goesL_ (some 56) rfl rfl Tryd.func40 (by kernel_rfl) rfl #[.agg #[.int .i32 t457, .int .u8 (rd y454 x6_1)]] rfl aP ?_; (with_reducible refine (flongref18_One.calls kj14 t457 (rd y454 x6_1) t461 _ A28.out).mono ?_); rintro e w36 ⟨v462, rfl, ho0, hb⟩; refine ⟨_, rfl, ?_⟩; have n0_ := Aside0.mk (Kd.R_below (kR HO_5) hb); have n1_ := Aside0.mk (Kd.V_lower (Kd.V_mono (ok' := fun k_ => some k_ ≠ (.slice (some ad460) y454.length co12 : Value).ownBlock ∧ k_ ≠ gb452) ho0 (fun k_ hk_ => ⟨(Kd.fresh' (Kd.R_lt (kR HO_5)) k_ hk_), (Kd.freshB (g := gb452) (o := .cells #[.int .i32 x453000_2, .int .u8 x453001_2] 35 (0, 0)) (kB BK452) k_ hk_)⟩)) (below_size bG)); have n2_ := Aside0.mk (blk_below (g := gb452) (o := .cells #[.int .i32 x453000_2, .int .u8 x453001_2] 35 (0, 0)) (kB BK452) hb); have n3_ := Aside0.mk (below_step bG hb); clear HO_5; clear BK452; clear HB; have HO_5 := n0_; have HO463 := n1_; have BK452 := n2_; have HB := n3_; clear n0_ n1_ n2_ n3_; (try clear hb); (try clear hb2); (try clear hk); (try clear hi); (try clear ho0); obtain ⟨Ao37, co37, eo37⟩ := Kd.V_slice HO463.out; subst eo37) | ((with_reducible refine gate_callee (f := 50) rfl ?_); refine goesL_ (some 59) rfl rfl Tryd.func50 (by kernel_rfl) rfl #[.slice A0 l0.length c0, .slice Ao37 t461.length co37] rfl aP ?_; (with_reducible refine (flongref18_begins.calls _ _ l0 _ _ t461 true _ ?side1 ?side2 ?side3 ?side4 A29.out).mono ?_); (case side1 => repeat (first | exact (Kd.C_below HR0.out HB.out) | (with_reducible refine Kd.C_alloc ?_ _) | (with_reducible refine Kd.C_drewN ?_ _) | (with_reducible refine Kd.C_drew ?_))); (case side2 => exact HC0.out); (case side3 => repeat (first | exact (Kd.V_reads' HO463.out).2.2 | (with_reducible refine Kd.C_alloc ?_ _) | (with_reducible refine Kd.C_drewN ?_ _) | (with_reducible refine Kd.C_drew ?_))); (case side4 => exact (Kd.V_reads' HO463.out).2.1); rintro e w' ⟨rfl, ⟨nd, rfl⟩⟩; refine ⟨_, rfl, ?_⟩; (try (rw [drewN_self w36]; generalize hq_ : World.drewN w36 _ = w36; have n0_ : Aside0 (Kd.V (Kd.int .u8) 5 w36 w.heap.size (fun k_ => some k_ ≠ (.slice (some ad460) y454.length co12 : Value).ownBlock ∧ k_ ≠ gb452) (.slice Ao37 t461.length co37) t461) := ⟨by rw [← hq_]; exact (kV HO463)⟩; have n1_ : Aside0 (Kd.R (Kd.int .u8) 5 w36 w.heap.size (fun _ => True) (.slice (some ad460) y454.length co12) y454) := ⟨by rw [← hq_]; exact (kR HO_5)⟩; have n2_ : Aside0 (w36.heap[gb452]? = some (.cells #[.int .i32 x453000_2, .int .u8 x453001_2] 35 (0, 0))) := ⟨by rw [← hq_]; exact (kB BK452)⟩; have n3_ : Aside0 (Below w.heap.size w w36) := ⟨by rw [← hq_]; exact bG⟩; clear HO463 HO_5 BK452 HB hq_; have HO463 := n0_; have HO_5 := n1_; have BK452 := n2_; have HB := n3_; clear n0_ n1_ n2_ n3_)); have p466 : 0 ≤ (x6_1 : Int) := of_decide_eq_true asA; have q466 : x6_1 < (y454.length : Int) := of_decide_eq_true asA; obtain ⟨ad466, e466, hx466_0⟩ := Kd.at_int (Kd.R_reads' HO_5.out).2.2 x6_1 p466 q466; obtain rfl : ad460 = ad466 := (by injection e466); replace p466 := eq_true p466; replace q466 := eq_true q466; have p467 : 0 ≤ (x6_1 : Int) := of_decide_eq_true asA; have q467 : x6_1 < (y454.length : Int) := of_decide_eq_true asA; obtain ⟨ad467, e467, hx467_0⟩ := Kd.at_int (Kd.R_reads' HO_5.out).2.2 x6_1 p467 q467; obtain rfl : ad460 = ad467 := (by injection e467); replace p467 := eq_true p467; replace q467 := eq_true q467; have hcz38_0 : w36.cell? ⟨gb452, 0, none⟩ = some (.int .i32 x453000_2) := (blk_cell BK452.out 0).trans rfl; have hcz38_1 : w36.cell? ⟨gb452, 1, none⟩ = some (.int .u8 x453001_2) := (blk_cell BK452.out 1).trans rfl; have hfz38_0 := blk_frozen BK452.out 0; have hfz38_1 := blk_frozen BK452.out 1))
                refine bodyPost_ret (results_ctt rfl _ _ gb452 35 #[.int .i32 t457, .int .u8 (rd y454 x6_1)] (0, 0) _ rfl (by (with_reducible repeat (first | refine blk_drewN ?_ _ | refine blk_drew ?_ | refine blk_alloc ?_ _)); refine blk_put (cs := #[.int .i32 t457, .int .u8 x453001_2]) ?_ 1 _ rfl; (with_reducible repeat (first | refine blk_drewN ?_ _ | refine blk_drew ?_ | refine blk_alloc ?_ _)); refine blk_put (cs := #[.int .i32 x453000_2, .int .u8 x453001_2]) ?_ 0 _ rfl; (with_reducible repeat (first | refine blk_drewN ?_ _ | refine blk_drew ?_ | refine blk_alloc ?_ _)); exact BK452.out) Tryd.underlying35 rfl (by kernel_rfl)) rfl ?_
                exact ⟨eW, bG⟩
               ·rw [if_neg c35] at H
                have c35b0 : decide (2 ≤ (rd y454 x6_1)) = false := decide_eq_false c35
                clear c35
                have H' := Aside0.mk H
                clear H
                have p460 : 0 ≤ (x6_1 : Int) := of_decide_eq_true asA
                have q460 : x6_1 < (y454.length : Int) := of_decide_eq_true asA
                obtain ⟨ad460, e460, hx460_0⟩ := Kd.at_int (Kd.R_reads' HO_5.out).2.2 x6_1 p460 q460
                cases e460
                replace p460 := eq_true p460
                replace q460 := eq_true q460
                go_wp2_with (first | ((with_reducible refine gate_callee (f := 40) rfl ?_); refine goesL_ (some 56) rfl rfl Tryd.func40 (by kernel_rfl) rfl #[.agg #[.int .i32 t457, .int .u8 (rd y454 x6_1)]] rfl aP ?_; (with_reducible refine (flongref18_One.calls kj14 t457 (rd y454 x6_1) t461 _ A28.out).mono ?_); rintro e w39 ⟨v462, rfl, ho0, hb⟩; refine ⟨_, rfl, ?_⟩; have n0_ := Aside0.mk (Kd.R_below (kR HO_5) hb); have n1_ := Aside0.mk (Kd.V_lower (Kd.V_mono (ok' := fun k_ => some k_ ≠ (.slice (some ad460) y454.length co12 : Value).ownBlock ∧ k_ ≠ gb452) ho0 (fun k_ hk_ => ⟨(Kd.fresh' (Kd.R_lt (kR HO_5)) k_ hk_), (Kd.freshB (g := gb452) (o := .cells #[.int .i32 x453000_2, .int .u8 x453001_2] 35 (0, 0)) (kB BK452) k_ hk_)⟩)) (below_size bG)); have n2_ := Aside0.mk (blk_below (g := gb452) (o := .cells #[.int .i32 x453000_2, .int .u8 x453001_2] 35 (0, 0)) (kB BK452) hb); have n3_ := Aside0.mk (below_step bG hb); clear HO_5; clear BK452; clear HB; have HO_5 := n0_; have HO463 := n1_; have BK452 := n2_; have HB := n3_; clear n0_ n1_ n2_ n3_; (try clear hb); (try clear hb2); (try clear hk); (try clear hi); (try clear ho0); obtain ⟨Ao40, co40, eo40⟩ := Kd.V_slice HO463.out; subst eo40) | ((with_reducible refine gate_callee (f := 50) rfl ?_); refine goesL_ (some 59) rfl rfl Tryd.func50 (by kernel_rfl) rfl #[.slice A0 l0.length c0, .slice Ao40 t461.length co40] rfl aP ?_; (with_reducible refine (flongref18_begins.calls _ _ l0 _ _ t461 true _ ?side1 ?side2 ?side3 ?side4 A29.out).mono ?_); (case side1 => repeat (first | exact (Kd.C_below HR0.out HB.out) | (with_reducible refine Kd.C_alloc ?_ _) | (with_reducible refine Kd.C_drewN ?_ _) | (with_reducible refine Kd.C_drew ?_))); (case side2 => exact HC0.out); (case side3 => repeat (first | exact (Kd.V_reads' HO463.out).2.2 | (with_reducible refine Kd.C_alloc ?_ _) | (with_reducible refine Kd.C_drewN ?_ _) | (with_reducible refine Kd.C_drew ?_))); (case side4 => exact (Kd.V_reads' HO463.out).2.1); rintro e w' ⟨rfl, ⟨nd, rfl⟩⟩; refine ⟨_, rfl, ?_⟩; have p466 : 0 ≤ (x6_1 : Int) := of_decide_eq_true asA; have q466 : x6_1 < (y454.length : Int) := of_decide_eq_true asA; obtain ⟨ad466, e466, hx466_0⟩ := Kd.at_int (Kd.R_reads' HO_5.out).2.2 x6_1 p466 q466; obtain rfl : ad460 = ad466 := (by injection e466); replace p466 := eq_true p466; replace q466 := eq_true q466))
                go_roundg kj14
                case measure => have := HK1.out; have := HK2.out; have := HJ14.out; omega
                case rel => exact ⟨(wrap64 (x7_2 + 2)), (x453000_2), (x453001_2), sA, H', ⟨by have := HK1.out; have := HK2.out; have := HJ14.out; omega⟩, ⟨kR HO_5⟩, ⟨kB BK452⟩, ⟨bG⟩⟩
             ·replace c30 := Bool.eq_false_iff.mpr c30
              subst c30
              have H1 : (flongref18_Take.l1 kj14 l0 y454 x6_1 (wrap64 (x7_2 + 2))) = some (r1, r2, r3, r4) := by rw [if_neg (show ¬ (false = true) by decide)] at H; exact H
              clear H
              have H := H1
              clear H1
              have H' := Aside0.mk H
              clear H
              have p460 : 0 ≤ (x6_1 : Int) := of_decide_eq_true asA
              have q460 : x6_1 < (y454.length : Int) := of_decide_eq_true asA
              obtain ⟨ad460, e460, hx460_0⟩ := Kd.at_int (Kd.R_reads' HO_5.out).2.2 x6_1 p460 q460
              cases e460
              replace p460 := eq_true p460
              replace q460 := eq_true q460
              go_wp2_with (first | ((with_reducible refine gate_callee (f := 40) rfl ?_); refine goesL_ (some 56) rfl rfl Tryd.func40 (by kernel_rfl) rfl #[.agg #[.int .i32 t457, .int .u8 (rd y454 x6_1)]] rfl aP ?_; (with_reducible refine (flongref18_One.calls kj14 t457 (rd y454 x6_1) t461 _ A28.out).mono ?_); rintro e w41 ⟨v462, rfl, ho0, hb⟩; refine ⟨_, rfl, ?_⟩; have n0_ := Aside0.mk (Kd.R_below (kR HO_5) hb); have n1_ := Aside0.mk (Kd.V_lower (Kd.V_mono (ok' := fun k_ => some k_ ≠ (.slice (some ad460) y454.length co12 : Value).ownBlock ∧ k_ ≠ gb452) ho0 (fun k_ hk_ => ⟨(Kd.fresh' (Kd.R_lt (kR HO_5)) k_ hk_), (Kd.freshB (g := gb452) (o := .cells #[.int .i32 x453000_2, .int .u8 x453001_2] 35 (0, 0)) (kB BK452) k_ hk_)⟩)) (below_size bG)); have n2_ := Aside0.mk (blk_below (g := gb452) (o := .cells #[.int .i32 x453000_2, .int .u8 x453001_2] 35 (0, 0)) (kB BK452) hb); have n3_ := Aside0.mk (below_step bG hb); clear HO_5; clear BK452; clear HB; have HO_5 := n0_; have HO463 := n1_; have BK452 := n2_; have HB := n3_; clear n0_ n1_ n2_ n3_; (try clear hb); (try clear hb2); (try clear hk); (try clear hi); (try clear ho0); obtain ⟨Ao42, co42, eo42⟩ := Kd.V_slice HO463.out; subst eo42) | ((with_reducible refine gate_callee (f := 50) rfl ?_); refine goesL_ (some 59) rfl rfl Tryd.func50 (by kernel_rfl) rfl #[.slice A0 l0.length c0, .slice Ao42 t461.length co42] rfl aP ?_; (with_reducible refine (flongref18_begins.calls _ _ l0 _ _ t461 false _ ?side1 ?side2 ?side3 ?side4 A29.out).mono ?_); (case side1 => repeat (first | exact (Kd.C_below HR0.out HB.out) | (with_reducible refine Kd.C_alloc ?_ _) | (with_reducible refine Kd.C_drewN ?_ _) | (with_reducible refine Kd.C_drew ?_))); (case side2 => exact HC0.out); (case side3 => repeat (first | exact (Kd.V_reads' HO463.out).2.2 | (with_reducible refine Kd.C_alloc ?_ _) | (with_reducible refine Kd.C_drewN ?_ _) | (with_reducible refine Kd.C_drew ?_))); (case side4 => exact (Kd.V_reads' HO463.out).2.1); rintro e w' ⟨rfl, ⟨nd, rfl⟩⟩; refine ⟨_, rfl, ?_⟩))
              go_roundg kj14
              case measure => have := HK1.out; have := HK2.out; have := HJ14.out; omega
              case rel => exact ⟨(wrap64 (x7_2 + 2)), (x453000_2), (x453001_2), sA, H', ⟨by have := HK1.out; have := HK2.out; have := HJ14.out; omega⟩, ⟨kR HO_5⟩, ⟨kB BK452⟩, ⟨bG⟩⟩
            ·rw [if_neg c27] at H
             exact absurd H (by simp)
           ·rw [if_neg c26] at H
            exact absurd H (by simp)
       ·rw [if_neg c13] at H
        have c13b0 : decide (x7_2 ≤ 4) = false := decide_eq_false c13
        clear c13
        have H' := Aside0.mk H
        clear H
        go_wp2
        go_roundg k2
        case measure => have := HK1.out; have := HK2.out; omega
        case rel => exact ⟨(wrap64 (x6_1 + 1)), (x453000_2), (x453001_2), sA, H', ⟨by have := HK1.out; have := HK2.out; omega⟩, ⟨kR HO_5⟩, ⟨kB BK452⟩, ⟨bG⟩⟩
    ·rw [if_neg c11] at H
     have c11b0 : decide (x6_1 < (y454.length : Int)) = false := decide_eq_false c11
     clear c11
     simp only [Option.some.injEq, Prod.mk.injEq] at H
     obtain ⟨rfl, rfl, rfl, rfl⟩ := H
     obtain ⟨Ao43, co43, eo43⟩ := Kd.R_slice HO_5.out
     subst eo43
     have hcz44_0 : wr.cell? ⟨gb452, 0, none⟩ = some (.int .i32 x453000_1) := (blk_cell BK452.out 0).trans rfl
     have hcz44_1 : wr.cell? ⟨gb452, 1, none⟩ = some (.int .u8 x453001_1) := (blk_cell BK452.out 1).trans rfl
     have hfz44_0 := blk_frozen BK452.out 0
     have hfz44_1 := blk_frozen BK452.out 1
     go_wp2
     refine bodyPost_ret (results_ctt rfl _ _ gb452 35 #[.int .i32 0, .int .u8 0] (0, 0) _ rfl (by (with_reducible repeat (first | refine blk_drewN ?_ _ | refine blk_drew ?_ | refine blk_alloc ?_ _)); refine blk_put (cs := #[.int .i32 0, .int .u8 x453001_1]) ?_ 1 _ rfl; (with_reducible repeat (first | refine blk_drewN ?_ _ | refine blk_drew ?_ | refine blk_alloc ?_ _)); refine blk_put (cs := #[.int .i32 x453000_1, .int .u8 x453001_1]) ?_ 0 _ rfl; (with_reducible repeat (first | refine blk_drewN ?_ _ | refine blk_drew ?_ | refine blk_alloc ?_ _)); exact BK452.out) Tryd.underlying35 rfl (by kernel_rfl)) rfl ?_
     exact ⟨eW, bG⟩

end Go.Proofs.YtmeinakeiefcdaaDoor.X
