-- Written by this session's xprint.py (a variant of the kit's printer). Not trusted: Lean checks it.
import Derived.Test.YtadejblahbebdaaDoorX0
import Derived.Test.YtadejblahbebdaaDoorX3
import Derived.Test.YtadejblahbebdaaDoorHandA
namespace Go.Proofs.YtadejblahbebdaaDoor.X
open Go.Proofs.YtadejblahbebdaaDoor.Hand
open Go.RowKit Go.Proofs.YtadejblahbebdaaDoorW.PrintWords Go.Proofs.YtadejblahbebdaaDoorW.PrintLast Go.Proofs.YtadejblahbebdaaDoorW.PrintMore
attribute [local go_sem] max2_int min2_int max_two min_two max_three min_three max_four min_four   -- for this text's walks alone
set_option linter.unusedVariables false
set_option maxHeartbeats 8000000
set_option maxRecDepth 100000
set_option linter.unusedSimpArgs false

/-! ### flongref02_is: function 66 -/
def flongref02_is.f (k : Nat) (l0 : List Int) : Option (Bool) := (flongref02_value.f k l0).bind fun t219 => (if t219 < 0 then (some false) else (if t219 > 1114111 then (some false) else ((flongref02_Valid.f (wrap32 (t219))).bind fun t220 => (if t220 = true then ((flongref02_One.f k (wrap32 (t219))).bind fun t221 => (some ((strOfNums t221).toList == (strOfNums l0).toList))) else (some false)))))
theorem flongref02_is.mono : ∀ a0 k, LeO (flongref02_is.f k a0) (flongref02_is.f (k + 1) a0) := by
 intro a0 k
 unfold flongref02_is.f
 repeat' first
   | (with_reducible exact flongref02_One.mono _ _)
   | (with_reducible exact flongref02_value.mono _ _)
   | (with_reducible exact LeO.refl _)
   | (with_reducible exact LeO.none _)
   | (with_reducible refine LeO.ite ?_ ?_)
   | (with_reducible refine LeO.bind ?_ (fun _ => ?_))
def flongref02_is.T4 : Bool × List (List Nat × List Nat) := (true, [([], []), ([0], [0]), ([1], [1]), ([2], [2]), ([], []), ([4], [4]), ([3, 5], [3, 5]), ([6, 2, 0, 1, 2, 3, 4, 5, 6], [6])])
def flongref02_is.B4 : List Nat := [0, 1, 3, 7, 0, 16, 63, 127]
theorem flongref02_is.tab4 : rtab .any (opsOf Tryd.f66 4) = flongref02_is.T4 := by kernel_rfl
theorem flongref02_is.bits4 : waitsOk flongref02_is.T4.2 flongref02_is.B4 = true := by kernel_rfl
theorem flongref02_is.calls (k : Nat) (A0 : Option Addr) (c0 : Nat) (l0 : List Int) (r : Bool) (w : World) (hr0 : Kd.C (Kd.int .u8) w A0 l0.length l0) (hc0 : l0.length ≤ c0) (h : flongref02_is.f k l0 = some r) :
  Calls Tryd.prog 66 #[.slice A0 l0.length c0] w fun e w' => e = .returned (.bool r) ∧ Below w.heap.size w w' := by
 have HR0 := Aside0.mk hr0
 have HC0 := Aside0.mk hc0
 clear hr0 hc0
 have HB := Aside0.mk (Below.refl w.heap.size w)
 have H : ((flongref02_value.f k l0).bind fun t219 => (if t219 < 0 then (some false) else (if t219 > 1114111 then (some false) else ((flongref02_Valid.f (wrap32 (t219))).bind fun t220 => (if t220 = true then ((flongref02_One.f k (wrap32 (t219))).bind fun t221 => (some ((strOfNums t221).toList == (strOfNums l0).toList))) else (some false)))))) = some r := h
 clear h
 replace H := Option.bind_eq_some_iff.mp H
 obtain ⟨t219, A20, H⟩ := H
 replace H : (if t219 < 0 then (some false) else (if t219 > 1114111 then (some false) else ((flongref02_Valid.f (wrap32 (t219))).bind fun t220 => (if t220 = true then ((flongref02_One.f k (wrap32 (t219))).bind fun t221 => (some ((strOfNums t221).toList == (strOfNums l0).toList))) else (some false))))) = some r := H
 have A2 := Aside0.mk A20
 clear A20
 by_cases c3 : t219 < 0
 ·rw [if_pos c3] at H
  have c3b0 : decide (t219 < 0) = true := decide_eq_true c3
  clear c3
  obtain rfl := Option.some.inj H
  go_enter Tryd.func66, Tryd.ntmps66
  go_wp2_with (first | ((with_reducible refine gate_callee (f := 67) rfl ?_); refine goesL_ (some 5) rfl rfl Tryd.func67 (by kernel_rfl) rfl #[.slice A0 l0.length c0] rfl (by (try simp only [List.map_toArray, List.map_cons, List.map_nil]); first | done | rfl | (simp only [List.length_drop, List.length_take]; rfl)) ?_; (with_reducible refine (flongref02_value.calls k _ _ l0 t219 _ ?side1 ?side2 A2.out).mono ?_); (case side1 => repeat (first | exact HR0.out | (with_reducible refine Kd.C_alloc ?_ _) | (with_reducible refine Kd.C_drewN ?_ _) | (with_reducible refine Kd.C_drew ?_))); (case side2 => exact HC0.out); rintro e w' ⟨rfl, ⟨nd, rfl⟩⟩; refine ⟨_, rfl, ?_⟩))
  go_ret
  exact ⟨by first | rfl | (simp [errW_none, errW_some] <;> rfl) | (simp [*, errW_none, errW_some] <;> rfl), by repeat (first | (with_reducible first | exact HB.out | apply below_alloc | apply pw_below_drewN | apply below_drew1) | exact HB.out)⟩
 ·rw [if_neg c3] at H
  have c3b0 : decide (t219 < 0) = false := decide_eq_false c3
  clear c3
  by_cases c4 : t219 > 1114111
  ·rw [if_pos c4] at H
   have c4b0 : decide (1114111 < t219) = true := decide_eq_true c4
   clear c4
   obtain rfl := Option.some.inj H
   go_enter Tryd.func66, Tryd.ntmps66
   go_wp2_with (first | ((with_reducible refine gate_callee (f := 67) rfl ?_); refine goesL_ (some 5) rfl rfl Tryd.func67 (by kernel_rfl) rfl #[.slice A0 l0.length c0] rfl (by (try simp only [List.map_toArray, List.map_cons, List.map_nil]); first | done | rfl | (simp only [List.length_drop, List.length_take]; rfl)) ?_; (with_reducible refine (flongref02_value.calls k _ _ l0 t219 _ ?side1 ?side2 A2.out).mono ?_); (case side1 => repeat (first | exact HR0.out | (with_reducible refine Kd.C_alloc ?_ _) | (with_reducible refine Kd.C_drewN ?_ _) | (with_reducible refine Kd.C_drew ?_))); (case side2 => exact HC0.out); rintro e w' ⟨rfl, ⟨nd, rfl⟩⟩; refine ⟨_, rfl, ?_⟩))
   go_ret
   exact ⟨by first | rfl | (simp [errW_none, errW_some] <;> rfl) | (simp [*, errW_none, errW_some] <;> rfl), by repeat (first | (with_reducible first | exact HB.out | apply below_alloc | apply pw_below_drewN | apply below_drew1) | exact HB.out)⟩
  ·rw [if_neg c4] at H
   have c4b0 : decide (1114111 < t219) = false := decide_eq_false c4
   clear c4
   replace H := Option.bind_eq_some_iff.mp H
   obtain ⟨t220, A50, H⟩ := H
   replace H : (if t220 = true then ((flongref02_One.f k (wrap32 (t219))).bind fun t221 => (some ((strOfNums t221).toList == (strOfNums l0).toList))) else (some false)) = some r := H
   have A5 := Aside0.mk A50
   clear A50
   by_cases c6 : t220 = true
   ·subst c6
    have H1 : ((flongref02_One.f k (wrap32 (t219))).bind fun t221 => (some ((strOfNums t221).toList == (strOfNums l0).toList))) = some r := by rw [if_pos rfl] at H; exact H
    clear H
    have H := H1
    clear H1
    replace H := Option.bind_eq_some_iff.mp H
    obtain ⟨t221, A70, H⟩ := H
    replace H : (some ((strOfNums t221).toList == (strOfNums l0).toList)) = some r := H
    have A7 := Aside0.mk A70
    clear A70
    obtain rfl := Option.some.inj H
    go_enter Tryd.func66, Tryd.ntmps66
    try go_wp2_with (first | ((with_reducible refine gate_callee (f := 67) rfl ?_); refine goesL_ (some 5) rfl rfl Tryd.func67 (by kernel_rfl) rfl #[.slice A0 l0.length c0] rfl (by (try simp only [List.map_toArray, List.map_cons, List.map_nil]); first | done | rfl | (simp only [List.length_drop, List.length_take]; rfl)) ?_; (with_reducible refine (flongref02_value.calls k _ _ l0 t219 _ ?side1 ?side2 A2.out).mono ?_); (case side1 => repeat (first | exact HR0.out | (with_reducible refine Kd.C_alloc ?_ _) | (with_reducible refine Kd.C_drewN ?_ _) | (with_reducible refine Kd.C_drew ?_))); (case side2 => exact HC0.out); rintro e w' ⟨rfl, ⟨nd, rfl⟩⟩; refine ⟨_, rfl, ?_⟩) | (go_at_call 39; (with_reducible refine (flongref02_Valid.calls (wrap32 (t219)) true _ A5.out).mono ?_); rintro e w' ⟨rfl, ⟨nd, rfl⟩⟩))
    generalize hq_ : World.drewN w _ = w8
    have n0_ := Aside0.mk (below_at hq_ HB.out)
    clear HB
    have HB := n0_
    clear n0_
    clear hq_
    have n0_ := Aside0.mk (below_drew1 HB.out)
    clear HB
    have HB := n0_
    clear n0_
    refine start_ (n := 8) (S := fun w' => (convert 26 9 (.slice A0 l0.length c0)).run Tryd.prog w' = .ok (.string (strOfNums l0)) w') (ds := []) #[false, false, false, false, false, false, false, false] (by kernel_rfl) rfl rfl ((Kd.C_string (P := Tryd.prog) (A := A0) (c := c0) Tryd.underlying26 Tryd.underlying5 Tryd.underlying9 (Kd.C_below HR0.out HB.out))) (fun hHeld => ?_); refine with_tabW flongref02_is.tab4 flongref02_is.bits4 (fun HT_ HW_ => ?_)
    generalize w8.drew = w9 at HB hHeld ⊢
    refine pure_ (i := 0) (N := some 18) (v := ?_) (a' := ?_) #[true, false, false, false, false, false, false, false] rfl rfl (any_of HT_.out (by kernel_rfl)) (fun _ _ _ h => h) (Or.inl ⟨by rfl, ?_⟩) ?_ ?_
    rotate_left
    ·intro w'
     go_simp
     with_reducible rfl
    rotate_left
    ·simp only [Act.put, List.setIfInBounds_toArray, List.set_cons_zero, List.set_cons_succ, i64_w, i32_w]
     rfl
    refine pure_ (i := 1) (N := some 19) (v := ?_) (a' := ?_) #[true, true, false, false, false, false, false, false] rfl rfl (any_of HT_.out (by kernel_rfl)) (fun _ _ _ h => h) (Or.inl ⟨by rfl, ?_⟩) ?_ ?_
    rotate_left
    ·intro w'
     go_simp
     with_reducible rfl
    rotate_left
    ·simp only [Act.put, List.setIfInBounds_toArray, List.set_cons_zero, List.set_cons_succ, i64_w, i32_w]
     rfl
    refine pure_ (i := 4) (N := some 22) (v := ?_) (a' := ?_) #[true, true, false, false, true, false, false, false] rfl rfl (any_of HT_.out (by kernel_rfl)) (fun _ _ _ h => h) (Or.inl ⟨by rfl, ?_⟩) ?_ ?_
    rotate_left
    ·intro w'
     go_simp
     with_reducible rfl
    rotate_left
    ·simp only [Act.put, List.setIfInBounds_toArray, List.set_cons_zero, List.set_cons_succ, i64_w, i32_w]
     rfl
    refine take_ (i := 5) (N := some 23) (v := ?_) (a' := ?_) #[true, true, false, false, true, true, false, false] rfl rfl (take_ofW HT_.out HW_.out (by kernel_rfl)) (fun _ _ _ h => h) (Or.inl ⟨by rfl, ?_⟩) hHeld ?_ ?_
    rotate_left
    ·intro w' s0
     go_simp
     with_reducible rfl
    rotate_left
    ·simp only [Act.put, List.setIfInBounds_toArray, List.set_cons_zero, List.set_cons_succ, i64_w, i32_w]
     rfl
    refine one_ (i := 2) (N := some 20) #[true, true, true, false, true, true, false, false] rfl rfl (one_of HT_.out (by kernel_rfl)) (by decide) (fun K hK => ?_)
    refine goes_ Tryd.func52 (by kernel_rfl) rfl #[.int .i32 (wrap32 (t219))] (by rfl) rfl rfl (by (try simp only [List.map_toArray, List.map_cons, List.map_nil]); first | done | rfl | (simp only [List.length_drop, List.length_take]; rfl)) ?_
    with_reducible refine (flongref02_One.calls k (wrap32 (t219)) t221 _ A7.out).mono ?_
    rintro e w10 ⟨v222, rfl, ho0, hb⟩
    refine ⟨_, rfl, ?_⟩
    have n0_ := Aside0.mk (Kd.R_lower ho0 (below_size (by repeat (first | (with_reducible first | exact HB.out | apply below_alloc | apply pw_below_drewN | apply below_drew1) | exact HB.out))))
    have n1_ := Aside0.mk (below_step (by repeat (first | (with_reducible first | exact HB.out | apply below_alloc | apply pw_below_drewN | apply below_drew1) | exact HB.out)) hb)
    clear HB
    have HO223 := n0_
    have HB := n1_
    clear n0_ n1_
    (try clear hb)
    (try clear hb2)
    (try clear hk)
    (try clear hi)
    (try clear ho0)
    refine hK.out _ _ ((Kd.C_string (P := Tryd.prog) (A := A0) (c := c0) Tryd.underlying26 Tryd.underlying5 Tryd.underlying9 (Kd.C_below HR0.out HB.out))) (fun hHeld => ?_)
    clear hK K
    refine norm_ (a' := ?_) ?_ ?_
    rotate_left
    ·show Act.put _ (some 20) _ = _
     simp only [Act.put, List.setIfInBounds_toArray, List.set_cons_zero, List.set_cons_succ, i64_w, i32_w]
     rfl
    refine one_ (i := 3) (N := some 21) #[true, true, true, true, true, true, false, false] rfl rfl (one_of HT_.out (by kernel_rfl)) (by decide) (fun K hK => ?_)
    have hcv11 := own_string (P := Tryd.prog) Tryd.underlying26 Tryd.underlying5 Tryd.underlying9 (Kd.own_of_R HO223.out)
    refine value_ (w1 := ?_) (v := ?_) (by rfl) rfl ?_ ?_
    rotate_left 2
    ·go_simp
     constructor
     ·rfl
     ·rfl
    clear hcv11
    refine hK.out _ _ ((Kd.C_string (P := Tryd.prog) (A := A0) (c := c0) Tryd.underlying26 Tryd.underlying5 Tryd.underlying9 (Kd.C_below HR0.out HB.out))) (fun hHeld => ?_)
    clear hK K
    refine norm_ (a' := ?_) ?_ ?_
    rotate_left
    ·show Act.put _ (some 21) _ = _
     simp only [Act.put, List.setIfInBounds_toArray, List.set_cons_zero, List.set_cons_succ, i64_w, i32_w]
     rfl
    refine pure_ (i := 6) (N := some 24) (v := ?_) (a' := ?_) #[true, true, true, true, true, true, true, false] rfl rfl (any_of HT_.out (by kernel_rfl)) (fun _ _ _ h => h) (Or.inl ⟨by rfl, ?_⟩) ?_ ?_
    rotate_left
    ·intro w'
     go_simp
     with_reducible rfl
    rotate_left
    ·simp only [Act.put, List.setIfInBounds_toArray, List.set_cons_zero, List.set_cons_succ, i64_w, i32_w]
     rfl
    refine pure_ (i := 7) (N := some 2) (v := ?_) (a' := ?_) #[true, true, true, true, true, true, true, true] rfl rfl (any_of HT_.out (by kernel_rfl)) (fun _ _ _ h => h) (Or.inl ⟨by rfl, ?_⟩) ?_ ?_
    rotate_left
    ·intro w'
     go_simp
     with_reducible rfl
    rotate_left
    ·simp only [Act.put, List.setIfInBounds_toArray, List.set_cons_zero, List.set_cons_succ, i64_w, i32_w]
     rfl
    refine done_ (done_of HT_.out (by kernel_rfl)) ?_
    try go_wp2
    go_ret
    exact ⟨by first | rfl | (simp [errW_none, errW_some] <;> rfl) | (simp [*, errW_none, errW_some] <;> rfl), by repeat (first | (with_reducible first | exact HB.out | apply below_alloc | apply pw_below_drewN | apply below_drew1) | exact HB.out)⟩
   ·replace c6 := Bool.eq_false_iff.mpr c6
    subst c6
    have H1 : (some false) = some r := by rw [if_neg (show ¬ (false = true) by decide)] at H; exact H
    clear H
    have H := H1
    clear H1
    obtain rfl := Option.some.inj H
    go_enter Tryd.func66, Tryd.ntmps66
    go_wp2_with (first | ((with_reducible refine gate_callee (f := 67) rfl ?_); refine goesL_ (some 5) rfl rfl Tryd.func67 (by kernel_rfl) rfl #[.slice A0 l0.length c0] rfl (by (try simp only [List.map_toArray, List.map_cons, List.map_nil]); first | done | rfl | (simp only [List.length_drop, List.length_take]; rfl)) ?_; (with_reducible refine (flongref02_value.calls k _ _ l0 t219 _ ?side1 ?side2 A2.out).mono ?_); (case side1 => repeat (first | exact HR0.out | (with_reducible refine Kd.C_alloc ?_ _) | (with_reducible refine Kd.C_drewN ?_ _) | (with_reducible refine Kd.C_drew ?_))); (case side2 => exact HC0.out); rintro e w' ⟨rfl, ⟨nd, rfl⟩⟩; refine ⟨_, rfl, ?_⟩) | (go_at_call 39; (with_reducible refine (flongref02_Valid.calls (wrap32 (t219)) false _ A5.out).mono ?_); rintro e w' ⟨rfl, ⟨nd, rfl⟩⟩))
    go_ret
    exact ⟨by first | rfl | (simp [errW_none, errW_some] <;> rfl) | (simp [*, errW_none, errW_some] <;> rfl), by repeat (first | (with_reducible first | exact HB.out | apply below_alloc | apply pw_below_drewN | apply below_drew1) | exact HB.out)⟩

/-! ### flongref02_Decode: function 53 -/
mutual
def flongref02_Decode.l0 : Nat → List Int → List Int → Int → Option (List Int)
 | 0, _, _, _ => none
 | k + 1, x0, x3, x4 => if x4 < (x0.length : Int) then (flongref02_Decode.l1 k x0 x3 x4 0 1) else (some x3)
def flongref02_Decode.l1 : Nat → List Int → List Int → Int → Int → Int → Option (List Int)
 | 0, _, _, _, _, _ => none
 | k + 1, x0, x3, x4, x5, x6 => if x6 ≤ 4 then (if (wrap64 (x4 + x6)) ≤ (x0.length : Int) then (flongref02_Decode.j2 k x0 x3 x4 x5 x6 (x5 == 0)) else (flongref02_Decode.j2 k x0 x3 x4 x5 x6 false)) else (flongref02_Decode.j2 k x0 x3 x4 x5 x6 false)
def flongref02_Decode.j2 : Nat → List Int → List Int → Int → Int → Int → Bool → Option (List Int)
 | 0, _, _, _, _, _, _ => none
 | k + 1, x0, x3, x4, x5, x6, x24 => if x24 = true then (if 0 ≤ x4 then (if x4 ≤ (wrap64 (x4 + x6)) then (if (wrap64 (x4 + x6)) ≤ (x0.length : Int) then ((flongref02_is.f k ((x0.take ((wrap64 (x4 + x6)) : Int).toNat).drop (x4 : Int).toNat)).bind fun t225 => (if t225 = true then (flongref02_Decode.l1 k x0 x3 x4 x6 (wrap64 (x6 + 1))) else (flongref02_Decode.l1 k x0 x3 x4 x5 (wrap64 (x6 + 1))))) else (none)) else (none)) else (none)) else (if x5 = 0 then (if x3.length < 35184372088832 then (flongref02_Decode.l0 k x0 (x3 ++ [65533]) (wrap64 (x4 + 1))) else (none)) else (if 0 ≤ x4 then (if x4 ≤ (wrap64 (x4 + x5)) then (if (wrap64 (x4 + x5)) ≤ (x0.length : Int) then ((flongref02_value.f k ((x0.take ((wrap64 (x4 + x5)) : Int).toNat).drop (x4 : Int).toNat)).bind fun t230 => (if x3.length < 35184372088832 then (flongref02_Decode.l0 k x0 (x3 ++ [wrap32 (t230)]) (wrap64 (x4 + x5))) else (none))) else (none)) else (none)) else (none)))
end
def flongref02_Decode.f (k : Nat) (l0 : List Int) : Option (List Int) := flongref02_Decode.l0 k l0 ([] : List Int) 0
theorem flongref02_Decode.mono_l : ∀ k, (∀ y0 y1 y2, LeO (flongref02_Decode.l0 k y0 y1 y2) (flongref02_Decode.l0 (k + 1) y0 y1 y2)) ∧ (∀ y0 y1 y2 y3 y4, LeO (flongref02_Decode.l1 k y0 y1 y2 y3 y4) (flongref02_Decode.l1 (k + 1) y0 y1 y2 y3 y4)) ∧ (∀ y0 y1 y2 y3 y4 y5, LeO (flongref02_Decode.j2 k y0 y1 y2 y3 y4 y5) (flongref02_Decode.j2 (k + 1) y0 y1 y2 y3 y4 y5))
 | 0 => ⟨fun _ _ _ r h => by simp [flongref02_Decode.l0] at h, fun _ _ _ _ _ r h => by simp [flongref02_Decode.l1] at h, fun _ _ _ _ _ _ r h => by simp [flongref02_Decode.j2] at h⟩
 | k + 1 => by
  obtain ⟨ih0, ih1, ih2⟩ := flongref02_Decode.mono_l k
  refine ⟨?_, ?_, ?_⟩
  ·intro y0 y1 y2
   unfold flongref02_Decode.l0
   repeat' first
   | (with_reducible exact ih0 _ _ _)
   | (with_reducible exact ih1 _ _ _ _ _)
   | (with_reducible exact ih2 _ _ _ _ _ _)
   | (with_reducible exact flongref02_is.mono _ _)
   | (with_reducible exact flongref02_value.mono _ _)
   | (with_reducible exact LeO.refl _)
   | (with_reducible exact LeO.none _)
   | (with_reducible refine LeO.ite ?_ ?_)
   | (with_reducible refine LeO.bind ?_ (fun _ => ?_))
  ·intro y0 y1 y2 y3 y4
   unfold flongref02_Decode.l1
   repeat' first
   | (with_reducible exact ih0 _ _ _)
   | (with_reducible exact ih1 _ _ _ _ _)
   | (with_reducible exact ih2 _ _ _ _ _ _)
   | (with_reducible exact flongref02_is.mono _ _)
   | (with_reducible exact flongref02_value.mono _ _)
   | (with_reducible exact LeO.refl _)
   | (with_reducible exact LeO.none _)
   | (with_reducible refine LeO.ite ?_ ?_)
   | (with_reducible refine LeO.bind ?_ (fun _ => ?_))
  ·intro y0 y1 y2 y3 y4 y5
   unfold flongref02_Decode.j2
   repeat' first
   | (with_reducible exact ih0 _ _ _)
   | (with_reducible exact ih1 _ _ _ _ _)
   | (with_reducible exact ih2 _ _ _ _ _ _)
   | (with_reducible exact flongref02_is.mono _ _)
   | (with_reducible exact flongref02_value.mono _ _)
   | (with_reducible exact LeO.refl _)
   | (with_reducible exact LeO.none _)
   | (with_reducible refine LeO.ite ?_ ?_)
   | (with_reducible refine LeO.bind ?_ (fun _ => ?_))
theorem flongref02_Decode.mono : ∀ a0 k, LeO (flongref02_Decode.f k a0) (flongref02_Decode.f (k + 1) a0) := by
 intro a0 k
 obtain ⟨ih0, ih1, ih2⟩ := flongref02_Decode.mono_l k
 unfold flongref02_Decode.f
 repeat' first
   | (with_reducible exact ih0 _ _ _)
   | (with_reducible exact ih1 _ _ _ _ _)
   | (with_reducible exact ih2 _ _ _ _ _ _)
   | (with_reducible exact flongref02_is.mono _ _)
   | (with_reducible exact flongref02_value.mono _ _)
   | (with_reducible exact LeO.refl _)
   | (with_reducible exact LeO.none _)
   | (with_reducible refine LeO.ite ?_ ?_)
   | (with_reducible refine LeO.bind ?_ (fun _ => ?_))
theorem flongref02_Decode.calls (k : Nat) (A0 : Option Addr) (c0 : Nat) (l0 : List Int) (r : List Int) (w : World) (hr0 : Kd.C (Kd.int .u8) w A0 l0.length l0) (hc0 : l0.length ≤ c0) (h : flongref02_Decode.f k l0 = some r) :
  Calls Tryd.prog 53 #[.slice A0 l0.length c0] w fun e w' => ∃ v0_ : Value, e = .returned (v0_) ∧ Kd.R (Kd.int .i32) 21 w' w.heap.size (fun _ => True) v0_ r ∧ Below w.heap.size w w' := by
 have HR0 := Aside0.mk hr0
 have HC0 := Aside0.mk hc0
 clear hr0 hc0
 have HB := Aside0.mk (Below.refl w.heap.size w)
 have H : (flongref02_Decode.l0 k l0 ([] : List Int) 0) = some r := h
 clear h
 have H' := Aside0.mk H
 clear H
 go_enter Tryd.func53, Tryd.ntmps53
 go_wp2
 go_loopg [3, 4] k (fun kq v3 v4 w' => ∃ (x3_1 : List Int) (x4_1 : Int), v4 = .int .i64 x4_1 ∧ Aside0 (flongref02_Decode.l0 kq l0 x3_1 x4_1 = some r) ∧ Aside0 (kq ≤ k) ∧ Aside0 (Kd.R (Kd.int .i32) 21 w' w.heap.size (fun _ => True) v3 x3_1) ∧ Aside0 (Below w.heap.size w w'))
 case atStart => exact ⟨(([] : List Int)), (0), (by first | rfl | (simp; done) | (simp [*]; done)), H', ⟨Nat.le_refl _⟩, ⟨by first | exact Kd.R_nil _ _ _ _ _ | exact Kd.N_nil _ _ _ _ _ | exact Kd.V_nil _ _ _ _ _ | exact Kd.Q_nil _ _ _ _ _ | exact Kd.S_nil _ _ _ _ _⟩, ⟨by repeat (first | (with_reducible first | exact HB.out | apply below_alloc | apply pw_below_drewN | apply below_drew1) | exact HB.out)⟩⟩
 case round =>
  clear H'
  obtain ⟨x3_1, x4_1, rfl, HA, HK1, HO_3, HB⟩ := hrel
  cases gk with
  | zero => exact absurd HA.out (by simp [flongref02_Decode.l0])
  | succ k1 =>
   have H := HA.out
   clear HA
   simp only [flongref02_Decode.l0] at H
   by_cases c2 : x4_1 < (l0.length : Int)
   ·rw [if_pos c2] at H
    have c2b0 : decide (x4_1 < (l0.length : Int)) = true := decide_eq_true c2
    clear c2
    have H' := Aside0.mk H
    clear H
    go_wp2
    go_loopg [5, 6] k1 (fun kq v5 v6 w' => ∃ (x5_2 : Int) (x6_2 : Int), v5 = .int .i64 x5_2 ∧ v6 = .int .i64 x6_2 ∧ Aside0 (flongref02_Decode.l1 kq l0 x3_1 x4_1 x5_2 x6_2 = some r) ∧ Aside0 (kq ≤ k1) ∧ Aside0 (Kd.R (Kd.int .i32) 21 w' w.heap.size (fun _ => True) u3 x3_1) ∧ Aside0 (Below w.heap.size w w'))
    case atStart => exact ⟨(0), (1), (by first | rfl | (simp; done) | (simp [*]; done)), (by first | rfl | (simp; done) | (simp [*]; done)), H', ⟨Nat.le_refl _⟩, ⟨by (with_reducible repeat (first | apply Kd.R_alloc | apply Kd.R_drewN | apply Kd.R_drew)); exact HO_3.out⟩, ⟨by repeat (first | (with_reducible first | exact HB.out | apply below_alloc | apply pw_below_drewN | apply below_drew1) | exact HB.out)⟩⟩
    case round =>
     clear H'
     try clear c2
     try clear c2b0
     try clear p2
     obtain ⟨x5_2, x6_2, rfl, rfl, HA, HK2, HO_3, HB⟩ := hrel
     cases gk with
     | zero => exact absurd HA.out (by simp [flongref02_Decode.l1])
     | succ k2 =>
      have H := HA.out
      clear HA
      simp only [flongref02_Decode.l1] at H
      have HC3 := Aside0.mk H
      clear H
      go_upto_region 6 with (fail)
      go_cut [24] (fun v24 wc => ∃ (kq : Nat) (x24_2 : Bool), v24 = .bool x24_2 ∧ Aside0 (flongref02_Decode.j2 kq l0 x3_1 x4_1 x5_2 x6_2 x24_2 = some r) ∧ Aside0 (kq ≤ k2) ∧ Aside0 (Kd.R (Kd.int .i32) 21 wc w.heap.size (fun _ => True) u3 x3_1) ∧ Aside0 (Below w.heap.size w wc))
      case first =>
       have H := HC3.out
       clear HC3
       by_cases c4 : x6_2 ≤ 4
       ·rw [if_pos c4] at H
        have c4b0 : decide (x6_2 ≤ 4) = true := decide_eq_true c4
        clear c4
        (first | rw [c4b0] | (simp only [i64_w, i32_w]; rw [c4b0]) | skip)
        by_cases c5 : (wrap64 (x4_1 + x6_2)) ≤ (l0.length : Int)
        ·rw [if_pos c5] at H
         have c5b0 : decide ((wrap64 (x4_1 + x6_2)) ≤ (l0.length : Int)) = true := decide_eq_true c5
         clear c5
         have H' := Aside0.mk H
         clear H
         go_wp2
         go_meet
         case rel => exact ⟨_, ((x5_2 == 0)), (by first | rfl | (simp; done) | (simp [*]; done)), H', ⟨by have := HK1.out; have := HK2.out; first | omega | exact Nat.le_refl _⟩, ⟨by (with_reducible repeat (first | apply Kd.R_alloc | apply Kd.R_drewN | apply Kd.R_drew)); exact HO_3.out⟩, ⟨by repeat (first | (with_reducible first | exact HB.out | apply below_alloc | apply pw_below_drewN | apply below_drew1) | exact HB.out)⟩⟩
        ·rw [if_neg c5] at H
         have c5b0 : decide ((wrap64 (x4_1 + x6_2)) ≤ (l0.length : Int)) = false := decide_eq_false c5
         clear c5
         have H' := Aside0.mk H
         clear H
         go_wp2
         go_meet
         case rel => exact ⟨_, (false), (by first | rfl | (simp; done) | (simp [*]; done)), H', ⟨by have := HK1.out; have := HK2.out; first | omega | exact Nat.le_refl _⟩, ⟨by (with_reducible repeat (first | apply Kd.R_alloc | apply Kd.R_drewN | apply Kd.R_drew)); exact HO_3.out⟩, ⟨by repeat (first | (with_reducible first | exact HB.out | apply below_alloc | apply pw_below_drewN | apply below_drew1) | exact HB.out)⟩⟩
       ·rw [if_neg c4] at H
        have c4b0 : decide (x6_2 ≤ 4) = false := decide_eq_false c4
        clear c4
        (first | rw [c4b0] | (simp only [i64_w, i32_w]; rw [c4b0]) | skip)
        have H' := Aside0.mk H
        clear H
        go_wp2
        go_meet
        case rel => exact ⟨_, (false), (by first | rfl | (simp; done) | (simp [*]; done)), H', ⟨by have := HK1.out; have := HK2.out; first | omega | exact Nat.le_refl _⟩, ⟨by (with_reducible repeat (first | apply Kd.R_alloc | apply Kd.R_drewN | apply Kd.R_drew)); exact HO_3.out⟩, ⟨by repeat (first | (with_reducible first | exact HB.out | apply below_alloc | apply pw_below_drewN | apply below_drew1) | exact HB.out)⟩⟩
      case rest =>
       clear HC3
       try clear c2
       try clear c2b0
       try clear p2
       try clear c4
       try clear c4b0
       try clear c5
       try clear c5b0
       try clear p2
       obtain ⟨kq, x24_2, rfl, HA, HJ2, HO_3, HB⟩ := hcut
       cases kq with
       | zero => exact absurd HA.out (by simp [flongref02_Decode.j2])
       | succ kj2 =>
        have H := HA.out
        clear HA
        simp only [flongref02_Decode.j2] at H
        by_cases c6 : x24_2 = true
        ·subst c6
         have H1 : (if 0 ≤ x4_1 then (if x4_1 ≤ (wrap64 (x4_1 + x6_2)) then (if (wrap64 (x4_1 + x6_2)) ≤ (l0.length : Int) then ((flongref02_is.f kj2 ((l0.take ((wrap64 (x4_1 + x6_2)) : Int).toNat).drop (x4_1 : Int).toNat)).bind fun t225 => (if t225 = true then (flongref02_Decode.l1 kj2 l0 x3_1 x4_1 x6_2 (wrap64 (x6_2 + 1))) else (flongref02_Decode.l1 kj2 l0 x3_1 x4_1 x5_2 (wrap64 (x6_2 + 1))))) else (none)) else (none)) else (none)) = some r := by rw [if_pos rfl] at H; exact H
         clear H
         have H := H1
         clear H1
         by_cases c7 : 0 ≤ x4_1
         ·rw [if_pos c7] at H
          have c7b0 := eq_true c7
          have c7b1 : decide (0 ≤ x4_1) = true := decide_eq_true c7
          clear c7
          by_cases c8 : x4_1 ≤ (wrap64 (x4_1 + x6_2))
          ·rw [if_pos c8] at H
           have c8b0 := eq_true c8
           have c8b1 : decide (x4_1 ≤ (wrap64 (x4_1 + x6_2))) = true := decide_eq_true c8
           by_cases c9 : (wrap64 (x4_1 + x6_2)) ≤ (l0.length : Int)
           ·rw [if_pos c9] at H
            have c9b0 := eq_true c9
            have c9b1 : decide ((wrap64 (x4_1 + x6_2)) ≤ (l0.length : Int)) = true := decide_eq_true c9
            replace H := Option.bind_eq_some_iff.mp H
            obtain ⟨t225, A100, H⟩ := H
            replace H : (if t225 = true then (flongref02_Decode.l1 kj2 l0 x3_1 x4_1 x6_2 (wrap64 (x6_2 + 1))) else (flongref02_Decode.l1 kj2 l0 x3_1 x4_1 x5_2 (wrap64 (x6_2 + 1)))) = some r := H
            have A10 := Aside0.mk A100
            clear A100
            by_cases c11 : t225 = true
            ·subst c11
             have H1 : (flongref02_Decode.l1 kj2 l0 x3_1 x4_1 x6_2 (wrap64 (x6_2 + 1))) = some r := by rw [if_pos rfl] at H; exact H
             clear H
             have H := H1
             clear H1
             have H' := Aside0.mk H
             clear H
             obtain ⟨i012, hi012, _, hsz12, _⟩ := info_parts info5
             obtain ⟨A12, hcut12, hA12, hC12⟩ := print_mid_of (P := Tryd.prog) (Value.int .u8) 0 26 5 .i64 .i64 Tryd.underlying26 hi012 hsz12 A0 c0 l0 x4_1 (wrap64 (x4_1 + x6_2)) (of_decide_eq_true (by first | (with_reducible assumption) | assumption)) (by first | omega | exact of_decide_eq_true (by first | (with_reducible assumption) | assumption)) (of_decide_eq_true (by first | (with_reducible assumption) | assumption)) HC0.out
             have HR224 := Aside0.mk (Kd.C_of_reads (h1 := fun _ => rfl) (hA12 _ (Kd.reads_of_C HR0.out)))
             have HC224 := Aside0.mk hC12
             clear hA12 hC12 hi012 hsz12
             go_wp2_with (first | ((with_reducible refine gate_callee (f := 66) rfl ?_); refine goesL_ (some 33) rfl rfl Tryd.func66 (by kernel_rfl) rfl #[.slice A12 ((l0.take ((wrap64 (x4_1 + x6_2)) : Int).toNat).drop (x4_1 : Int).toNat).length (c0 - x4_1.toNat)] rfl (by (try simp only [List.map_toArray, List.map_cons, List.map_nil]); first | done | (rw [show ((l0.take ((wrap64 (x4_1 + x6_2)) : Int).toNat).drop (x4_1 : Int).toNat).length = ((wrap64 (x4_1 + x6_2)).toNat - x4_1.toNat) from (by rw [List.length_drop, List.length_take]; have h_ : ((wrap64 (x4_1 + x6_2)) : Int) ≤ (l0.length : Int) := of_decide_eq_true (by first | (with_reducible assumption) | assumption); omega)] <;> rfl) | rfl | (simp only [List.length_drop, List.length_take]; rfl)) ?_; (with_reducible refine (flongref02_is.calls kj2 _ _ ((l0.take ((wrap64 (x4_1 + x6_2)) : Int).toNat).drop (x4_1 : Int).toNat) true _ ?side1 ?side2 A10.out).mono ?_); (case side1 => repeat (first | exact (Kd.C_below HR224.out HB.out) | (with_reducible refine Kd.C_alloc ?_ _) | (with_reducible refine Kd.C_drewN ?_ _) | (with_reducible refine Kd.C_drew ?_))); (case side2 => exact HC224.out); rintro e w13 ⟨rfl, hb⟩; refine ⟨_, rfl, ?_⟩; have n0_ := Aside0.mk (Kd.R_below (by (with_reducible repeat (first | apply Kd.R_alloc | apply Kd.R_drewN | apply Kd.R_drew)); exact HO_3.out) hb); have n1_ := Aside0.mk (below_step (by repeat (first | (with_reducible first | exact HB.out | apply below_alloc | apply pw_below_drewN | apply below_drew1) | exact HB.out)) hb); clear HO_3; clear HB; have HO_3 := n0_; have HB := n1_; clear n0_ n1_; (try clear hb); (try clear hb2); (try clear hk); (try clear hi)))
             go_roundg kj2
             case measure => have := HK1.out; have := HK2.out; have := HJ2.out; omega
             case rel => exact ⟨(x6_2), (wrap64 (x6_2 + 1)), (by first | rfl | (simp; done) | (simp [*]; done)), (by first | rfl | (simp; done) | (simp [*]; done)), H', ⟨by have := HK1.out; have := HK2.out; have := HJ2.out; omega⟩, ⟨by (with_reducible repeat (first | apply Kd.R_alloc | apply Kd.R_drewN | apply Kd.R_drew)); exact HO_3.out⟩, ⟨by repeat (first | (with_reducible first | exact HB.out | apply below_alloc | apply pw_below_drewN | apply below_drew1) | exact HB.out)⟩⟩
            ·replace c11 := Bool.eq_false_iff.mpr c11
             subst c11
             have H1 : (flongref02_Decode.l1 kj2 l0 x3_1 x4_1 x5_2 (wrap64 (x6_2 + 1))) = some r := by rw [if_neg (show ¬ (false = true) by decide)] at H; exact H
             clear H
             have H := H1
             clear H1
             have H' := Aside0.mk H
             clear H
             obtain ⟨i014, hi014, _, hsz14, _⟩ := info_parts info5
             obtain ⟨A14, hcut14, hA14, hC14⟩ := print_mid_of (P := Tryd.prog) (Value.int .u8) 0 26 5 .i64 .i64 Tryd.underlying26 hi014 hsz14 A0 c0 l0 x4_1 (wrap64 (x4_1 + x6_2)) (of_decide_eq_true (by first | (with_reducible assumption) | assumption)) (by first | omega | exact of_decide_eq_true (by first | (with_reducible assumption) | assumption)) (of_decide_eq_true (by first | (with_reducible assumption) | assumption)) HC0.out
             have HR224 := Aside0.mk (Kd.C_of_reads (h1 := fun _ => rfl) (hA14 _ (Kd.reads_of_C HR0.out)))
             have HC224 := Aside0.mk hC14
             clear hA14 hC14 hi014 hsz14
             go_wp2_with (first | ((with_reducible refine gate_callee (f := 66) rfl ?_); refine goesL_ (some 33) rfl rfl Tryd.func66 (by kernel_rfl) rfl #[.slice A14 ((l0.take ((wrap64 (x4_1 + x6_2)) : Int).toNat).drop (x4_1 : Int).toNat).length (c0 - x4_1.toNat)] rfl (by (try simp only [List.map_toArray, List.map_cons, List.map_nil]); first | done | (rw [show ((l0.take ((wrap64 (x4_1 + x6_2)) : Int).toNat).drop (x4_1 : Int).toNat).length = ((wrap64 (x4_1 + x6_2)).toNat - x4_1.toNat) from (by rw [List.length_drop, List.length_take]; have h_ : ((wrap64 (x4_1 + x6_2)) : Int) ≤ (l0.length : Int) := of_decide_eq_true (by first | (with_reducible assumption) | assumption); omega)] <;> rfl) | rfl | (simp only [List.length_drop, List.length_take]; rfl)) ?_; (with_reducible refine (flongref02_is.calls kj2 _ _ ((l0.take ((wrap64 (x4_1 + x6_2)) : Int).toNat).drop (x4_1 : Int).toNat) false _ ?side1 ?side2 A10.out).mono ?_); (case side1 => repeat (first | exact (Kd.C_below HR224.out HB.out) | (with_reducible refine Kd.C_alloc ?_ _) | (with_reducible refine Kd.C_drewN ?_ _) | (with_reducible refine Kd.C_drew ?_))); (case side2 => exact HC224.out); rintro e w15 ⟨rfl, hb⟩; refine ⟨_, rfl, ?_⟩; have n0_ := Aside0.mk (Kd.R_below (by (with_reducible repeat (first | apply Kd.R_alloc | apply Kd.R_drewN | apply Kd.R_drew)); exact HO_3.out) hb); have n1_ := Aside0.mk (below_step (by repeat (first | (with_reducible first | exact HB.out | apply below_alloc | apply pw_below_drewN | apply below_drew1) | exact HB.out)) hb); clear HO_3; clear HB; have HO_3 := n0_; have HB := n1_; clear n0_ n1_; (try clear hb); (try clear hb2); (try clear hk); (try clear hi)))
             go_roundg kj2
             case measure => have := HK1.out; have := HK2.out; have := HJ2.out; omega
             case rel => exact ⟨(x5_2), (wrap64 (x6_2 + 1)), (by first | rfl | (simp; done) | (simp [*]; done)), (by first | rfl | (simp; done) | (simp [*]; done)), H', ⟨by have := HK1.out; have := HK2.out; have := HJ2.out; omega⟩, ⟨by (with_reducible repeat (first | apply Kd.R_alloc | apply Kd.R_drewN | apply Kd.R_drew)); exact HO_3.out⟩, ⟨by repeat (first | (with_reducible first | exact HB.out | apply below_alloc | apply pw_below_drewN | apply below_drew1) | exact HB.out)⟩⟩
           ·rw [if_neg c9] at H
            exact absurd H (by simp)
          ·rw [if_neg c8] at H
           exact absurd H (by simp)
         ·rw [if_neg c7] at H
          exact absurd H (by simp)
        ·replace c6 := Bool.eq_false_iff.mpr c6
         subst c6
         have H1 : (if x5_2 = 0 then (if x3_1.length < 35184372088832 then (flongref02_Decode.l0 kj2 l0 (x3_1 ++ [65533]) (wrap64 (x4_1 + 1))) else (none)) else (if 0 ≤ x4_1 then (if x4_1 ≤ (wrap64 (x4_1 + x5_2)) then (if (wrap64 (x4_1 + x5_2)) ≤ (l0.length : Int) then ((flongref02_value.f kj2 ((l0.take ((wrap64 (x4_1 + x5_2)) : Int).toNat).drop (x4_1 : Int).toNat)).bind fun t230 => (if x3_1.length < 35184372088832 then (flongref02_Decode.l0 kj2 l0 (x3_1 ++ [wrap32 (t230)]) (wrap64 (x4_1 + x5_2))) else (none))) else (none)) else (none)) else (none))) = some r := by rw [if_neg (show ¬ (false = true) by decide)] at H; exact H
         clear H
         have H := H1
         clear H1
         by_cases c16 : x5_2 = 0
         ·rw [if_pos c16] at H
          have c16b0 : (x5_2 == 0) = true := beq_iff_eq.mpr c16
          have c16b1 : (x5_2 != 0) = false := bne_eq_false_iff_eq.mpr c16
          clear c16
          by_cases c17 : x3_1.length < 35184372088832
          ·rw [if_pos c17] at H
           have LMc17 := Aside0.mk c17
           clear c17
           obtain ⟨y226, hy226⟩ : ∃ y_ : List Int, y_ = (x3_1 ++ [65533]) := ⟨_, rfl⟩
           replace H : (flongref02_Decode.l0 kj2 l0 y226 (wrap64 (x4_1 + 1))) = some r := by first | (rw [hy226]; with_reducible exact H) | (have H2_ := (Option.bind_some _ _).symm.trans H; rw [hy226]; with_reducible exact H2_) | (have H2_ := (Option.bind_some _ _).symm.trans H; with_reducible exact H2_) | with_reducible exact H | (rw [hy226]; exact H) | exact H
           have Ny226 := Aside0.mk hy226
           clear hy226
           have H' := Aside0.mk H
           clear H
           go_wp2_with (first | ((with_reducible refine gate_builtin (b := .append) (xs := #[.tmp 37, .tmp 38]) rfl ?_); (try (refine gate_guard (by rfl) ?_; dsimp only)); at_builtin; refine Kd.R_append (Kd.int .i32) (w0 := w) w.heap.size rfl (.tmp 37) (.tmp 38) 59 21 (.int .i32 0) 4 rfl Tryd.underlying59 info21 rfl (by decide) (by omega) u3 x3_1 65533 [.int .i32 65533] (fun _ => True) (fun _ => False) rfl rfl ?aP (fun _ hk => hk.elim) ?aF ?aO ?aB ?aS ?aL ?_; (case aP => exact rfl); (case aB => exact (by repeat (first | (with_reducible first | exact HB.out | apply below_alloc | apply pw_below_drewN | apply below_drew1) | exact HB.out))); (case aF => exact (fun _ _ => trivial)); (case aO => exact (by (with_reducible repeat (first | apply Kd.R_alloc | apply Kd.R_drewN | apply Kd.R_drew)); exact HO_3.out)); (case aS => exact (below_size (by repeat (first | (with_reducible first | exact HB.out | apply below_alloc | apply pw_below_drewN | apply below_drew1) | exact HB.out)))); (case aL => have := LMc17.out; omega); intro v227 w18 ho hb hg hat; rw [← Ny226.out] at ho; have n0_ := Aside0.mk (hb); have n1_ := Aside0.mk (ho); clear HB; clear HO_3; have HB := n0_; have HO228 := n1_; clear n0_ n1_; clear ho hb hg hat))
           go_roundg kj2
           case measure => have := HK1.out; have := HK2.out; have := HJ2.out; omega
           case rel => exact ⟨(y226), (wrap64 (x4_1 + 1)), (by first | rfl | (simp; done) | (simp [*]; done)), H', ⟨by have := HK1.out; have := HK2.out; have := HJ2.out; omega⟩, ⟨by (with_reducible repeat (first | apply Kd.R_alloc | apply Kd.R_drewN | apply Kd.R_drew)); exact HO228.out⟩, ⟨by repeat (first | (with_reducible first | exact HB.out | apply below_alloc | apply pw_below_drewN | apply below_drew1) | exact HB.out)⟩⟩
          ·rw [if_neg c17] at H
           exact absurd H (by simp)
         ·rw [if_neg c16] at H
          have c16b0 : (x5_2 == 0) = false := beq_eq_false_iff_ne.mpr c16
          have c16b1 : (x5_2 != 0) = true := bne_iff_ne.mpr c16
          by_cases c19 : 0 ≤ x4_1
          ·rw [if_pos c19] at H
           have c19b0 := eq_true c19
           have c19b1 : decide (0 ≤ x4_1) = true := decide_eq_true c19
           clear c19
           by_cases c20 : x4_1 ≤ (wrap64 (x4_1 + x5_2))
           ·rw [if_pos c20] at H
            have c20b0 := eq_true c20
            have c20b1 : decide (x4_1 ≤ (wrap64 (x4_1 + x5_2))) = true := decide_eq_true c20
            by_cases c21 : (wrap64 (x4_1 + x5_2)) ≤ (l0.length : Int)
            ·rw [if_pos c21] at H
             have c21b0 := eq_true c21
             have c21b1 : decide ((wrap64 (x4_1 + x5_2)) ≤ (l0.length : Int)) = true := decide_eq_true c21
             replace H := Option.bind_eq_some_iff.mp H
             obtain ⟨t230, A220, H⟩ := H
             replace H : (if x3_1.length < 35184372088832 then (flongref02_Decode.l0 kj2 l0 (x3_1 ++ [wrap32 (t230)]) (wrap64 (x4_1 + x5_2))) else (none)) = some r := H
             have A22 := Aside0.mk A220
             clear A220
             by_cases c23 : x3_1.length < 35184372088832
             ·rw [if_pos c23] at H
              have LMc23 := Aside0.mk c23
              clear c23
              obtain ⟨y231, hy231⟩ : ∃ y_ : List Int, y_ = (x3_1 ++ [wrap32 (t230)]) := ⟨_, rfl⟩
              replace H : (flongref02_Decode.l0 kj2 l0 y231 (wrap64 (x4_1 + x5_2))) = some r := by first | (rw [hy231]; with_reducible exact H) | (have H2_ := (Option.bind_some _ _).symm.trans H; rw [hy231]; with_reducible exact H2_) | (have H2_ := (Option.bind_some _ _).symm.trans H; with_reducible exact H2_) | with_reducible exact H | (rw [hy231]; exact H) | exact H
              have Ny231 := Aside0.mk hy231
              clear hy231
              have H' := Aside0.mk H
              clear H
              obtain ⟨i024, hi024, _, hsz24, _⟩ := info_parts info5
              obtain ⟨A24, hcut24, hA24, hC24⟩ := print_mid_of (P := Tryd.prog) (Value.int .u8) 0 26 5 .i64 .i64 Tryd.underlying26 hi024 hsz24 A0 c0 l0 x4_1 (wrap64 (x4_1 + x5_2)) (of_decide_eq_true (by first | (with_reducible assumption) | assumption)) (by first | omega | exact of_decide_eq_true (by first | (with_reducible assumption) | assumption)) (of_decide_eq_true (by first | (with_reducible assumption) | assumption)) HC0.out
              have HR229 := Aside0.mk (Kd.C_of_reads (h1 := fun _ => rfl) (hA24 _ (Kd.reads_of_C HR0.out)))
              have HC229 := Aside0.mk hC24
              clear hA24 hC24 hi024 hsz24
              go_wp2_with (first | ((with_reducible refine gate_callee (f := 67) rfl ?_); refine goesL_ (some 49) rfl rfl Tryd.func67 (by kernel_rfl) rfl #[.slice A24 ((l0.take ((wrap64 (x4_1 + x5_2)) : Int).toNat).drop (x4_1 : Int).toNat).length (c0 - x4_1.toNat)] rfl (by (try simp only [List.map_toArray, List.map_cons, List.map_nil]); first | done | (rw [show ((l0.take ((wrap64 (x4_1 + x5_2)) : Int).toNat).drop (x4_1 : Int).toNat).length = ((wrap64 (x4_1 + x5_2)).toNat - x4_1.toNat) from (by rw [List.length_drop, List.length_take]; have h_ : ((wrap64 (x4_1 + x5_2)) : Int) ≤ (l0.length : Int) := of_decide_eq_true (by first | (with_reducible assumption) | assumption); omega)] <;> rfl) | rfl | (simp only [List.length_drop, List.length_take]; rfl)) ?_; (with_reducible refine (flongref02_value.calls kj2 _ _ ((l0.take ((wrap64 (x4_1 + x5_2)) : Int).toNat).drop (x4_1 : Int).toNat) t230 _ ?side1 ?side2 A22.out).mono ?_); (case side1 => repeat (first | exact (Kd.C_below HR229.out HB.out) | (with_reducible refine Kd.C_alloc ?_ _) | (with_reducible refine Kd.C_drewN ?_ _) | (with_reducible refine Kd.C_drew ?_))); (case side2 => exact HC229.out); rintro e w' ⟨rfl, ⟨nd, rfl⟩⟩; refine ⟨_, rfl, ?_⟩) | ((with_reducible refine gate_builtin (b := .append) (xs := #[.tmp 42, .tmp 51]) rfl ?_); (try (refine gate_guard (by rfl) ?_; dsimp only)); at_builtin; refine Kd.R_append (Kd.int .i32) (w0 := w) w.heap.size rfl (.tmp 42) (.tmp 51) 59 21 (.int .i32 0) 4 rfl Tryd.underlying59 info21 rfl (by decide) (by omega) u3 x3_1 (wrap32 (t230)) [.int .i32 (wrap32 (t230))] (fun _ => True) (fun _ => False) rfl rfl ?aP (fun _ hk => hk.elim) ?aF ?aO ?aB ?aS ?aL ?_; (case aP => exact rfl); (case aB => exact (by repeat (first | (with_reducible first | exact HB.out | apply below_alloc | apply pw_below_drewN | apply below_drew1) | exact HB.out))); (case aF => exact (fun _ _ => trivial)); (case aO => exact (by (with_reducible repeat (first | apply Kd.R_alloc | apply Kd.R_drewN | apply Kd.R_drew)); exact HO_3.out)); (case aS => exact (below_size (by repeat (first | (with_reducible first | exact HB.out | apply below_alloc | apply pw_below_drewN | apply below_drew1) | exact HB.out)))); (case aL => have := LMc23.out; omega); intro v232 w25 ho hb hg hat; rw [← Ny231.out] at ho; have n0_ := Aside0.mk (hb); have n1_ := Aside0.mk (ho); clear HB; clear HO_3; have HB := n0_; have HO233 := n1_; clear n0_ n1_; clear ho hb hg hat))
              go_roundg kj2
              case measure => have := HK1.out; have := HK2.out; have := HJ2.out; omega
              case rel => exact ⟨(y231), (wrap64 (x4_1 + x5_2)), (by first | rfl | (simp; done) | (simp [*]; done)), H', ⟨by have := HK1.out; have := HK2.out; have := HJ2.out; omega⟩, ⟨by (with_reducible repeat (first | apply Kd.R_alloc | apply Kd.R_drewN | apply Kd.R_drew)); exact HO233.out⟩, ⟨by repeat (first | (with_reducible first | exact HB.out | apply below_alloc | apply pw_below_drewN | apply below_drew1) | exact HB.out)⟩⟩
             ·rw [if_neg c23] at H
              exact absurd H (by simp)
            ·rw [if_neg c21] at H
             exact absurd H (by simp)
           ·rw [if_neg c20] at H
            exact absurd H (by simp)
          ·rw [if_neg c19] at H
           exact absurd H (by simp)
   ·rw [if_neg c2] at H
    have c2b0 : decide (x4_1 < (l0.length : Int)) = false := decide_eq_false c2
    clear c2
    obtain rfl := Option.some.inj H
    go_wp2
    go_ret
    exact ⟨_, by first | rfl | (simp [errW_none, errW_some] <;> rfl) | (simp [*, errW_none, errW_some] <;> rfl), by (with_reducible repeat (first | apply Kd.R_alloc | apply Kd.R_drewN | apply Kd.R_drew)); exact HO_3.out, by repeat (first | (with_reducible first | exact HB.out | apply below_alloc | apply pw_below_drewN | apply below_drew1) | exact HB.out)⟩

/-! ### flongref03_Of: function 32 -/
def flongref03_Of.l0 : Nat → Int → List Int → List (S37) → Int → Option ((List (S37)))
 | 0, _, _, _, _ => none
 | k + 1, x1, x5, x6, x7 => if x7 < (x5.length : Int) then (if 0 ≤ x7 then (if x6.length < 17592186044416 then (flongref03_Of.l0 k x1 x5 (x6 ++ [(⟨rd x5 x7, x1⟩ : S37)]) (wrap64 (x7 + 1))) else (none)) else (none)) else (some x6)
def flongref03_Of.f (k : Nat) (a0 : ByteArray) (a1 : Int) : Option ((List (S37))) := (conv_bytes.f a0).bind fun t234 => ((flongref02_Decode.f k t234).bind fun t237 => (flongref03_Of.l0 k a1 t237 ([] : List (S37)) 0))
theorem flongref03_Of.mono_l : ∀ k, (∀ y0 y1 y2 y3, LeO (flongref03_Of.l0 k y0 y1 y2 y3) (flongref03_Of.l0 (k + 1) y0 y1 y2 y3))
 | 0 => fun _ _ _ _ r h => by simp [flongref03_Of.l0] at h
 | k + 1 => by
  have ih0 := flongref03_Of.mono_l k
  ·intro y0 y1 y2 y3
   unfold flongref03_Of.l0
   repeat' first
   | (with_reducible exact ih0 _ _ _ _)
   | (with_reducible exact flongref02_Decode.mono _ _)
   | (with_reducible exact LeO.refl _)
   | (with_reducible exact LeO.none _)
   | (with_reducible refine LeO.ite ?_ ?_)
   | (with_reducible refine LeO.bind ?_ (fun _ => ?_))
theorem flongref03_Of.mono : ∀ a0 a1 k, LeO (flongref03_Of.f k a0 a1) (flongref03_Of.f (k + 1) a0 a1) := by
 intro a0 a1 k
 have ih0 := flongref03_Of.mono_l k
 unfold flongref03_Of.f
 repeat' first
   | (with_reducible exact ih0 _ _ _ _)
   | (with_reducible exact flongref02_Decode.mono _ _)
   | (with_reducible exact LeO.refl _)
   | (with_reducible exact LeO.none _)
   | (with_reducible refine LeO.ite ?_ ?_)
   | (with_reducible refine LeO.bind ?_ (fun _ => ?_))
theorem flongref03_Of.calls (k : Nat) (a0 : ByteArray) (a1 : Int) (r : List (S37)) (w : World) (h : flongref03_Of.f k a0 a1 = some r) :
  Calls Tryd.prog 32 #[.string a0, .int .u8 a1] w fun e w' => ∃ v0_ : Value, e = .returned (v0_) ∧ Kd.R k37 37 w' w.heap.size (fun _ => True) v0_ r ∧ Below w.heap.size w w' := by
 have hu37 := Tryd.underlying37
 have HB := Aside0.mk (Below.refl w.heap.size w)
 have H : ((conv_bytes.f a0).bind fun t234 => ((flongref02_Decode.f k t234).bind fun t237 => (flongref03_Of.l0 k a1 t237 ([] : List (S37)) 0))) = some r := h
 clear h
 replace H := Option.bind_eq_some_iff.mp H
 obtain ⟨t234, A30, H⟩ := H
 replace H : ((flongref02_Decode.f k t234).bind fun t237 => (flongref03_Of.l0 k a1 t237 ([] : List (S37)) 0)) = some r := H
 have A3 := Aside0.mk A30
 clear A30
 replace H := Option.bind_eq_some_iff.mp H
 obtain ⟨t237, A40, H⟩ := H
 replace H : (flongref03_Of.l0 k a1 t237 ([] : List (S37)) 0) = some r := H
 have A4 := Aside0.mk A40
 clear A40
 have H' := Aside0.mk H
 clear H
 go_enter Tryd.func32, Tryd.ntmps32
 go_wp2_with (first | ((with_reducible refine gate_convert (src := 9) (dst := 26) rfl ?_); refine convL_ _ rfl rfl a0 rfl rfl ?_; (with_reducible refine (conv_bytes.calls a0 t234 _ A3.out).mono ?_); rintro e w5 ⟨v235, rfl, ho0, hb⟩; refine ⟨_, rfl, ?_⟩; have n0_ := Aside0.mk (Kd.V_lower (Kd.V_mono (ok' := fun k_ => True) ho0 (fun k_ hk_ => trivial)) (below_size (by repeat (first | (with_reducible first | exact HB.out | apply below_alloc | apply pw_below_drewN | apply below_drew1) | exact HB.out)))); have n1_ := Aside0.mk (below_step (by repeat (first | (with_reducible first | exact HB.out | apply below_alloc | apply pw_below_drewN | apply below_drew1) | exact HB.out)) hb); clear HB; have HO236 := n0_; have HB := n1_; clear n0_ n1_; (try clear hb); (try clear hb2); (try clear hk); (try clear hi); (try clear ho0); obtain ⟨Ao6, co6, eo6⟩ := Kd.V_slice HO236.out; subst eo6) | ((with_reducible refine gate_callee (f := 53) rfl ?_); refine goesL_ (some 10) rfl rfl Tryd.func53 (by kernel_rfl) rfl #[.slice Ao6 t234.length co6] rfl (by (try simp only [List.map_toArray, List.map_cons, List.map_nil]); first | done | rfl | (simp only [List.length_drop, List.length_take]; rfl)) ?_; (with_reducible refine (flongref02_Decode.calls k _ _ t234 t237 _ ?side1 ?side2 A4.out).mono ?_); (case side1 => repeat (first | exact (Kd.V_reads' HO236.out).2.2 | (with_reducible refine Kd.C_alloc ?_ _) | (with_reducible refine Kd.C_drewN ?_ _) | (with_reducible refine Kd.C_drew ?_))); (case side2 => exact (Kd.V_reads' HO236.out).2.1); rintro e w7 ⟨v238, rfl, ho0, hb⟩; refine ⟨_, rfl, ?_⟩; have n0_ := Aside0.mk (Kd.V_elder' (by (with_reducible repeat (first | apply Kd.V_alloc | apply Kd.V_drewN | apply Kd.V_drew)); exact HO236.out) (Kd.R_base ho0) hb); have n1_ := Aside0.mk (Kd.R_lower ho0 (below_size (by repeat (first | (with_reducible first | exact HB.out | apply below_alloc | apply pw_below_drewN | apply below_drew1) | exact HB.out)))); have n2_ := Aside0.mk (below_step (by repeat (first | (with_reducible first | exact HB.out | apply below_alloc | apply pw_below_drewN | apply below_drew1) | exact HB.out)) hb); clear HO236; clear HB; have HO236 := n0_; have HO239 := n1_; have HB := n2_; clear n0_ n1_ n2_; (try clear hb); (try clear hb2); (try clear hk); (try clear hi); (try clear ho0)))
 go_loopg [6, 7] k (fun kq v6 v7 w' => ∃ (x6_1 : List (S37)) (x7_1 : Int), v7 = .int .i64 x7_1 ∧ Aside0 (flongref03_Of.l0 kq a1 t237 x6_1 x7_1 = some r) ∧ Aside0 (kq ≤ k) ∧ Aside0 (Kd.R (Kd.int .i32) 21 w' w.heap.size (fun _ => True) v238 t237) ∧ Aside0 (Kd.R k37 37 w' w.heap.size (fun _ => True) v6 x6_1) ∧ Aside0 (Below w.heap.size w w'))
 case atStart => exact ⟨(([] : List (S37))), (0), (by first | rfl | (simp; done) | (simp [*]; done)), H', ⟨Nat.le_refl _⟩, ⟨by (with_reducible repeat (first | apply Kd.R_alloc | apply Kd.R_drewN | apply Kd.R_drew)); exact HO239.out⟩, ⟨by first | exact Kd.R_nil _ _ _ _ _ | exact Kd.N_nil _ _ _ _ _ | exact Kd.V_nil _ _ _ _ _ | exact Kd.Q_nil _ _ _ _ _ | exact Kd.S_nil _ _ _ _ _⟩, ⟨by repeat (first | (with_reducible first | exact HB.out | apply below_alloc | apply pw_below_drewN | apply below_drew1) | exact HB.out)⟩⟩
 case round =>
  clear H'
  try clear p2
  try clear c3
  try clear c5
  obtain ⟨x6_1, x7_1, rfl, HA, HK1, HO_5, HO_6, HB⟩ := hrel
  cases gk with
  | zero => exact absurd HA.out (by simp [flongref03_Of.l0])
  | succ k1 =>
   have H := HA.out
   clear HA
   simp only [flongref03_Of.l0] at H
   by_cases c8 : x7_1 < (t237.length : Int)
   ·rw [if_pos c8] at H
    have c8b0 : decide (x7_1 < (t237.length : Int)) = true := decide_eq_true c8
    clear c8
    by_cases c9 : 0 ≤ x7_1
    ·rw [if_pos c9] at H
     have c9b0 : decide (0 ≤ x7_1) = true := decide_eq_true c9
     clear c9
     by_cases c10 : x6_1.length < 17592186044416
     ·rw [if_pos c10] at H
      have LMc10 := Aside0.mk c10
      clear c10
      obtain ⟨y241, hy241⟩ : ∃ y_ : List (S37), y_ = (x6_1 ++ [(⟨rd t237 x7_1, a1⟩ : S37)]) := ⟨_, rfl⟩
      replace H : (flongref03_Of.l0 k1 a1 t237 y241 (wrap64 (x7_1 + 1))) = some r := by first | (rw [hy241]; with_reducible exact H) | (have H2_ := (Option.bind_some _ _).symm.trans H; rw [hy241]; with_reducible exact H2_) | (have H2_ := (Option.bind_some _ _).symm.trans H; with_reducible exact H2_) | with_reducible exact H | (rw [hy241]; exact H) | exact H
      have Ny241 := Aside0.mk hy241
      clear hy241
      have H' := Aside0.mk H
      clear H
      obtain ⟨Ao11, co11, eo11⟩ := Kd.R_slice HO_5.out
      subst eo11
      have p240 : 0 ≤ (x7_1 : Int) := of_decide_eq_true (by first | (with_reducible assumption) | assumption)
      have q240 : x7_1 < (t237.length : Int) := of_decide_eq_true (by first | (with_reducible assumption) | assumption)
      obtain ⟨ad240, e240, hx240_0⟩ := Kd.at_int (Kd.R_reads' HO_5.out).2.2 x7_1 p240 q240
      cases e240
      replace p240 := eq_true p240
      replace q240 := eq_true q240
      go_wp2_with (first | ((with_reducible refine gate_builtin (b := .append) (xs := #[.tmp 17, .tmp 24]) rfl ?_); at_builtin; refine Kd.R_append k37 (w0 := w) w.heap.size rfl (.tmp 17) (.tmp 24) 33 37 (.agg #[(.int .i32 0), (.int .u8 0)]) 8 rfl Tryd.underlying33 info37 rfl (by decide) (by omega) u6 x6_1 (⟨rd t237 x7_1, a1⟩ : S37) [.int .i32 (rd t237 x7_1), .int .u8 a1] (fun _ => True) (fun _ => False) rfl rfl ?aP (fun _ hk => hk.elim) ?aF ?aO ?aB ?aS ?aL ?_; (case aP => exact k37_mkM _ _ _ (⟨rd t237 x7_1, a1⟩ : S37)); (case aB => exact (by repeat (first | (with_reducible first | exact HB.out | apply below_alloc | apply pw_below_drewN | apply below_drew1) | exact HB.out))); (case aF => exact (fun _ _ => trivial)); (case aO => exact (by (with_reducible repeat (first | apply Kd.R_alloc | apply Kd.R_drewN | apply Kd.R_drew)); exact HO_6.out)); (case aS => exact (below_size (by repeat (first | (with_reducible first | exact HB.out | apply below_alloc | apply pw_below_drewN | apply below_drew1) | exact HB.out)))); (case aL => have := LMc10.out; omega); intro v242 w12 ho hb hg hat; rw [← Ny241.out] at ho; have n0_ := Aside0.mk (Kd.R_over' (by (with_reducible repeat (first | apply Kd.R_alloc | apply Kd.R_drewN | apply Kd.R_drew)); exact HO_5.out) (Kd.R_typed (by (with_reducible repeat (first | apply Kd.R_alloc | apply Kd.R_drewN | apply Kd.R_drew)); exact HO_6.out)) (by decide) hg); have n1_ := Aside0.mk (hb); have n2_ := Aside0.mk (ho); clear HO_5; clear HB; clear HO_6; have HO_5 := n0_; have HB := n1_; have HO243 := n2_; clear n0_ n1_ n2_; clear ho hb hg hat))
      go_roundg k1
      case measure => have := HK1.out; omega
      case rel => exact ⟨(y241), (wrap64 (x7_1 + 1)), (by first | rfl | (simp; done) | (simp [*]; done)), H', ⟨by have := HK1.out; omega⟩, ⟨by (with_reducible repeat (first | apply Kd.R_alloc | apply Kd.R_drewN | apply Kd.R_drew)); exact HO_5.out⟩, ⟨by (with_reducible repeat (first | apply Kd.R_alloc | apply Kd.R_drewN | apply Kd.R_drew)); exact HO243.out⟩, ⟨by repeat (first | (with_reducible first | exact HB.out | apply below_alloc | apply pw_below_drewN | apply below_drew1) | exact HB.out)⟩⟩
     ·rw [if_neg c10] at H
      exact absurd H (by simp)
    ·rw [if_neg c9] at H
     exact absurd H (by simp)
   ·rw [if_neg c8] at H
    have c8b0 : decide (x7_1 < (t237.length : Int)) = false := decide_eq_false c8
    clear c8
    obtain rfl := Option.some.inj H
    obtain ⟨Ao13, co13, eo13⟩ := Kd.R_slice HO_5.out
    subst eo13
    go_wp2
    go_ret
    exact ⟨_, by first | rfl | (simp [errW_none, errW_some] <;> rfl) | (simp [*, errW_none, errW_some] <;> rfl), by (with_reducible repeat (first | apply Kd.R_alloc | apply Kd.R_drewN | apply Kd.R_drew)); exact HO_6.out, by repeat (first | (with_reducible first | exact HB.out | apply below_alloc | apply pw_below_drewN | apply below_drew1) | exact HB.out)⟩

/-! ### flonglaw17_known: function 11 -/
def flonglaw17_known.f (k : Nat)  : Option (Bool) := (flongref03_Of.f k (⟨#[97, 98]⟩ : ByteArray) 1).bind fun t244 => ((plain_Write.f k (([(⟨2, t244, false⟩ : S49)] : List (S49)))).bind fun t250 => (some ((strOfNums t250).toList == ([32, 32, 97, 98, 10] : List UInt8))))
theorem flonglaw17_known.mono : ∀ k, LeO (flonglaw17_known.f k ) (flonglaw17_known.f (k + 1) ) := by
 intro  k
 unfold flonglaw17_known.f
 repeat' first
   | (with_reducible exact flongref03_Of.mono _ _ _)
   | (with_reducible exact plain_Write.mono _ _)
   | (with_reducible exact LeO.refl _)
   | (with_reducible exact LeO.none _)
   | (with_reducible refine LeO.ite ?_ ?_)
   | (with_reducible refine LeO.bind ?_ (fun _ => ?_))
theorem flonglaw17_known.calls (k : Nat)  (r : Bool) (w : World) (hG : GOK [0,1] w) (h : flonglaw17_known.f k  = some r) :
  Calls Tryd.prog 11 #[] w fun e w' => e = .returned (.bool r) ∧ Below w.heap.size w w' := by
 have hu49 := Tryd.underlying49
 have HG := Aside0.mk hG
 clear hG
 have HB := Aside0.mk (Below.refl w.heap.size w)
 have H : ((flongref03_Of.f k (⟨#[97, 98]⟩ : ByteArray) 1).bind fun t244 => ((plain_Write.f k (([(⟨2, t244, false⟩ : S49)] : List (S49)))).bind fun t250 => (some ((strOfNums t250).toList == ([32, 32, 97, 98, 10] : List UInt8))))) = some r := h
 clear h
 replace H := Option.bind_eq_some_iff.mp H
 obtain ⟨t244, A10, H⟩ := H
 replace H : ((plain_Write.f k (([(⟨2, t244, false⟩ : S49)] : List (S49)))).bind fun t250 => (some ((strOfNums t250).toList == ([32, 32, 97, 98, 10] : List UInt8)))) = some r := H
 have A1 := Aside0.mk A10
 clear A10
 obtain ⟨y247, hy247⟩ : ∃ y_ : List (S49), y_ = (([(⟨2, t244, false⟩ : S49)] : List (S49))) := ⟨_, rfl⟩
 replace H : ((plain_Write.f k y247).bind fun t250 => (some ((strOfNums t250).toList == ([32, 32, 97, 98, 10] : List UInt8)))) = some r := by first | (rw [hy247]; with_reducible exact H) | (have H2_ := (Option.bind_some _ _).symm.trans H; rw [hy247]; with_reducible exact H2_) | (have H2_ := (Option.bind_some _ _).symm.trans H; with_reducible exact H2_) | with_reducible exact H | (rw [hy247]; exact H) | exact H
 have Ny247 := Aside0.mk hy247
 clear hy247
 replace H := Option.bind_eq_some_iff.mp H
 obtain ⟨t250, A20, H⟩ := H
 replace H : (some ((strOfNums t250).toList == ([32, 32, 97, 98, 10] : List UInt8))) = some r := H
 have A2 := Aside0.mk A20
 clear A20
 obtain rfl := Option.some.inj H
 go_enter Tryd.func11, Tryd.ntmps11
 go_wp2_with (first | ((with_reducible refine gate_callee (f := 32) rfl ?_); refine goesL_ (some 1) rfl rfl Tryd.func32 (by kernel_rfl) rfl #[.string (⟨#[97, 98]⟩ : ByteArray), .int .u8 1] rfl (by (try simp only [List.map_toArray, List.map_cons, List.map_nil]); first | done | rfl | (simp only [List.length_drop, List.length_take]; rfl)) ?_; (with_reducible refine (flongref03_Of.calls k (⟨#[97, 98]⟩ : ByteArray) 1 t244 _ A1.out).mono ?_); rintro e w3 ⟨v245, rfl, ho0, hb⟩; refine ⟨_, rfl, ?_⟩; have n0_ := Aside0.mk (Kd.R_lower ho0 (below_size (by repeat (first | (with_reducible first | exact HB.out | apply below_alloc | apply pw_below_drewN | apply below_drew1) | exact HB.out)))); have n1_ := Aside0.mk (below_step (by repeat (first | (with_reducible first | exact HB.out | apply below_alloc | apply pw_below_drewN | apply below_drew1) | exact HB.out)) hb); clear HB; have HO246 := n0_; have HB := n1_; clear n0_ n1_; (try clear hb); (try clear hb2); (try clear hk); (try clear hi); (try clear ho0); obtain ⟨Ao4, co4, eo4⟩ := Kd.R_slice HO246.out; subst eo4) | ((with_reducible refine gate_dst (N := 3) rfl ?_); refine Kd.N_lit k49 _ 49 ?hg (N' := 3) ?hd (xs := ([(⟨2, t244, false⟩ : S49)] : List (S49))) (inner := [.int .i64 2, .slice Ao4 t244.length co4, .bool false]) (ok := (fun _ => True)) (okp := (fun _ => True)) ?hr ?hp (fun _ hk => hk) ((show ∀ k_, w3.heap.size ≤ k_ → (fun _ => True) k_ from fun k_ hk => trivial) _ (Nat.le_refl _)) (Below.refl _ _) (Nat.le_refl _) (by simp) ?_; (case hd => rfl); (case hg => rfl); (case hr => first | (go_simp; done) | (go_simp; rfl)); (case hp => exact (Reps.c3 (show Kd.FK k49 _ _ (⟨2, t244, false⟩ : S49) [.int .i64 2, .slice Ao4 t244.length co4, .bool false] from (k49_mkF _ _ (⟨2, t244, false⟩ : S49) (Kd.R_reads' (Kd.R_mono (ok' := (fun _ => True)) (HO246.out) (fun k_ hk => trivial))).2.1 (Kd.R_F (Kd.R_mono (ok' := (fun _ => True)) (HO246.out) (fun k_ hk => trivial))))) (Reps.none _ _))); intro v248 w5 ho6 hb hg_ hnew_; clear hg_ hnew_; (first | rw [← Ny247.out] at ho6 | (simp only [Int.reduceToNat] at ho6; rw [← Ny247.out] at ho6)); have n0_ := Aside0.mk (Kd.N_lower ho6 (below_size (by repeat (first | (with_reducible first | exact HB.out | apply below_alloc | apply pw_below_drewN | apply below_drew1) | exact HB.out)))); have n1_ := Aside0.mk (below_step (by repeat (first | (with_reducible first | exact HB.out | apply below_alloc | apply pw_below_drewN | apply below_drew1) | exact HB.out)) hb); clear HB; clear HO246; have HO249 := n0_; have HB := n1_; clear n0_ n1_; clear hb ho6; obtain ⟨Ao7, co7, eo7⟩ := Kd.N_slice HO249.out; subst eo7) | ((with_reducible refine gate_callee (f := 13) rfl ?_); refine goesL_ (some 4) rfl rfl Tryd.func13 (by kernel_rfl) rfl #[.slice Ao7 y247.length co7] rfl (by (try simp only [List.map_toArray, List.map_cons, List.map_nil]); first | done | rfl | (simp only [List.length_drop, List.length_take]; rfl)) ?_; (with_reducible refine (plain_Write.calls k _ _ y247 t250 _ ?side1 ?side2 ?side3 A2.out).mono ?_); (case side1 => repeat (first | exact (Kd.N_reads' HO249.out).2.2 | (with_reducible refine Kd.C_alloc ?_ _) | (with_reducible refine Kd.C_drewN ?_ _) | (with_reducible refine Kd.C_drew ?_))); (case side2 => exact (Kd.N_reads' HO249.out).2.1); (case side3 => exact GOK.of_below (GOK.sub HG.out rfl) (by repeat (first | (with_reducible first | exact HB.out | apply below_alloc | apply pw_below_drewN | apply below_drew1) | exact HB.out))); rintro e w8 ⟨v251, rfl, ho0, hb⟩; refine ⟨_, rfl, ?_⟩; have n0_ := Aside0.mk (Kd.N_elder' (by (with_reducible repeat (first | apply Kd.N_alloc | apply Kd.N_drewN | apply Kd.N_drew)); exact HO249.out) (Kd.R_base ho0) hb); have n1_ := Aside0.mk (Kd.R_lower ho0 (below_size (by repeat (first | (with_reducible first | exact HB.out | apply below_alloc | apply pw_below_drewN | apply below_drew1) | exact HB.out)))); have n2_ := Aside0.mk (below_step (by repeat (first | (with_reducible first | exact HB.out | apply below_alloc | apply pw_below_drewN | apply below_drew1) | exact HB.out)) hb); clear HO249; clear HB; have HO249 := n0_; have HO252 := n1_; have HB := n2_; clear n0_ n1_ n2_; (try clear hb); (try clear hb2); (try clear hk); (try clear hi); (try clear ho0); have hcv9 := own_string (P := Tryd.prog) Tryd.underlying26 Tryd.underlying5 Tryd.underlying9 (Kd.own_of_R HO252.out)))
 go_ret
 exact ⟨by first | rfl | (simp [errW_none, errW_some] <;> rfl) | (simp [*, errW_none, errW_some] <;> rfl), by repeat (first | (with_reducible first | exact HB.out | apply below_alloc | apply pw_below_drewN | apply below_drew1) | exact HB.out)⟩

/-! ### flongref00_Same: function 12 -/
def flongref00_Same.f (l0 : List Int) (l1 : List Int) : Option (Bool) := some ((strOfNums l0).toList == (strOfNums l1).toList)
theorem flongref00_Same.calls (A0 : Option Addr) (c0 : Nat) (l0 : List Int) (A1 : Option Addr) (c1 : Nat) (l1 : List Int) (r : Bool) (w : World) (hr0 : Kd.C (Kd.int .u8) w A0 l0.length l0) (hc0 : l0.length ≤ c0) (hr1 : Kd.C (Kd.int .u8) w A1 l1.length l1) (hc1 : l1.length ≤ c1) (h : flongref00_Same.f l0 l1 = some r) :
  Calls Tryd.prog 12 #[.slice A0 l0.length c0, .slice A1 l1.length c1] w fun e w' => e = .returned (.bool r) ∧ Drawn0 w w' := by
 have HR0 := Aside0.mk hr0
 have HC0 := Aside0.mk hc0
 clear hr0 hc0
 have HR1 := Aside0.mk hr1
 have HC1 := Aside0.mk hc1
 clear hr1 hc1
 have H : (some ((strOfNums l0).toList == (strOfNums l1).toList)) = some r := h
 clear h
 obtain rfl := Option.some.inj H
 have hcv3 := Kd.C_string (P := Tryd.prog) (A := A0) (c := c0) Tryd.underlying26 Tryd.underlying5 Tryd.underlying9 HR0.out
 have hcv4 := Kd.C_string (P := Tryd.prog) (A := A1) (c := c1) Tryd.underlying26 Tryd.underlying5 Tryd.underlying9 HR1.out
 go_enter Tryd.func12, Tryd.ntmps12
 go_wp2
 go_ret
 exact ⟨by first | rfl | (simp; done) | (simp [*]; done), by repeat (first | exact Drawn0.refl _ | apply Drawn0.step)⟩

end Go.Proofs.YtadejblahbebdaaDoor.X
