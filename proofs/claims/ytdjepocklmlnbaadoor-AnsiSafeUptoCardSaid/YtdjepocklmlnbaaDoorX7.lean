-- Written by this session's xprint.py (a variant of the kit's printer). Not trusted: Lean checks it.
import Derived.Test.YtdjepocklmlnbaaDoorX0
namespace Go.Proofs.YtdjepocklmlnbaaDoor.X
open Go.RowKit Go.Proofs.YtdjepocklmlnbaaDoorW.PrintWords Go.Proofs.YtdjepocklmlnbaaDoorW.PrintLast Go.Proofs.YtdjepocklmlnbaaDoorW.PrintMore
attribute [local go_sem] max2_int min2_int max_two min_two max_three min_three max_four min_four   -- for this text's walks alone
set_option linter.unusedVariables false
set_option maxHeartbeats 8000000
set_option maxRecDepth 100000
set_option linter.unusedSimpArgs false

/-! ### flongref03_Runs: function 22 -/
def flongref03_Runs.l0 : Nat → List (S44) → List (List (S44)) → Int → Option ((List (List (S44))))
 | 0, _, _, _ => none
 | k + 1, x0, x3, x4 => if x4 < (x0.length : Int) then (if x4 = 0 then (if x3.length < 5864062014805 then ((some (x3 ++ [([] : List (S44))] : List (List (S44)))).bind fun y308 => (if 0 ≤ (wrap64 ((y308.length : Int) - 1)) then (if (wrap64 ((y308.length : Int) - 1)) < (y308.length : Int) then (if 0 ≤ x4 then (if (rd_L5 y308 (wrap64 ((y308.length : Int) - 1))).length < 17592186044416 then (flongref03_Runs.l0 k x0 (y308.set ((wrap64 ((y308.length : Int) - 1)) : Int).toNat ((rd_L5 y308 (wrap64 ((y308.length : Int) - 1))) ++ [(⟨(rd_T44 x0 x4).f0, (rd_T44 x0 x4).f1⟩ : S44)])) (wrap64 (x4 + 1))) else (none)) else (none)) else (none)) else (none))) else (none)) else (if 0 ≤ x4 then (if 0 ≤ (wrap64 (x4 - 1)) then (if (wrap64 (x4 - 1)) < (x0.length : Int) then (if ((rd_T44 x0 x4).f1) = ((rd_T44 x0 (wrap64 (x4 - 1))).f1) then (if 0 ≤ (wrap64 ((x3.length : Int) - 1)) then (if (wrap64 ((x3.length : Int) - 1)) < (x3.length : Int) then (if (rd_L5 x3 (wrap64 ((x3.length : Int) - 1))).length < 17592186044416 then (flongref03_Runs.l0 k x0 (x3.set ((wrap64 ((x3.length : Int) - 1)) : Int).toNat ((rd_L5 x3 (wrap64 ((x3.length : Int) - 1))) ++ [(⟨(rd_T44 x0 x4).f0, (rd_T44 x0 x4).f1⟩ : S44)])) (wrap64 (x4 + 1))) else (none)) else (none)) else (none)) else (if x3.length < 5864062014805 then ((some (x3 ++ [([] : List (S44))] : List (List (S44)))).bind fun y325 => (if 0 ≤ (wrap64 ((y325.length : Int) - 1)) then (if (wrap64 ((y325.length : Int) - 1)) < (y325.length : Int) then (if (rd_L5 y325 (wrap64 ((y325.length : Int) - 1))).length < 17592186044416 then (flongref03_Runs.l0 k x0 (y325.set ((wrap64 ((y325.length : Int) - 1)) : Int).toNat ((rd_L5 y325 (wrap64 ((y325.length : Int) - 1))) ++ [(⟨(rd_T44 x0 x4).f0, (rd_T44 x0 x4).f1⟩ : S44)])) (wrap64 (x4 + 1))) else (none)) else (none)) else (none))) else (none))) else (none)) else (none)) else (none))) else (some x3)
def flongref03_Runs.f (k : Nat) (l0 : List (S44)) : Option ((List (List (S44)))) := flongref03_Runs.l0 k l0 ([] : List (List (S44))) 0
theorem flongref03_Runs.mono_l : ∀ k, (∀ y0 y1 y2, LeO (flongref03_Runs.l0 k y0 y1 y2) (flongref03_Runs.l0 (k + 1) y0 y1 y2))
 | 0 => fun _ _ _ r h => by simp [flongref03_Runs.l0] at h
 | k + 1 => by
  have ih0 := flongref03_Runs.mono_l k
  ·intro y0 y1 y2
   unfold flongref03_Runs.l0
   repeat' first
   | (with_reducible exact ih0 _ _ _)
   | (with_reducible exact LeO.refl _)
   | (with_reducible exact LeO.none _)
   | (with_reducible refine LeO.ite ?_ ?_)
   | (with_reducible refine LeO.bind ?_ (fun _ => ?_))
theorem flongref03_Runs.mono : ∀ a0 k, LeO (flongref03_Runs.f k a0) (flongref03_Runs.f (k + 1) a0) := by
 intro a0 k
 have ih0 := flongref03_Runs.mono_l k
 unfold flongref03_Runs.f
 repeat' first
   | (with_reducible exact ih0 _ _ _)
   | (with_reducible exact LeO.refl _)
   | (with_reducible exact LeO.none _)
   | (with_reducible refine LeO.ite ?_ ?_)
   | (with_reducible refine LeO.bind ?_ (fun _ => ?_))
def flongref03_Runs.T5 : Bool × List (List Nat × List Nat) := (true, [([], []), ([0], [0]), ([1], [1]), ([2], [2]), ([2], [2]), ([3, 4, 2], [2, 3, 4]), ([5, 2], [2, 5]), ([6, 2], [2, 6]), ([2], [2]), ([2], [2]), ([9, 2], [2, 9]), ([8, 10, 2], [2, 8, 10]), ([11, 2], [2, 11]), ([12, 2], [2, 12]), ([7, 13, 2], [2, 7, 13]), ([2, 14], [2, 14])])
def flongref03_Runs.B5 : List Nat := [0, 1, 3, 7, 7, 31, 63, 127, 7, 7, 519, 1799, 3847, 7943, 16383, 32767]
theorem flongref03_Runs.tab5 : rtab .any (opsOf Tryd.f22 5) = flongref03_Runs.T5 := by kernel_rfl
theorem flongref03_Runs.bits5 : waitsOk flongref03_Runs.T5.2 flongref03_Runs.B5 = true := by kernel_rfl
def flongref03_Runs.T8 : Bool × List (List Nat × List Nat) := (true, [([], []), ([], []), ([], []), ([], []), ([2, 3], [2, 3]), ([4], [4]), ([], []), ([], []), ([6, 7], [6, 7]), ([8], [8]), ([9], [9]), ([5, 10], [5, 10]), ([0, 1, 0, 1, 2, 3, 4, 5, 6, 7, 8, 9, 10, 11], [0, 1]), ([12, 11, 11, 0, 1, 2, 3, 4, 5, 6, 7, 8, 9, 10, 11], [11, 12])])
def flongref03_Runs.B8 : List Nat := [0, 0, 0, 0, 12, 28, 0, 0, 192, 448, 960, 2044, 4095, 8191]
theorem flongref03_Runs.tab8 : rtab .any (opsOf Tryd.f22 8) = flongref03_Runs.T8 := by kernel_rfl
theorem flongref03_Runs.bits8 : waitsOk flongref03_Runs.T8.2 flongref03_Runs.B8 = true := by kernel_rfl
theorem flongref03_Runs.calls (k : Nat) (A0 : Option Addr) (c0 : Nat) (l0 : List (S44)) (r : List (List (S44))) (w : World) (hr0 : Kd.C k44 w A0 l0.length l0) (hc0 : l0.length ≤ c0) (h : flongref03_Runs.f k l0 = some r) :
  Calls Tryd.prog 22 #[.slice A0 l0.length c0] w fun e w' => ∃ v0_ : Value, e = .returned (v0_) ∧ Kd.S (Kd.slice 44 k44) 33 w' w.heap.size (fun _ => True) v0_ r ∧ Below w.heap.size w w' := by
 have hu44 := Tryd.underlying44
 have HR0 := Aside0.mk hr0
 have HC0 := Aside0.mk hc0
 clear hr0 hc0
 have HB := Aside0.mk (Below.refl w.heap.size w)
 have H : (flongref03_Runs.l0 k l0 ([] : List (List (S44))) 0) = some r := h
 clear h
 have H' := Aside0.mk H
 clear H
 go_enter Tryd.func22, Tryd.ntmps22
 go_wp2
 go_loopg [3, 4] k (fun kq v3 v4 w' => ∃ (x3_1 : List (List (S44))) (x4_1 : Int), v4 = .int .i64 x4_1 ∧ Aside0 (flongref03_Runs.l0 kq l0 x3_1 x4_1 = some r) ∧ Aside0 (kq ≤ k) ∧ Aside0 (Kd.S (Kd.slice 44 k44) 33 w' w.heap.size (fun _ => True) v3 x3_1) ∧ Aside0 (Below w.heap.size w w'))
 case atStart => exact ⟨(([] : List (List (S44)))), (0), (by first | rfl | (simp; done) | (simp [*]; done)), H', ⟨Nat.le_refl _⟩, ⟨by first | exact Kd.S_nil _ _ _ _ _ | exact Kd.N_nil _ _ _ _ _ | exact Kd.V_nil _ _ _ _ _ | exact Kd.Q_nil _ _ _ _ _ | exact Kd.R_nil _ _ _ _ _⟩, ⟨by repeat (first | (with_reducible first | exact HB.out | apply below_alloc | apply pw_below_drewN | apply below_drew1) | exact HB.out)⟩⟩
 case round =>
  clear H'
  obtain ⟨x3_1, x4_1, rfl, HA, HK1, HO_3, HB⟩ := hrel
  cases gk with
  | zero => exact absurd HA.out (by simp [flongref03_Runs.l0])
  | succ k1 =>
   have H := HA.out
   clear HA
   simp only [flongref03_Runs.l0] at H
   by_cases c2 : x4_1 < (l0.length : Int)
   ·rw [if_pos c2] at H
    have c2b0 : decide (x4_1 < (l0.length : Int)) = true := decide_eq_true c2
    clear c2
    by_cases c3 : x4_1 = 0
    ·rw [if_pos c3] at H
     have c3b0 : (x4_1 == 0) = true := beq_iff_eq.mpr c3
     have c3b1 : (x4_1 != 0) = false := bne_eq_false_iff_eq.mpr c3
     clear c3
     by_cases c4 : x3_1.length < 5864062014805
     ·rw [if_pos c4] at H
      have LMc4 := Aside0.mk c4
      clear c4
      obtain ⟨y308, hy308⟩ : ∃ y_ : List (List (S44)), y_ = (x3_1 ++ [([] : List (S44))]) := ⟨_, rfl⟩
      replace H : (if 0 ≤ (wrap64 ((y308.length : Int) - 1)) then (if (wrap64 ((y308.length : Int) - 1)) < (y308.length : Int) then (if 0 ≤ x4_1 then (if (rd_L5 y308 (wrap64 ((y308.length : Int) - 1))).length < 17592186044416 then (flongref03_Runs.l0 k1 l0 (y308.set ((wrap64 ((y308.length : Int) - 1)) : Int).toNat ((rd_L5 y308 (wrap64 ((y308.length : Int) - 1))) ++ [(⟨(rd_T44 l0 x4_1).f0, (rd_T44 l0 x4_1).f1⟩ : S44)])) (wrap64 (x4_1 + 1))) else (none)) else (none)) else (none)) else (none)) = some r := by first | (rw [hy308]; with_reducible exact H) | (have H2_ := (Option.bind_some _ _).symm.trans H; rw [hy308]; with_reducible exact H2_) | (have H2_ := (Option.bind_some _ _).symm.trans H; with_reducible exact H2_) | with_reducible exact H | (rw [hy308]; exact H) | exact H
      have Ny308 := Aside0.mk hy308
      clear hy308
      obtain ⟨ji5, hji5⟩ : ∃ j_ : Int, (wrap64 ((y308.length : Int) - 1)) = j_ := ⟨_, rfl⟩
      replace H : (if 0 ≤ (ji5) then (if (ji5) < (y308.length : Int) then (if 0 ≤ x4_1 then (if (rd_L5 y308 (ji5)).length < 17592186044416 then (flongref03_Runs.l0 k1 l0 (y308.set ((ji5) : Int).toNat ((rd_L5 y308 (ji5)) ++ [(⟨(rd_T44 l0 x4_1).f0, (rd_T44 l0 x4_1).f1⟩ : S44)])) (wrap64 (x4_1 + 1))) else (none)) else (none)) else (none)) else (none)) = some r := by first | (rw [hji5] at H; exact H) | (simp only [hji5] at H ⊢; exact H)
      have hji5w : (IntKind.i64.wrap ((y308.length : Int) - 1)) = ji5 := (i64_w _).trans hji5
      by_cases c6 : 0 ≤ (ji5)
      ·rw [if_pos c6] at H
       have c6b0 : decide (0 ≤ (ji5)) = true := decide_eq_true c6
       clear c6
       by_cases c7 : (ji5) < (y308.length : Int)
       ·rw [if_pos c7] at H
        have c7b0 : decide ((ji5) < (y308.length : Int)) = true := decide_eq_true c7
        clear c7
        by_cases c8 : 0 ≤ x4_1
        ·rw [if_pos c8] at H
         have c8b0 : decide (0 ≤ x4_1) = true := decide_eq_true c8
         clear c8
         by_cases c9 : (rd_L5 y308 (ji5)).length < 17592186044416
         ·rw [if_pos c9] at H
          have LMc9 := Aside0.mk c9
          clear c9
          obtain ⟨y313, hy313⟩ : ∃ y_ : List (S44), y_ = ((rd_L5 y308 (ji5)) ++ [(⟨(rd_T44 l0 x4_1).f0, (rd_T44 l0 x4_1).f1⟩ : S44)]) := ⟨_, rfl⟩
          replace H : (flongref03_Runs.l0 k1 l0 (y308.set ((ji5) : Int).toNat y313) (wrap64 (x4_1 + 1))) = some r := by first | (rw [hy313]; with_reducible exact H) | (have H2_ := (Option.bind_some _ _).symm.trans H; rw [hy313]; with_reducible exact H2_) | (have H2_ := (Option.bind_some _ _).symm.trans H; with_reducible exact H2_) | with_reducible exact H | (rw [hy313]; exact H) | exact H
          have Ny313 := Aside0.mk hy313
          clear hy313
          obtain ⟨y316, hy316⟩ : ∃ y_ : List (List (S44)), y_ = (y308.set ((ji5) : Int).toNat y313) := ⟨_, rfl⟩
          replace H : (flongref03_Runs.l0 k1 l0 y316 (wrap64 (x4_1 + 1))) = some r := by first | (rw [hy316]; with_reducible exact H) | (have H2_ := (Option.bind_some _ _).symm.trans H; rw [hy316]; with_reducible exact H2_) | (have H2_ := (Option.bind_some _ _).symm.trans H; with_reducible exact H2_) | with_reducible exact H | (rw [hy316]; exact H) | exact H
          have Ny316 := Aside0.mk hy316
          clear hy316
          have H' := Aside0.mk H
          clear H
          try go_wp2
          have n0_ := Aside0.mk (Kd.S_drew HO_3.out)
          have n1_ := Aside0.mk (below_drew1 HB.out)
          clear HO_3
          clear HB
          have HO_3 := n0_
          have HB := n1_
          clear n0_ n1_
          refine start_ (n := 16) (S := fun w' => True) (ds := []) #[false, false, false, false, false, false, false, false, false, false, false, false, false, false, false, false] (by kernel_rfl) rfl rfl trivial (fun hHeld => ?_); refine with_tabW flongref03_Runs.tab5 flongref03_Runs.bits5 (fun HT_ HW_ => ?_)
          generalize wr.drew = w11 at HO_3 HB hHeld ⊢
          refine pure_ (i := 0) (N := some 12) (v := ?_) (a' := ?_) #[true, false, false, false, false, false, false, false, false, false, false, false, false, false, false, false] rfl rfl (any_of HT_.out (by kernel_rfl)) (fun _ _ _ h => h) (Or.inl ⟨by rfl, ?_⟩) ?_ ?_
          rotate_left
          ·intro w'
           go_simp
           with_reducible rfl
          rotate_left
          ·simp only [Act.put, List.setIfInBounds_toArray, List.set_cons_zero, List.set_cons_succ, i64_w, i32_w]
           rfl
          refine pure_ (i := 1) (N := some 13) (v := ?_) (a' := ?_) #[true, true, false, false, false, false, false, false, false, false, false, false, false, false, false, false] rfl rfl (any_of HT_.out (by kernel_rfl)) (fun _ _ _ h => h) (Or.inl ⟨by rfl, ?_⟩) ?_ ?_
          rotate_left
          ·intro w'
           go_simp
           with_reducible rfl
          rotate_left
          ·simp only [Act.put, List.setIfInBounds_toArray, List.set_cons_zero, List.set_cons_succ, i64_w, i32_w]
           rfl
          refine pure_ (i := 2) (N := some 14) (v := ?_) (a' := ?_) #[true, true, true, false, false, false, false, false, false, false, false, false, false, false, false, false] rfl rfl (any_of HT_.out (by kernel_rfl)) (fun _ _ _ h => h) (Or.inl ⟨by rfl, ?_⟩) ?_ ?_
          rotate_left
          ·intro w'
           go_simp
           with_reducible rfl
          rotate_left
          ·simp only [Act.put, List.setIfInBounds_toArray, List.set_cons_zero, List.set_cons_succ, i64_w, i32_w]
           rfl
          refine pure_ (i := 3) (N := some 15) (v := undef) (a' := ?_) #[true, true, true, true, false, false, false, false, false, false, false, false, false, false, false, false] rfl rfl (any_of HT_.out (by kernel_rfl)) (fun _ _ _ h => h) (Or.inr ⟨by rfl, rfl⟩) ?_ ?_
          rotate_left
          ·simp only [Act.put, List.setIfInBounds_toArray, List.set_cons_zero, List.set_cons_succ, i64_w, i32_w]
           rfl
          refine pure_ (i := 4) (N := some 16) (v := undef) (a' := ?_) #[true, true, true, true, true, false, false, false, false, false, false, false, false, false, false, false] rfl rfl (any_of HT_.out (by kernel_rfl)) (fun _ _ _ h => h) (Or.inr ⟨by rfl, rfl⟩) ?_ ?_
          rotate_left
          ·simp only [Act.put, List.setIfInBounds_toArray, List.set_cons_zero, List.set_cons_succ, i64_w, i32_w]
           rfl
          refine pure_ (i := 5) (N := some 17) (v := undef) (a' := ?_) #[true, true, true, true, true, true, false, false, false, false, false, false, false, false, false, false] rfl rfl (any_of HT_.out (by kernel_rfl)) (fun _ _ _ h => h) (Or.inr ⟨by rfl, rfl⟩) ?_ ?_
          rotate_left
          ·simp only [Act.put, List.setIfInBounds_toArray, List.set_cons_zero, List.set_cons_succ, i64_w, i32_w]
           rfl
          refine pure_ (i := 6) (N := some 18) (v := undef) (a' := ?_) #[true, true, true, true, true, true, true, false, false, false, false, false, false, false, false, false] rfl rfl (any_of HT_.out (by kernel_rfl)) (fun _ _ _ h => h) (Or.inr ⟨by rfl, rfl⟩) ?_ ?_
          rotate_left
          ·simp only [Act.put, List.setIfInBounds_toArray, List.set_cons_zero, List.set_cons_succ, i64_w, i32_w]
           rfl
          refine pure_ (i := 7) (N := some 19) (v := undef) (a' := ?_) #[true, true, true, true, true, true, true, true, false, false, false, false, false, false, false, false] rfl rfl (any_of HT_.out (by kernel_rfl)) (fun _ _ _ h => h) (Or.inr ⟨by rfl, rfl⟩) ?_ ?_
          rotate_left
          ·simp only [Act.put, List.setIfInBounds_toArray, List.set_cons_zero, List.set_cons_succ, i64_w, i32_w]
           rfl
          refine pure_ (i := 8) (N := some 20) (v := undef) (a' := ?_) #[true, true, true, true, true, true, true, true, true, false, false, false, false, false, false, false] rfl rfl (any_of HT_.out (by kernel_rfl)) (fun _ _ _ h => h) (Or.inr ⟨by rfl, rfl⟩) ?_ ?_
          rotate_left
          ·simp only [Act.put, List.setIfInBounds_toArray, List.set_cons_zero, List.set_cons_succ, i64_w, i32_w]
           rfl
          refine pure_ (i := 9) (N := some 21) (v := undef) (a' := ?_) #[true, true, true, true, true, true, true, true, true, true, false, false, false, false, false, false] rfl rfl (any_of HT_.out (by kernel_rfl)) (fun _ _ _ h => h) (Or.inr ⟨by rfl, rfl⟩) ?_ ?_
          rotate_left
          ·simp only [Act.put, List.setIfInBounds_toArray, List.set_cons_zero, List.set_cons_succ, i64_w, i32_w]
           rfl
          refine pure_ (i := 10) (N := some 22) (v := undef) (a' := ?_) #[true, true, true, true, true, true, true, true, true, true, true, false, false, false, false, false] rfl rfl (any_of HT_.out (by kernel_rfl)) (fun _ _ _ h => h) (Or.inr ⟨by rfl, rfl⟩) ?_ ?_
          rotate_left
          ·simp only [Act.put, List.setIfInBounds_toArray, List.set_cons_zero, List.set_cons_succ, i64_w, i32_w]
           rfl
          refine pure_ (i := 11) (N := some 23) (v := undef) (a' := ?_) #[true, true, true, true, true, true, true, true, true, true, true, true, false, false, false, false] rfl rfl (any_of HT_.out (by kernel_rfl)) (fun _ _ _ h => h) (Or.inr ⟨by rfl, rfl⟩) ?_ ?_
          rotate_left
          ·simp only [Act.put, List.setIfInBounds_toArray, List.set_cons_zero, List.set_cons_succ, i64_w, i32_w]
           rfl
          refine pure_ (i := 12) (N := some 24) (v := undef) (a' := ?_) #[true, true, true, true, true, true, true, true, true, true, true, true, true, false, false, false] rfl rfl (any_of HT_.out (by kernel_rfl)) (fun _ _ _ h => h) (Or.inr ⟨by rfl, rfl⟩) ?_ ?_
          rotate_left
          ·simp only [Act.put, List.setIfInBounds_toArray, List.set_cons_zero, List.set_cons_succ, i64_w, i32_w]
           rfl
          refine pure_ (i := 13) (N := some 25) (v := undef) (a' := ?_) #[true, true, true, true, true, true, true, true, true, true, true, true, true, true, false, false] rfl rfl (any_of HT_.out (by kernel_rfl)) (fun _ _ _ h => h) (Or.inr ⟨by rfl, rfl⟩) ?_ ?_
          rotate_left
          ·simp only [Act.put, List.setIfInBounds_toArray, List.set_cons_zero, List.set_cons_succ, i64_w, i32_w]
           rfl
          refine pure_ (i := 14) (N := some 26) (v := undef) (a' := ?_) #[true, true, true, true, true, true, true, true, true, true, true, true, true, true, true, false] rfl rfl (any_of HT_.out (by kernel_rfl)) (fun _ _ _ h => h) (Or.inr ⟨by rfl, rfl⟩) ?_ ?_
          rotate_left
          ·simp only [Act.put, List.setIfInBounds_toArray, List.set_cons_zero, List.set_cons_succ, i64_w, i32_w]
           rfl
          refine pure_ (i := 15) (N := some 27) (v := ?_) (a' := ?_) #[true, true, true, true, true, true, true, true, true, true, true, true, true, true, true, true] rfl rfl (any_of HT_.out (by kernel_rfl)) (fun _ _ _ h => h) (Or.inl ⟨by rfl, ?_⟩) ?_ ?_
          rotate_left
          ·intro w'
           go_simp
           with_reducible rfl
          rotate_left
          ·simp only [Act.put, List.setIfInBounds_toArray, List.set_cons_zero, List.set_cons_succ, i64_w, i32_w]
           rfl
          refine done_ (done_of HT_.out (by kernel_rfl)) ?_
          try go_wp2_with (first | ((with_reducible refine gate_builtin (b := .append) (xs := #[.tmp 28, .tmp 29]) rfl ?_); at_builtin; refine Kd.S_append (Kd.slice 44 k44) (w0 := w) w.heap.size rfl (.tmp 28) (.tmp 29) 40 33 (.slice none 0 0) 24 rfl Tryd.underlying40 info33 rfl (by decide) (by omega) u3 x3_1 ([] : List (S44)) [.slice none 0 0] (fun _ => True) (fun _ => False) rfl rfl ?aP (fun k_ hk_ => hk_.elim) ?aF ?aO ?aB ?aS ?aL ?_; (case aP => exact Kd.M_row (Kd.R_nil _ _ _ _ _)); (case aB => exact (by repeat (first | (with_reducible first | exact HB.out | apply below_alloc | apply pw_below_drewN | apply below_drew1) | exact HB.out))); (case aF => exact (fun _ _ => trivial)); (case aO => exact (by (with_reducible repeat (first | apply Kd.S_alloc | apply Kd.S_drewN | apply Kd.S_drew)); exact Kd.S_mono HO_3.out (fun k_ hk => ⟨trivial, fun e_ => e_⟩))); (case aS => exact (below_size (by repeat (first | (with_reducible first | exact HB.out | apply below_alloc | apply pw_below_drewN | apply below_drew1) | exact HB.out)))); (case aL => have := LMc4.out; omega); intro v309 w12 ho hb hg hat; rw [← Ny308.out] at ho; have n0_ := Aside0.mk (hb); have n1_ := Aside0.mk (ho); clear HB; clear HO_3; have HB := n0_; have HO310 := n1_; clear n0_ n1_; clear ho hb hg hat; obtain ⟨Ao13, co13, eo13⟩ := Kd.S_slice HO310.out; subst eo13))
          have n0_ := Aside0.mk (Kd.S_drew HO310.out)
          have n1_ := Aside0.mk (below_drew1 HB.out)
          clear HO310
          clear HB
          have HO310 := n0_
          have HB := n1_
          clear n0_ n1_
          have p311 : 0 ≤ ((ji5) : Int) := of_decide_eq_true (by first | (with_reducible assumption) | assumption)
          have q311 : (ji5) < (y308.length : Int) := of_decide_eq_true (by first | (with_reducible assumption) | assumption)
          obtain ⟨ad311, A311_0, c311_0, e311, hx311_0, hl311_0, hi311_0⟩ := at_L5 (Kd.S_reads' HO310.out).2.2 (ji5) p311 q311
          cases e311
          obtain ⟨ce311, hce311, hMe311, hcc311⟩ := Kd.S_get HO310.out [] (ji5) p311 (by first | exact q311 | exact of_decide_eq_true (by first | (with_reducible assumption) | assumption) | (have e_ := (Kd.S_reads' HO310.out).1; omega))
          obtain ⟨ve311_0, rfl, ge311_0⟩ := hMe311
          have hv311_0 := hcc311 0 _ rfl
          rw [Nat.add_zero, show ((Kd.slice 44 k44)).sz = 1 from rfl, Nat.mul_one] at hv311_0
          replace hv311_0 := Option.some.inj (hv311_0.symm.trans hx311_0)
          rw [hv311_0] at ge311_0
          have HL311_0 := Aside0.mk (show Kd.R k44 44 _ _ _ _ (rd_L5 y308 (ji5)) from ge311_0)
          clear hv311_0 ge311_0
          have HX311_0 := Aside0.mk hx311_0
          clear hcc311 hce311
          have HR311_0 := Aside0.mk hi311_0
          have HC311_0 := Aside0.mk hl311_0
          clear hi311_0 hl311_0
          replace p311 := eq_true p311
          replace q311 := eq_true q311
          have p312 : 0 ≤ (x4_1 : Int) := of_decide_eq_true (by first | (with_reducible assumption) | assumption)
          have q312 : x4_1 < (l0.length : Int) := of_decide_eq_true (by first | (with_reducible assumption) | assumption)
          obtain ⟨ad312, e312, hx312_0, hx312_1⟩ := at_T44 HR0.out x4_1 p312 q312
          have hw312_1 := hx312_1
          have hw312_0 := hx312_0
          cases e312
          replace hx312_0 := (HB.out.cell (World.block_lt_of_cell? w _ hx312_0)).trans hx312_0
          replace hx312_1 := (HB.out.cell (World.block_lt_of_cell? w _ hx312_1)).trans hx312_1
          replace p312 := eq_true p312
          replace q312 := eq_true q312
          obtain ⟨go15, co15, eo15, gb15, gl15, cl15, HG15⟩ := Kd.S_form HO310.out (by have h_ : ((ji5) : Int) < ((y308.length : Int) : Int) := of_decide_eq_true (by first | (with_reducible assumption) | assumption); have h2_ : 0 ≤ ((ji5) : Int) := (of_decide_eq_true (by first | (with_reducible assumption) | assumption)); omega)
          (first | cases eo15 | (injection eo15 with ea_ en_ ec_; (first | subst ea_ | (injection ea_ with ea_; subst ea_)); subst ec_; clear en_))
          have GB15 := Aside0.mk gb15
          have GG15 := Aside0.mk HG15
          clear gb15 gl15 HG15
          (first | simp only [add_plain] at hx311_0 | skip)
          obtain ⟨oki15, ce15, hcl15, hM15, hcc15, _, _, hH15⟩ := Kd.S_elem HO310.out [] ((ji5) : Int) (of_decide_eq_true (by first | (with_reducible assumption) | assumption)) (by have h_ : ((ji5) : Int) < ((y308.length : Int) : Int) := of_decide_eq_true (by first | (with_reducible assumption) | assumption); first | exact h_ | (have e_ := (Kd.S_reads' HO310.out).1; omega) | simpa using h_)
          obtain ⟨ve15_0, rfl, ge15_0⟩ := hM15
          have hv15 := hcc15 0 _ rfl
          have hX15 := HX311_0.out
          (try simp only [add_plain] at hX15)
          (try simp only [Nat.add_zero] at hv15)
          (try rw [show ((Kd.slice 44 k44)).sz = 1 from rfl, Nat.mul_one] at hv15)
          replace hv15 := Option.some.inj (hv15.symm.trans hX15)
          subst hv15
          clear hX15 hcc15 hcl15
          have UU15 := Aside0.mk (show Kd.R k44 44 _ w.heap.size oki15 (.slice A311_0 (rd_L5 y308 (ji5)).length c311_0) (rd_L5 y308 (ji5)) from ge15_0)
          have HH15 := Aside0.mk hH15
          have HN15 := Aside0.mk (Kd.S_reads' HO310.out).1
          clear hH15 ge15_0
          refine start_ (n := 14) (S := fun w' => w'.cell? ⟨go15, ((ji5)).toNat, none⟩ = some (.slice A311_0 (rd_L5 y308 (ji5)).length c311_0) ∧ w'.cell? (ad312.add ((x4_1).toNat * 2)) = some (.int .i32 ((rd_T44 l0 x4_1).f0)) ∧ w'.cell? ⟨(ad312.add ((x4_1).toNat * 2)).block, (ad312.add ((x4_1).toNat * 2)).off + 1, none⟩ = some (.int .u8 ((rd_T44 l0 x4_1).f1))) (ds := [13]) #[false, false, false, false, false, false, false, false, false, false, false, false, false, false] (by kernel_rfl) rfl rfl ⟨hx311_0, ((HB.out.cell (World.block_lt_of_cell? w _ hw312_0)).trans hw312_0), ((HB.out.cell (World.block_lt_of_cell? w _ hw312_1)).trans hw312_1)⟩ (fun hHeld => ?_); refine with_tabW flongref03_Runs.tab8 flongref03_Runs.bits8 (fun HT_ HW_ => ?_)
          generalize w12.drew = w14 at HO310 HB GG15 HH15 HL311_0 HR311_0 HX311_0 UU15 hx311_0 hx312_0 hx312_1 hHeld ⊢
          refine pure_ (i := 0) (N := some 34) (v := ?_) (a' := ?_) #[true, false, false, false, false, false, false, false, false, false, false, false, false, false] rfl rfl (any_of HT_.out (by kernel_rfl)) (fun _ _ _ h => h) (Or.inl ⟨by rfl, ?_⟩) ?_ ?_
          rotate_left
          ·intro w'
           go_simp
           with_reducible rfl
          rotate_left
          ·simp only [Act.put, List.setIfInBounds_toArray, List.set_cons_zero, List.set_cons_succ, i64_w, i32_w]
           rfl
          refine pure_ (i := 1) (N := some 35) (v := ?_) (a' := ?_) #[true, true, false, false, false, false, false, false, false, false, false, false, false, false] rfl rfl (any_of HT_.out (by kernel_rfl)) (fun _ _ _ h => h) (Or.inl ⟨by rfl, ?_⟩) ?_ ?_
          rotate_left
          ·intro w'
           go_simp
           with_reducible rfl
          rotate_left
          ·simp only [Act.put, List.setIfInBounds_toArray, List.set_cons_zero, List.set_cons_succ, i64_w, i32_w]
           rfl
          refine pure_ (i := 2) (N := some 36) (v := ?_) (a' := ?_) #[true, true, true, false, false, false, false, false, false, false, false, false, false, false] rfl rfl (any_of HT_.out (by kernel_rfl)) (fun _ _ _ h => h) (Or.inl ⟨by rfl, ?_⟩) ?_ ?_
          rotate_left
          ·intro w'
           go_simp
           with_reducible rfl
          rotate_left
          ·simp only [Act.put, List.setIfInBounds_toArray, List.set_cons_zero, List.set_cons_succ, i64_w, i32_w]
           rfl
          refine pure_ (i := 3) (N := some 37) (v := ?_) (a' := ?_) #[true, true, true, true, false, false, false, false, false, false, false, false, false, false] rfl rfl (any_of HT_.out (by kernel_rfl)) (fun _ _ _ h => h) (Or.inl ⟨by rfl, ?_⟩) ?_ ?_
          rotate_left
          ·intro w'
           go_simp
           with_reducible rfl
          rotate_left
          ·simp only [Act.put, List.setIfInBounds_toArray, List.set_cons_zero, List.set_cons_succ, i64_w, i32_w]
           rfl
          refine pure_ (i := 4) (N := some 38) (v := ?_) (a' := ?_) #[true, true, true, true, true, false, false, false, false, false, false, false, false, false] rfl rfl (any_of HT_.out (by kernel_rfl)) (fun _ _ _ h => h) (Or.inl ⟨by rfl, ?_⟩) ?_ ?_
          rotate_left
          ·intro w'
           go_simp
           with_reducible rfl
          rotate_left
          ·simp only [Act.put, List.setIfInBounds_toArray, List.set_cons_zero, List.set_cons_succ, i64_w, i32_w]
           rfl
          refine pure_ (i := 6) (N := some 40) (v := ?_) (a' := ?_) #[true, true, true, true, true, false, true, false, false, false, false, false, false, false] rfl rfl (any_of HT_.out (by kernel_rfl)) (fun _ _ _ h => h) (Or.inl ⟨by rfl, ?_⟩) ?_ ?_
          rotate_left
          ·intro w'
           go_simp
           with_reducible rfl
          rotate_left
          ·simp only [Act.put, List.setIfInBounds_toArray, List.set_cons_zero, List.set_cons_succ, i64_w, i32_w]
           rfl
          refine pure_ (i := 7) (N := some 41) (v := ?_) (a' := ?_) #[true, true, true, true, true, false, true, true, false, false, false, false, false, false] rfl rfl (any_of HT_.out (by kernel_rfl)) (fun _ _ _ h => h) (Or.inl ⟨by rfl, ?_⟩) ?_ ?_
          rotate_left
          ·intro w'
           go_simp
           with_reducible rfl
          rotate_left
          ·simp only [Act.put, List.setIfInBounds_toArray, List.set_cons_zero, List.set_cons_succ, i64_w, i32_w]
           rfl
          refine pure_ (i := 8) (N := some 42) (v := ?_) (a' := ?_) #[true, true, true, true, true, false, true, true, true, false, false, false, false, false] rfl rfl (any_of HT_.out (by kernel_rfl)) (fun _ _ _ h => h) (Or.inl ⟨by rfl, ?_⟩) ?_ ?_
          rotate_left
          ·intro w'
           go_simp
           with_reducible rfl
          rotate_left
          ·simp only [Act.put, List.setIfInBounds_toArray, List.set_cons_zero, List.set_cons_succ, i64_w, i32_w]
           rfl
          refine take_ (i := 5) (N := some 39) (v := ?_) (a' := ?_) #[true, true, true, true, true, true, true, true, true, false, false, false, false, false] rfl rfl (take_ofW HT_.out HW_.out (by kernel_rfl)) (fun _ _ _ h => h) (Or.inl ⟨by rfl, ?_⟩) hHeld ?_ ?_
          rotate_left
          ·rintro w' ⟨s0, s1, s2⟩
           go_simp
           with_reducible rfl
          rotate_left
          ·simp only [Act.put, List.setIfInBounds_toArray, List.set_cons_zero, List.set_cons_succ, i64_w, i32_w]
           rfl
          refine take_ (i := 9) (N := some 43) (v := ?_) (a' := ?_) #[true, true, true, true, true, true, true, true, true, true, false, false, false, false] rfl rfl (take_ofW HT_.out HW_.out (by kernel_rfl)) (fun _ _ _ h => h) (Or.inl ⟨by rfl, ?_⟩) hHeld ?_ ?_
          rotate_left
          ·rintro w' ⟨s0, s1, s2⟩
           go_simp
           with_reducible rfl
          rotate_left
          ·simp only [Act.put, List.setIfInBounds_toArray, List.set_cons_zero, List.set_cons_succ, i64_w, i32_w]
           rfl
          refine one_ (i := 10) (N := some 44) #[true, true, true, true, true, true, true, true, true, true, true, false, false, false] rfl rfl (one_of HT_.out (by kernel_rfl)) (by decide) (fun K hK => ?_)
          refine value_ (w1 := ?_) (v := ?_) (by rfl) rfl ?_ ?_
          rotate_left 2
          ·go_simp
           constructor
           ·rfl
           ·rfl
          refine hK.out _ _ ⟨(World.cell?_alloc_lt _ _ _ (World.block_lt_of_cell? _ _ (hHeld.1))).trans (hHeld.1), (World.cell?_alloc_lt _ _ _ (World.block_lt_of_cell? _ _ (((HB.out.cell (World.block_lt_of_cell? w _ hw312_0)).trans hw312_0)))).trans (((HB.out.cell (World.block_lt_of_cell? w _ hw312_0)).trans hw312_0)), (World.cell?_alloc_lt _ _ _ (World.block_lt_of_cell? _ _ (((HB.out.cell (World.block_lt_of_cell? w _ hw312_1)).trans hw312_1)))).trans (((HB.out.cell (World.block_lt_of_cell? w _ hw312_1)).trans hw312_1))⟩ (fun hHeld => ?_)
          clear hK K
          refine norm_ (a' := ?_) ?_ ?_
          rotate_left
          ·show Act.put _ (some 44) _ = _
           simp only [Act.put, List.setIfInBounds_toArray, List.set_cons_zero, List.set_cons_succ, i64_w, i32_w]
           rfl
          refine one_ (i := 11) (N := some 45) #[true, true, true, true, true, true, true, true, true, true, true, true, false, false] rfl rfl (one_of HT_.out (by kernel_rfl)) (by decide) (fun K hK => ?_)
          refine Kd.R_append_step k44 (w0 := w) w.heap.size (by rfl) (.tmp 39) (.tmp 44) 33 44 (.agg #[(.int .i32 0), (.int .u8 0)]) 8 rfl Tryd.underlying33 info44 rfl (by decide) (by omega) (.slice A311_0 (rd_L5 y308 (ji5)).length c311_0) (rd_L5 y308 (ji5)) (⟨(rd_T44 l0 x4_1).f0, (rd_T44 l0 x4_1).f1⟩ : S44) [.int .i32 ((rd_T44 l0 x4_1).f0), .int .u8 ((rd_T44 l0 x4_1).f1)] (fun k_ => oki15 k_ ∨ ((fun _ => True)) k_ ∧ w14.heap.size ≤ k_) (fun _ => False) rfl rfl ?aP (fun _ hk => hk.elim) ?aF ?aO ?aB ?aS ?aL ?_
          (case aP => exact k44_mkM _ _ _ (⟨(rd_T44 l0 x4_1).f0, (rd_T44 l0 x4_1).f1⟩ : S44))
          (case aB => exact (by repeat (first | (with_reducible first | exact HB.out | apply below_alloc | apply pw_below_drewN | apply below_drew1) | exact HB.out)))
          (case aF => exact (fun k_ hk => .inr ⟨trivial, hk⟩))
          (case aO => exact (by (with_reducible repeat (first | apply Kd.R_alloc | apply Kd.R_drewN | apply Kd.R_drew)); exact Kd.R_mono UU15.out (fun _ hk => .inl hk)))
          (case aS => exact (below_size (by repeat (first | (with_reducible first | exact HB.out | apply below_alloc | apply pw_below_drewN | apply below_drew1) | exact HB.out))))
          (case aL => have := LMc9.out; omega)
          intro v314 w16 ho hb hg hat
          (first | have HS0_ := cell_grown hg (hHeld.1) (by first | (rw [add_block]; exact (fun e_ => ((HL311_0.out.1 _ e_.symm).2) rfl)) | (show some (Addr.add _ _).block ≠ _; rw [add_block]; exact (fun e_ => ((HL311_0.out.1 _ e_.symm).2) rfl)) | exact (fun e_ => ((HL311_0.out.1 _ e_.symm).2) rfl)) | have HS0_ := cell_grown hg (cell_unalloc (hHeld.1) (by first | (rw [add_block]; exact Kd.S_lt HO310.out _ rfl) | (show (Addr.add _ _).block < _; rw [add_block]; exact Kd.S_lt HO310.out _ rfl) | exact Kd.S_lt HO310.out _ rfl)) (by first | (rw [add_block]; exact (fun e_ => ((HL311_0.out.1 _ e_.symm).2) rfl)) | (show some (Addr.add _ _).block ≠ _; rw [add_block]; exact (fun e_ => ((HL311_0.out.1 _ e_.symm).2) rfl)) | exact (fun e_ => ((HL311_0.out.1 _ e_.symm).2) rfl)))
          rw [← Ny313.out] at ho
          have n0_ := Aside0.mk (hb)
          have n1_ := Aside0.mk (Kd.H_grown (Kd.H_widen (by repeat (first | exact HH15.out | refine Kd.H_alloc ?_ _ | refine Kd.H_drewN ?_ _ | refine Kd.H_drew ?_))) hg (fun k_ e_ => .inl (UU15.out.1 k_ e_)))
          have n2_ := Aside0.mk (ho)
          clear HB
          clear HH15
          clear HO310
          clear UU15
          clear HL311_0
          have HB := n0_
          have HH15 := n1_
          have HO315 := n2_
          clear n0_ n1_ n2_
          clear ho hb hg hat
          have p10 : 0 ≤ ((ji5) : Int) := of_decide_eq_true (by first | (with_reducible assumption) | assumption)
          have q10 : ((ji5) : Int) < ((y308.length : Int) : Int) := of_decide_eq_true (by first | (with_reducible assumption) | assumption)
          replace p10 := eq_true p10
          replace q10 := eq_true q10
          obtain ⟨Ao19, co19, eo19⟩ := Kd.R_slice HO315.out
          (first | subst eo19 | (injection eo19 with f1_ f2_ f3_; have f4_ := f1_.symm; have f5_ := f3_.symm; clear f1_ f2_ f3_; subst f4_; subst f5_))
          obtain ⟨_, _, hraw17, _, _, hcc17, _⟩ := Kd.H_raw HH15.out (of_decide_eq_true (by first | (with_reducible assumption) | assumption)) (by have h_ : ((ji5) : Int) < ((y308.length : Int) : Int) := of_decide_eq_true (by first | (with_reducible assumption) | assumption); first | exact h_ | (have e_ := (HN15.out); omega) | simpa using h_)
          obtain ⟨_, hfr17⟩ := Kd.H_at HH15.out (of_decide_eq_true (by first | (with_reducible assumption) | assumption)) (by have h_ : ((ji5) : Int) < ((y308.length : Int) : Int) := of_decide_eq_true (by first | (with_reducible assumption) | assumption); first | exact h_ | (have e_ := (HN15.out); omega) | simpa using h_)
          have hx17_0 := hcc17 0 _ rfl
          have hf17_0 := hfr17 0
          (try simp only [Nat.add_zero] at hx17_0 hf17_0)
          (try rw [show ((Kd.slice 44 k44)).sz = 1 from rfl, Nat.mul_one] at hx17_0)
          (try rw [show ((Kd.slice 44 k44)).sz = 1 from rfl, Nat.mul_one] at hf17_0)
          have HP17 := Kd.S_seg0 HH15.out (of_decide_eq_true (by first | (with_reducible assumption) | assumption)) (by have h_ : ((ji5) : Int) < ((y308.length : Int) : Int) := of_decide_eq_true (by first | (with_reducible assumption) | assumption); first | exact h_ | (have e_ := (HN15.out); omega) | simpa using h_) (seg := [.slice Ao19 y313.length co19]) (j := 0) (show 1 ≤ 1 from by decide) (x' := y313) (Kd.M_row HO315.out) (fun _ hk => hk)
          (try simp only [show ((Kd.slice 44 k44)).sz = 1 from rfl, Nat.mul_one, Nat.add_zero] at HP17)
          clear hcc17 hfr17
          have HS17 := HP17.1
          rw [← Ny316.out] at HS17
          have HQ17 := Aside0.mk HS17
          obtain ⟨_, hgg17⟩ := Kd.R_typed hraw17 go15 rfl
          have GG17_ := Aside0.mk hgg17
          clear HP17 HS17 hgg17
          refine hK.out _ _ ⟨HS0_, ((HB.out.cell (World.block_lt_of_cell? w _ hw312_0)).trans hw312_0), ((HB.out.cell (World.block_lt_of_cell? w _ hw312_1)).trans hw312_1)⟩ (fun hHeld => ?_)
          clear hK K
          refine norm_ (a' := ?_) ?_ ?_
          rotate_left
          ·show Act.put _ (some 45) _ = _
           simp only [Act.put, List.setIfInBounds_toArray, List.set_cons_zero, List.set_cons_succ, i64_w, i32_w]
           rfl
          refine pure_ (i := 12) (N := some 46) (v := ?_) (a' := ?_) #[true, true, true, true, true, true, true, true, true, true, true, true, true, false] rfl rfl (any_of HT_.out (by kernel_rfl)) (fun _ _ _ h => h) (Or.inl ⟨by rfl, ?_⟩) ?_ ?_
          rotate_left
          ·intro w'
           go_simp
           with_reducible rfl
          rotate_left
          ·simp only [Act.put, List.setIfInBounds_toArray, List.set_cons_zero, List.set_cons_succ, i64_w, i32_w]
           rfl
          refine last_ (i := 13) (N := none) #[true, true, true, true, true, true, true, true, true, true, true, true, true, true] rfl rfl (one_of HT_.out (by kernel_rfl)) (by decide) (fun K hK => ?_)
          refine skip_ (w1 := ?_) (by rfl) rfl ?_ ?_
          rotate_left
          ·go_simp
           rfl
          refine hK.out _ _ ?_
          clear hK K
          refine done_ (done_of HT_.out (by kernel_rfl)) ?_
          try go_wp2
          go_roundg k1
          case measure => have := HK1.out; omega
          case rel => exact ⟨(y316), (wrap64 (x4_1 + 1)), (by first | rfl | (simp; done) | (simp [*]; done)), H', ⟨by have := HK1.out; omega⟩, ⟨by (with_reducible repeat (first | apply Kd.S_alloc | apply Kd.S_drewN | apply Kd.S_drew)); exact HQ17.out⟩, ⟨by repeat (first | (with_reducible first | exact HB.out | apply below_alloc | apply pw_below_drewN | apply below_drew1 | refine below_set ?_ GB15.out) | exact HB.out)⟩⟩
         ·rw [if_neg c9] at H
          exact absurd H (by simp)
        ·rw [if_neg c8] at H
         exact absurd H (by simp)
       ·rw [if_neg c7] at H
        exact absurd H (by simp)
      ·rw [if_neg c6] at H
       exact absurd H (by simp)
     ·rw [if_neg c4] at H
      exact absurd H (by simp)
    ·rw [if_neg c3] at H
     have c3b0 : (x4_1 == 0) = false := beq_eq_false_iff_ne.mpr c3
     have c3b1 : (x4_1 != 0) = true := bne_iff_ne.mpr c3
     by_cases c20 : 0 ≤ x4_1
     ·rw [if_pos c20] at H
      have c20b0 : decide (0 ≤ x4_1) = true := decide_eq_true c20
      clear c20
      obtain ⟨ji21, hji21⟩ : ∃ j_ : Int, (wrap64 (x4_1 - 1)) = j_ := ⟨_, rfl⟩
      replace H : (if 0 ≤ (ji21) then (if (ji21) < (l0.length : Int) then (if ((rd_T44 l0 x4_1).f1) = ((rd_T44 l0 (ji21)).f1) then (if 0 ≤ (wrap64 ((x3_1.length : Int) - 1)) then (if (wrap64 ((x3_1.length : Int) - 1)) < (x3_1.length : Int) then (if (rd_L5 x3_1 (wrap64 ((x3_1.length : Int) - 1))).length < 17592186044416 then (flongref03_Runs.l0 k1 l0 (x3_1.set ((wrap64 ((x3_1.length : Int) - 1)) : Int).toNat ((rd_L5 x3_1 (wrap64 ((x3_1.length : Int) - 1))) ++ [(⟨(rd_T44 l0 x4_1).f0, (rd_T44 l0 x4_1).f1⟩ : S44)])) (wrap64 (x4_1 + 1))) else (none)) else (none)) else (none)) else (if x3_1.length < 5864062014805 then ((some (x3_1 ++ [([] : List (S44))] : List (List (S44)))).bind fun y325 => (if 0 ≤ (wrap64 ((y325.length : Int) - 1)) then (if (wrap64 ((y325.length : Int) - 1)) < (y325.length : Int) then (if (rd_L5 y325 (wrap64 ((y325.length : Int) - 1))).length < 17592186044416 then (flongref03_Runs.l0 k1 l0 (y325.set ((wrap64 ((y325.length : Int) - 1)) : Int).toNat ((rd_L5 y325 (wrap64 ((y325.length : Int) - 1))) ++ [(⟨(rd_T44 l0 x4_1).f0, (rd_T44 l0 x4_1).f1⟩ : S44)])) (wrap64 (x4_1 + 1))) else (none)) else (none)) else (none))) else (none))) else (none)) else (none)) = some r := by first | (rw [hji21] at H; exact H) | (simp only [hji21] at H ⊢; exact H)
      have hji21w : (IntKind.i64.wrap (x4_1 - 1)) = ji21 := (i64_w _).trans hji21
      by_cases c22 : 0 ≤ (ji21)
      ·rw [if_pos c22] at H
       have c22b0 : decide (0 ≤ (ji21)) = true := decide_eq_true c22
       clear c22
       by_cases c23 : (ji21) < (l0.length : Int)
       ·rw [if_pos c23] at H
        have c23b0 : decide ((ji21) < (l0.length : Int)) = true := decide_eq_true c23
        clear c23
        by_cases c24 : ((rd_T44 l0 x4_1).f1) = ((rd_T44 l0 (ji21)).f1)
        ·rw [if_pos c24] at H
         have c24b0 : (((rd_T44 l0 x4_1).f1) == ((rd_T44 l0 (ji21)).f1)) = true := beq_iff_eq.mpr c24
         have c24b1 : (((rd_T44 l0 x4_1).f1) != ((rd_T44 l0 (ji21)).f1)) = false := bne_eq_false_iff_eq.mpr c24
         clear c24
         obtain ⟨ji25, hji25⟩ : ∃ j_ : Int, (wrap64 ((x3_1.length : Int) - 1)) = j_ := ⟨_, rfl⟩
         replace H : (if 0 ≤ (ji25) then (if (ji25) < (x3_1.length : Int) then (if (rd_L5 x3_1 (ji25)).length < 17592186044416 then (flongref03_Runs.l0 k1 l0 (x3_1.set ((ji25) : Int).toNat ((rd_L5 x3_1 (ji25)) ++ [(⟨(rd_T44 l0 x4_1).f0, (rd_T44 l0 x4_1).f1⟩ : S44)])) (wrap64 (x4_1 + 1))) else (none)) else (none)) else (none)) = some r := by first | (rw [hji25] at H; exact H) | (simp only [hji25] at H ⊢; exact H)
         have hji25w : (IntKind.i64.wrap ((x3_1.length : Int) - 1)) = ji25 := (i64_w _).trans hji25
         by_cases c26 : 0 ≤ (ji25)
         ·rw [if_pos c26] at H
          have c26b0 : decide (0 ≤ (ji25)) = true := decide_eq_true c26
          clear c26
          by_cases c27 : (ji25) < (x3_1.length : Int)
          ·rw [if_pos c27] at H
           have c27b0 : decide ((ji25) < (x3_1.length : Int)) = true := decide_eq_true c27
           clear c27
           by_cases c28 : (rd_L5 x3_1 (ji25)).length < 17592186044416
           ·rw [if_pos c28] at H
            have LMc28 := Aside0.mk c28
            clear c28
            obtain ⟨y321, hy321⟩ : ∃ y_ : List (S44), y_ = ((rd_L5 x3_1 (ji25)) ++ [(⟨(rd_T44 l0 x4_1).f0, (rd_T44 l0 x4_1).f1⟩ : S44)]) := ⟨_, rfl⟩
            replace H : (flongref03_Runs.l0 k1 l0 (x3_1.set ((ji25) : Int).toNat y321) (wrap64 (x4_1 + 1))) = some r := by first | (rw [hy321]; with_reducible exact H) | (have H2_ := (Option.bind_some _ _).symm.trans H; rw [hy321]; with_reducible exact H2_) | (have H2_ := (Option.bind_some _ _).symm.trans H; with_reducible exact H2_) | with_reducible exact H | (rw [hy321]; exact H) | exact H
            have Ny321 := Aside0.mk hy321
            clear hy321
            obtain ⟨y324, hy324⟩ : ∃ y_ : List (List (S44)), y_ = (x3_1.set ((ji25) : Int).toNat y321) := ⟨_, rfl⟩
            replace H : (flongref03_Runs.l0 k1 l0 y324 (wrap64 (x4_1 + 1))) = some r := by first | (rw [hy324]; with_reducible exact H) | (have H2_ := (Option.bind_some _ _).symm.trans H; rw [hy324]; with_reducible exact H2_) | (have H2_ := (Option.bind_some _ _).symm.trans H; with_reducible exact H2_) | with_reducible exact H | (rw [hy324]; exact H) | exact H
            have Ny324 := Aside0.mk hy324
            clear hy324
            have H' := Aside0.mk H
            clear H
            try go_wp2
            have n0_ := Aside0.mk (Kd.S_drew HO_3.out)
            have n1_ := Aside0.mk (below_drew1 HB.out)
            clear HO_3
            clear HB
            have HO_3 := n0_
            have HB := n1_
            clear n0_ n1_
            have p317 : 0 ≤ (x4_1 : Int) := of_decide_eq_true (by first | (with_reducible assumption) | assumption)
            have q317 : x4_1 < (l0.length : Int) := of_decide_eq_true (by first | (with_reducible assumption) | assumption)
            obtain ⟨ad317, e317, hx317_0, hx317_1⟩ := at_T44 HR0.out x4_1 p317 q317
            have hw317_1 := hx317_1
            have hw317_0 := hx317_0
            cases e317
            replace hx317_0 := (HB.out.cell (World.block_lt_of_cell? w _ hx317_0)).trans hx317_0
            replace hx317_1 := (HB.out.cell (World.block_lt_of_cell? w _ hx317_1)).trans hx317_1
            replace p317 := eq_true p317
            replace q317 := eq_true q317
            have p318 : 0 ≤ ((ji21) : Int) := of_decide_eq_true (by first | (with_reducible assumption) | assumption)
            have q318 : (ji21) < (l0.length : Int) := of_decide_eq_true (by first | (with_reducible assumption) | assumption)
            obtain ⟨ad318, e318, hx318_0, hx318_1⟩ := at_T44 HR0.out (ji21) p318 q318
            have hw318_1 := hx318_1
            have hw318_0 := hx318_0
            obtain rfl : ad317 = ad318 := (by injection e318)
            replace hx318_0 := (HB.out.cell (World.block_lt_of_cell? w _ hx318_0)).trans hx318_0
            replace hx318_1 := (HB.out.cell (World.block_lt_of_cell? w _ hx318_1)).trans hx318_1
            replace p318 := eq_true p318
            replace q318 := eq_true q318
            refine start_ (n := 16) (S := fun w' => w'.cell? (ad317.add ((x4_1).toNat * 2)) = some (.int .i32 ((rd_T44 l0 x4_1).f0)) ∧ w'.cell? ⟨(ad317.add ((x4_1).toNat * 2)).block, (ad317.add ((x4_1).toNat * 2)).off + 1, none⟩ = some (.int .u8 ((rd_T44 l0 x4_1).f1)) ∧ w'.cell? (ad317.add (((ji21)).toNat * 2)) = some (.int .i32 ((rd_T44 l0 (ji21)).f0)) ∧ w'.cell? ⟨(ad317.add (((ji21)).toNat * 2)).block, (ad317.add (((ji21)).toNat * 2)).off + 1, none⟩ = some (.int .u8 ((rd_T44 l0 (ji21)).f1))) (ds := []) #[false, false, false, false, false, false, false, false, false, false, false, false, false, false, false, false] (by kernel_rfl) rfl rfl ⟨((HB.out.cell (World.block_lt_of_cell? w _ hw317_0)).trans hw317_0), ((HB.out.cell (World.block_lt_of_cell? w _ hw317_1)).trans hw317_1), ((HB.out.cell (World.block_lt_of_cell? w _ hw318_0)).trans hw318_0), ((HB.out.cell (World.block_lt_of_cell? w _ hw318_1)).trans hw318_1)⟩ (fun hHeld => ?_); refine with_tabW flongref03_Runs.tab5 flongref03_Runs.bits5 (fun HT_ HW_ => ?_)
            generalize wr.drew = w30 at HO_3 HB hx317_0 hx317_1 hx318_0 hx318_1 hHeld ⊢
            refine pure_ (i := 0) (N := some 12) (v := ?_) (a' := ?_) #[true, false, false, false, false, false, false, false, false, false, false, false, false, false, false, false] rfl rfl (any_of HT_.out (by kernel_rfl)) (fun _ _ _ h => h) (Or.inl ⟨by rfl, ?_⟩) ?_ ?_
            rotate_left
            ·intro w'
             go_simp
             with_reducible rfl
            rotate_left
            ·simp only [Act.put, List.setIfInBounds_toArray, List.set_cons_zero, List.set_cons_succ, i64_w, i32_w]
             rfl
            refine pure_ (i := 1) (N := some 13) (v := ?_) (a' := ?_) #[true, true, false, false, false, false, false, false, false, false, false, false, false, false, false, false] rfl rfl (any_of HT_.out (by kernel_rfl)) (fun _ _ _ h => h) (Or.inl ⟨by rfl, ?_⟩) ?_ ?_
            rotate_left
            ·intro w'
             go_simp
             with_reducible rfl
            rotate_left
            ·simp only [Act.put, List.setIfInBounds_toArray, List.set_cons_zero, List.set_cons_succ, i64_w, i32_w]
             rfl
            refine pure_ (i := 2) (N := some 14) (v := ?_) (a' := ?_) #[true, true, true, false, false, false, false, false, false, false, false, false, false, false, false, false] rfl rfl (any_of HT_.out (by kernel_rfl)) (fun _ _ _ h => h) (Or.inl ⟨by rfl, ?_⟩) ?_ ?_
            rotate_left
            ·intro w'
             go_simp
             with_reducible rfl
            rotate_left
            ·simp only [Act.put, List.setIfInBounds_toArray, List.set_cons_zero, List.set_cons_succ, i64_w, i32_w]
             rfl
            refine pure_ (i := 3) (N := some 15) (v := ?_) (a' := ?_) #[true, true, true, true, false, false, false, false, false, false, false, false, false, false, false, false] rfl rfl (any_of HT_.out (by kernel_rfl)) (fun _ _ _ h => h) (Or.inl ⟨by rfl, ?_⟩) ?_ ?_
            rotate_left
            ·intro w'
             go_simp
             with_reducible rfl
            rotate_left
            ·simp only [Act.put, List.setIfInBounds_toArray, List.set_cons_zero, List.set_cons_succ, i64_w, i32_w]
             rfl
            refine pure_ (i := 4) (N := some 16) (v := ?_) (a' := ?_) #[true, true, true, true, true, false, false, false, false, false, false, false, false, false, false, false] rfl rfl (any_of HT_.out (by kernel_rfl)) (fun _ _ _ h => h) (Or.inl ⟨by rfl, ?_⟩) ?_ ?_
            rotate_left
            ·intro w'
             go_simp
             with_reducible rfl
            rotate_left
            ·simp only [Act.put, List.setIfInBounds_toArray, List.set_cons_zero, List.set_cons_succ, i64_w, i32_w]
             rfl
            refine pure_ (i := 5) (N := some 17) (v := ?_) (a' := ?_) #[true, true, true, true, true, true, false, false, false, false, false, false, false, false, false, false] rfl rfl (any_of HT_.out (by kernel_rfl)) (fun _ _ _ h => h) (Or.inl ⟨by rfl, ?_⟩) ?_ ?_
            rotate_left
            ·intro w'
             go_simp
             with_reducible rfl
            rotate_left
            ·simp only [Act.put, List.setIfInBounds_toArray, List.set_cons_zero, List.set_cons_succ, i64_w, i32_w]
             rfl
            refine pure_ (i := 6) (N := some 18) (v := ?_) (a' := ?_) #[true, true, true, true, true, true, true, false, false, false, false, false, false, false, false, false] rfl rfl (any_of HT_.out (by kernel_rfl)) (fun _ _ _ h => h) (Or.inl ⟨by rfl, ?_⟩) ?_ ?_
            rotate_left
            ·intro w'
             go_simp
             with_reducible rfl
            rotate_left
            ·simp only [Act.put, List.setIfInBounds_toArray, List.set_cons_zero, List.set_cons_succ, i64_w, i32_w]
             rfl
            refine pure_ (i := 8) (N := some 20) (v := ?_) (a' := ?_) #[true, true, true, true, true, true, true, false, true, false, false, false, false, false, false, false] rfl rfl (any_of HT_.out (by kernel_rfl)) (fun _ _ _ h => h) (Or.inl ⟨by rfl, ?_⟩) ?_ ?_
            rotate_left
            ·intro w'
             go_simp
             with_reducible rfl
            rotate_left
            ·simp only [Act.put, List.setIfInBounds_toArray, List.set_cons_zero, List.set_cons_succ, i64_w, i32_w]
             rfl
            refine pure_ (i := 9) (N := some 21) (v := ?_) (a' := ?_) #[true, true, true, true, true, true, true, false, true, true, false, false, false, false, false, false] rfl rfl (any_of HT_.out (by kernel_rfl)) (fun _ _ _ h => h) (Or.inl ⟨by rfl, ?_⟩) ?_ ?_
            rotate_left
            ·intro w'
             go_simp
             with_reducible rfl
            rotate_left
            ·simp only [Act.put, List.setIfInBounds_toArray, List.set_cons_zero, List.set_cons_succ, i64_w, i32_w]
             rfl
            refine pure_ (i := 10) (N := some 22) (v := ?_) (a' := ?_) #[true, true, true, true, true, true, true, false, true, true, true, false, false, false, false, false] rfl rfl (any_of HT_.out (by kernel_rfl)) (fun _ _ _ h => h) (Or.inl ⟨by rfl, ?_⟩) ?_ ?_
            rotate_left
            ·intro w'
             go_simp
             with_reducible rfl
            rotate_left
            ·simp only [Act.put, List.setIfInBounds_toArray, List.set_cons_zero, List.set_cons_succ, i64_w, i32_w]
             rfl
            refine pure_ (i := 11) (N := some 23) (v := ?_) (a' := ?_) #[true, true, true, true, true, true, true, false, true, true, true, true, false, false, false, false] rfl rfl (any_of HT_.out (by kernel_rfl)) (fun _ _ _ h => h) (Or.inl ⟨by rfl, ?_⟩) ?_ ?_
            rotate_left
            ·intro w'
             go_simp
             with_reducible rfl
            rotate_left
            ·simp only [Act.put, List.setIfInBounds_toArray, List.set_cons_zero, List.set_cons_succ, i64_w, i32_w]
             rfl
            refine pure_ (i := 12) (N := some 24) (v := ?_) (a' := ?_) #[true, true, true, true, true, true, true, false, true, true, true, true, true, false, false, false] rfl rfl (any_of HT_.out (by kernel_rfl)) (fun _ _ _ h => h) (Or.inl ⟨by rfl, ?_⟩) ?_ ?_
            rotate_left
            ·intro w'
             go_simp
             with_reducible rfl
            rotate_left
            ·simp only [Act.put, List.setIfInBounds_toArray, List.set_cons_zero, List.set_cons_succ, i64_w, i32_w]
             rfl
            refine take_ (i := 7) (N := some 19) (v := ?_) (a' := ?_) #[true, true, true, true, true, true, true, true, true, true, true, true, true, false, false, false] rfl rfl (take_ofW HT_.out HW_.out (by kernel_rfl)) (fun _ _ _ h => h) (Or.inl ⟨by rfl, ?_⟩) hHeld ?_ ?_
            rotate_left
            ·rintro w' ⟨s0, s1, s2, s3⟩
             go_simp
             with_reducible rfl
            rotate_left
            ·simp only [Act.put, List.setIfInBounds_toArray, List.set_cons_zero, List.set_cons_succ, i64_w, i32_w]
             rfl
            refine take_ (i := 13) (N := some 25) (v := ?_) (a' := ?_) #[true, true, true, true, true, true, true, true, true, true, true, true, true, true, false, false] rfl rfl (take_ofW HT_.out HW_.out (by kernel_rfl)) (fun _ _ _ h => h) (Or.inl ⟨by rfl, ?_⟩) hHeld ?_ ?_
            rotate_left
            ·rintro w' ⟨s0, s1, s2, s3⟩
             go_simp
             with_reducible rfl
            rotate_left
            ·simp only [Act.put, List.setIfInBounds_toArray, List.set_cons_zero, List.set_cons_succ, i64_w, i32_w]
             rfl
            refine pure_ (i := 14) (N := some 26) (v := ?_) (a' := ?_) #[true, true, true, true, true, true, true, true, true, true, true, true, true, true, true, false] rfl rfl (any_of HT_.out (by kernel_rfl)) (fun _ _ _ h => h) (Or.inl ⟨by rfl, ?_⟩) ?_ ?_
            rotate_left
            ·intro w'
             go_simp
             with_reducible rfl
            rotate_left
            ·simp only [Act.put, List.setIfInBounds_toArray, List.set_cons_zero, List.set_cons_succ, i64_w, i32_w]
             rfl
            refine pure_ (i := 15) (N := some 27) (v := ?_) (a' := ?_) #[true, true, true, true, true, true, true, true, true, true, true, true, true, true, true, true] rfl rfl (any_of HT_.out (by kernel_rfl)) (fun _ _ _ h => h) (Or.inl ⟨by rfl, ?_⟩) ?_ ?_
            rotate_left
            ·intro w'
             go_simp
             with_reducible rfl
            rotate_left
            ·simp only [Act.put, List.setIfInBounds_toArray, List.set_cons_zero, List.set_cons_succ, i64_w, i32_w]
             rfl
            refine done_ (done_of HT_.out (by kernel_rfl)) ?_
            obtain ⟨Ao31, co31, eo31⟩ := Kd.S_slice HO_3.out
            subst eo31
            try go_wp2
            have n0_ := Aside0.mk (Kd.S_drew HO_3.out)
            have n1_ := Aside0.mk (below_drew1 HB.out)
            clear HO_3
            clear HB
            have HO_3 := n0_
            have HB := n1_
            clear n0_ n1_
            have p319 : 0 ≤ ((ji25) : Int) := of_decide_eq_true (by first | (with_reducible assumption) | assumption)
            have q319 : (ji25) < (x3_1.length : Int) := of_decide_eq_true (by first | (with_reducible assumption) | assumption)
            obtain ⟨ad319, A319_0, c319_0, e319, hx319_0, hl319_0, hi319_0⟩ := at_L5 (Kd.S_reads' HO_3.out).2.2 (ji25) p319 q319
            cases e319
            obtain ⟨ce319, hce319, hMe319, hcc319⟩ := Kd.S_get HO_3.out [] (ji25) p319 (by first | exact q319 | exact of_decide_eq_true (by first | (with_reducible assumption) | assumption) | (have e_ := (Kd.S_reads' HO_3.out).1; omega))
            obtain ⟨ve319_0, rfl, ge319_0⟩ := hMe319
            have hv319_0 := hcc319 0 _ rfl
            rw [Nat.add_zero, show ((Kd.slice 44 k44)).sz = 1 from rfl, Nat.mul_one] at hv319_0
            replace hv319_0 := Option.some.inj (hv319_0.symm.trans hx319_0)
            rw [hv319_0] at ge319_0
            have HL319_0 := Aside0.mk (show Kd.R k44 44 _ _ _ _ (rd_L5 x3_1 (ji25)) from ge319_0)
            clear hv319_0 ge319_0
            have HX319_0 := Aside0.mk hx319_0
            clear hcc319 hce319
            have HR319_0 := Aside0.mk hi319_0
            have HC319_0 := Aside0.mk hl319_0
            clear hi319_0 hl319_0
            replace p319 := eq_true p319
            replace q319 := eq_true q319
            have p320 : 0 ≤ (x4_1 : Int) := of_decide_eq_true (by first | (with_reducible assumption) | assumption)
            have q320 : x4_1 < (l0.length : Int) := of_decide_eq_true (by first | (with_reducible assumption) | assumption)
            obtain ⟨ad320, e320, hx320_0, hx320_1⟩ := at_T44 HR0.out x4_1 p320 q320
            have hw320_1 := hx320_1
            have hw320_0 := hx320_0
            obtain rfl : ad317 = ad320 := (by injection e320)
            replace hx320_0 := (HB.out.cell (World.block_lt_of_cell? w _ hx320_0)).trans hx320_0
            replace hx320_1 := (HB.out.cell (World.block_lt_of_cell? w _ hx320_1)).trans hx320_1
            replace p320 := eq_true p320
            replace q320 := eq_true q320
            obtain ⟨go33, co33, eo33, gb33, gl33, cl33, HG33⟩ := Kd.S_form HO_3.out (by have h_ : ((ji25) : Int) < ((x3_1.length : Int) : Int) := of_decide_eq_true (by first | (with_reducible assumption) | assumption); have h2_ : 0 ≤ ((ji25) : Int) := (of_decide_eq_true (by first | (with_reducible assumption) | assumption)); omega)
            (first | cases eo33 | (injection eo33 with ea_ en_ ec_; (first | subst ea_ | (injection ea_ with ea_; subst ea_)); subst ec_; clear en_))
            have GB33 := Aside0.mk gb33
            have GG33 := Aside0.mk HG33
            clear gb33 gl33 HG33
            (first | simp only [add_plain] at hx319_0 | skip)
            obtain ⟨oki33, ce33, hcl33, hM33, hcc33, _, _, hH33⟩ := Kd.S_elem HO_3.out [] ((ji25) : Int) (of_decide_eq_true (by first | (with_reducible assumption) | assumption)) (by have h_ : ((ji25) : Int) < ((x3_1.length : Int) : Int) := of_decide_eq_true (by first | (with_reducible assumption) | assumption); first | exact h_ | (have e_ := (Kd.S_reads' HO_3.out).1; omega) | simpa using h_)
            obtain ⟨ve33_0, rfl, ge33_0⟩ := hM33
            have hv33 := hcc33 0 _ rfl
            have hX33 := HX319_0.out
            (try simp only [add_plain] at hX33)
            (try simp only [Nat.add_zero] at hv33)
            (try rw [show ((Kd.slice 44 k44)).sz = 1 from rfl, Nat.mul_one] at hv33)
            replace hv33 := Option.some.inj (hv33.symm.trans hX33)
            subst hv33
            clear hX33 hcc33 hcl33
            have UU33 := Aside0.mk (show Kd.R k44 44 _ w.heap.size oki33 (.slice A319_0 (rd_L5 x3_1 (ji25)).length c319_0) (rd_L5 x3_1 (ji25)) from ge33_0)
            have HH33 := Aside0.mk hH33
            have HN33 := Aside0.mk (Kd.S_reads' HO_3.out).1
            clear hH33 ge33_0
            refine start_ (n := 14) (S := fun w' => w'.cell? ⟨go33, ((ji25)).toNat, none⟩ = some (.slice A319_0 (rd_L5 x3_1 (ji25)).length c319_0) ∧ w'.cell? (ad317.add ((x4_1).toNat * 2)) = some (.int .i32 ((rd_T44 l0 x4_1).f0)) ∧ w'.cell? ⟨(ad317.add ((x4_1).toNat * 2)).block, (ad317.add ((x4_1).toNat * 2)).off + 1, none⟩ = some (.int .u8 ((rd_T44 l0 x4_1).f1))) (ds := [13]) #[false, false, false, false, false, false, false, false, false, false, false, false, false, false] (by kernel_rfl) rfl rfl ⟨hx319_0, ((HB.out.cell (World.block_lt_of_cell? w _ hw320_0)).trans hw320_0), ((HB.out.cell (World.block_lt_of_cell? w _ hw320_1)).trans hw320_1)⟩ (fun hHeld => ?_); refine with_tabW flongref03_Runs.tab8 flongref03_Runs.bits8 (fun HT_ HW_ => ?_)
            generalize w30.drew = w32 at HO_3 HB GG33 HH33 HL319_0 HR319_0 HX319_0 UU33 hx319_0 hx320_0 hx320_1 hHeld ⊢
            refine pure_ (i := 0) (N := some 34) (v := ?_) (a' := ?_) #[true, false, false, false, false, false, false, false, false, false, false, false, false, false] rfl rfl (any_of HT_.out (by kernel_rfl)) (fun _ _ _ h => h) (Or.inl ⟨by rfl, ?_⟩) ?_ ?_
            rotate_left
            ·intro w'
             go_simp
             with_reducible rfl
            rotate_left
            ·simp only [Act.put, List.setIfInBounds_toArray, List.set_cons_zero, List.set_cons_succ, i64_w, i32_w]
             rfl
            refine pure_ (i := 1) (N := some 35) (v := ?_) (a' := ?_) #[true, true, false, false, false, false, false, false, false, false, false, false, false, false] rfl rfl (any_of HT_.out (by kernel_rfl)) (fun _ _ _ h => h) (Or.inl ⟨by rfl, ?_⟩) ?_ ?_
            rotate_left
            ·intro w'
             go_simp
             with_reducible rfl
            rotate_left
            ·simp only [Act.put, List.setIfInBounds_toArray, List.set_cons_zero, List.set_cons_succ, i64_w, i32_w]
             rfl
            refine pure_ (i := 2) (N := some 36) (v := ?_) (a' := ?_) #[true, true, true, false, false, false, false, false, false, false, false, false, false, false] rfl rfl (any_of HT_.out (by kernel_rfl)) (fun _ _ _ h => h) (Or.inl ⟨by rfl, ?_⟩) ?_ ?_
            rotate_left
            ·intro w'
             go_simp
             with_reducible rfl
            rotate_left
            ·simp only [Act.put, List.setIfInBounds_toArray, List.set_cons_zero, List.set_cons_succ, i64_w, i32_w]
             rfl
            refine pure_ (i := 3) (N := some 37) (v := ?_) (a' := ?_) #[true, true, true, true, false, false, false, false, false, false, false, false, false, false] rfl rfl (any_of HT_.out (by kernel_rfl)) (fun _ _ _ h => h) (Or.inl ⟨by rfl, ?_⟩) ?_ ?_
            rotate_left
            ·intro w'
             go_simp
             with_reducible rfl
            rotate_left
            ·simp only [Act.put, List.setIfInBounds_toArray, List.set_cons_zero, List.set_cons_succ, i64_w, i32_w]
             rfl
            refine pure_ (i := 4) (N := some 38) (v := ?_) (a' := ?_) #[true, true, true, true, true, false, false, false, false, false, false, false, false, false] rfl rfl (any_of HT_.out (by kernel_rfl)) (fun _ _ _ h => h) (Or.inl ⟨by rfl, ?_⟩) ?_ ?_
            rotate_left
            ·intro w'
             go_simp
             with_reducible rfl
            rotate_left
            ·simp only [Act.put, List.setIfInBounds_toArray, List.set_cons_zero, List.set_cons_succ, i64_w, i32_w]
             rfl
            refine pure_ (i := 6) (N := some 40) (v := ?_) (a' := ?_) #[true, true, true, true, true, false, true, false, false, false, false, false, false, false] rfl rfl (any_of HT_.out (by kernel_rfl)) (fun _ _ _ h => h) (Or.inl ⟨by rfl, ?_⟩) ?_ ?_
            rotate_left
            ·intro w'
             go_simp
             with_reducible rfl
            rotate_left
            ·simp only [Act.put, List.setIfInBounds_toArray, List.set_cons_zero, List.set_cons_succ, i64_w, i32_w]
             rfl
            refine pure_ (i := 7) (N := some 41) (v := ?_) (a' := ?_) #[true, true, true, true, true, false, true, true, false, false, false, false, false, false] rfl rfl (any_of HT_.out (by kernel_rfl)) (fun _ _ _ h => h) (Or.inl ⟨by rfl, ?_⟩) ?_ ?_
            rotate_left
            ·intro w'
             go_simp
             with_reducible rfl
            rotate_left
            ·simp only [Act.put, List.setIfInBounds_toArray, List.set_cons_zero, List.set_cons_succ, i64_w, i32_w]
             rfl
            refine pure_ (i := 8) (N := some 42) (v := ?_) (a' := ?_) #[true, true, true, true, true, false, true, true, true, false, false, false, false, false] rfl rfl (any_of HT_.out (by kernel_rfl)) (fun _ _ _ h => h) (Or.inl ⟨by rfl, ?_⟩) ?_ ?_
            rotate_left
            ·intro w'
             go_simp
             with_reducible rfl
            rotate_left
            ·simp only [Act.put, List.setIfInBounds_toArray, List.set_cons_zero, List.set_cons_succ, i64_w, i32_w]
             rfl
            refine take_ (i := 5) (N := some 39) (v := ?_) (a' := ?_) #[true, true, true, true, true, true, true, true, true, false, false, false, false, false] rfl rfl (take_ofW HT_.out HW_.out (by kernel_rfl)) (fun _ _ _ h => h) (Or.inl ⟨by rfl, ?_⟩) hHeld ?_ ?_
            rotate_left
            ·rintro w' ⟨s0, s1, s2⟩
             go_simp
             with_reducible rfl
            rotate_left
            ·simp only [Act.put, List.setIfInBounds_toArray, List.set_cons_zero, List.set_cons_succ, i64_w, i32_w]
             rfl
            refine take_ (i := 9) (N := some 43) (v := ?_) (a' := ?_) #[true, true, true, true, true, true, true, true, true, true, false, false, false, false] rfl rfl (take_ofW HT_.out HW_.out (by kernel_rfl)) (fun _ _ _ h => h) (Or.inl ⟨by rfl, ?_⟩) hHeld ?_ ?_
            rotate_left
            ·rintro w' ⟨s0, s1, s2⟩
             go_simp
             with_reducible rfl
            rotate_left
            ·simp only [Act.put, List.setIfInBounds_toArray, List.set_cons_zero, List.set_cons_succ, i64_w, i32_w]
             rfl
            refine one_ (i := 10) (N := some 44) #[true, true, true, true, true, true, true, true, true, true, true, false, false, false] rfl rfl (one_of HT_.out (by kernel_rfl)) (by decide) (fun K hK => ?_)
            refine value_ (w1 := ?_) (v := ?_) (by rfl) rfl ?_ ?_
            rotate_left 2
            ·go_simp
             constructor
             ·rfl
             ·rfl
            refine hK.out _ _ ⟨(World.cell?_alloc_lt _ _ _ (World.block_lt_of_cell? _ _ (hHeld.1))).trans (hHeld.1), (World.cell?_alloc_lt _ _ _ (World.block_lt_of_cell? _ _ (((HB.out.cell (World.block_lt_of_cell? w _ hw320_0)).trans hw320_0)))).trans (((HB.out.cell (World.block_lt_of_cell? w _ hw320_0)).trans hw320_0)), (World.cell?_alloc_lt _ _ _ (World.block_lt_of_cell? _ _ (((HB.out.cell (World.block_lt_of_cell? w _ hw320_1)).trans hw320_1)))).trans (((HB.out.cell (World.block_lt_of_cell? w _ hw320_1)).trans hw320_1))⟩ (fun hHeld => ?_)
            clear hK K
            refine norm_ (a' := ?_) ?_ ?_
            rotate_left
            ·show Act.put _ (some 44) _ = _
             simp only [Act.put, List.setIfInBounds_toArray, List.set_cons_zero, List.set_cons_succ, i64_w, i32_w]
             rfl
            refine one_ (i := 11) (N := some 45) #[true, true, true, true, true, true, true, true, true, true, true, true, false, false] rfl rfl (one_of HT_.out (by kernel_rfl)) (by decide) (fun K hK => ?_)
            refine Kd.R_append_step k44 (w0 := w) w.heap.size (by rfl) (.tmp 39) (.tmp 44) 33 44 (.agg #[(.int .i32 0), (.int .u8 0)]) 8 rfl Tryd.underlying33 info44 rfl (by decide) (by omega) (.slice A319_0 (rd_L5 x3_1 (ji25)).length c319_0) (rd_L5 x3_1 (ji25)) (⟨(rd_T44 l0 x4_1).f0, (rd_T44 l0 x4_1).f1⟩ : S44) [.int .i32 ((rd_T44 l0 x4_1).f0), .int .u8 ((rd_T44 l0 x4_1).f1)] (fun k_ => oki33 k_ ∨ ((fun _ => True)) k_ ∧ w32.heap.size ≤ k_) (fun _ => False) rfl rfl ?aP (fun _ hk => hk.elim) ?aF ?aO ?aB ?aS ?aL ?_
            (case aP => exact k44_mkM _ _ _ (⟨(rd_T44 l0 x4_1).f0, (rd_T44 l0 x4_1).f1⟩ : S44))
            (case aB => exact (by repeat (first | (with_reducible first | exact HB.out | apply below_alloc | apply pw_below_drewN | apply below_drew1) | exact HB.out)))
            (case aF => exact (fun k_ hk => .inr ⟨trivial, hk⟩))
            (case aO => exact (by (with_reducible repeat (first | apply Kd.R_alloc | apply Kd.R_drewN | apply Kd.R_drew)); exact Kd.R_mono UU33.out (fun _ hk => .inl hk)))
            (case aS => exact (below_size (by repeat (first | (with_reducible first | exact HB.out | apply below_alloc | apply pw_below_drewN | apply below_drew1) | exact HB.out))))
            (case aL => have := LMc28.out; omega)
            intro v322 w34 ho hb hg hat
            (first | have HS0_ := cell_grown hg (hHeld.1) (by first | (rw [add_block]; exact (fun e_ => ((HL319_0.out.1 _ e_.symm).2) rfl)) | (show some (Addr.add _ _).block ≠ _; rw [add_block]; exact (fun e_ => ((HL319_0.out.1 _ e_.symm).2) rfl)) | exact (fun e_ => ((HL319_0.out.1 _ e_.symm).2) rfl)) | have HS0_ := cell_grown hg (cell_unalloc (hHeld.1) (by first | (rw [add_block]; exact Kd.S_lt HO_3.out _ rfl) | (show (Addr.add _ _).block < _; rw [add_block]; exact Kd.S_lt HO_3.out _ rfl) | exact Kd.S_lt HO_3.out _ rfl)) (by first | (rw [add_block]; exact (fun e_ => ((HL319_0.out.1 _ e_.symm).2) rfl)) | (show some (Addr.add _ _).block ≠ _; rw [add_block]; exact (fun e_ => ((HL319_0.out.1 _ e_.symm).2) rfl)) | exact (fun e_ => ((HL319_0.out.1 _ e_.symm).2) rfl)))
            rw [← Ny321.out] at ho
            have n0_ := Aside0.mk (hb)
            have n1_ := Aside0.mk (Kd.H_grown (Kd.H_widen (by repeat (first | exact HH33.out | refine Kd.H_alloc ?_ _ | refine Kd.H_drewN ?_ _ | refine Kd.H_drew ?_))) hg (fun k_ e_ => .inl (UU33.out.1 k_ e_)))
            have n2_ := Aside0.mk (ho)
            clear HB
            clear HH33
            clear HO_3
            clear UU33
            clear HL319_0
            have HB := n0_
            have HH33 := n1_
            have HO323 := n2_
            clear n0_ n1_ n2_
            clear ho hb hg hat
            have p29 : 0 ≤ ((ji25) : Int) := of_decide_eq_true (by first | (with_reducible assumption) | assumption)
            have q29 : ((ji25) : Int) < ((x3_1.length : Int) : Int) := of_decide_eq_true (by first | (with_reducible assumption) | assumption)
            replace p29 := eq_true p29
            replace q29 := eq_true q29
            obtain ⟨Ao37, co37, eo37⟩ := Kd.R_slice HO323.out
            (first | subst eo37 | (injection eo37 with f1_ f2_ f3_; have f4_ := f1_.symm; have f5_ := f3_.symm; clear f1_ f2_ f3_; subst f4_; subst f5_))
            obtain ⟨_, _, hraw35, _, _, hcc35, _⟩ := Kd.H_raw HH33.out (of_decide_eq_true (by first | (with_reducible assumption) | assumption)) (by have h_ : ((ji25) : Int) < ((x3_1.length : Int) : Int) := of_decide_eq_true (by first | (with_reducible assumption) | assumption); first | exact h_ | (have e_ := (HN33.out); omega) | simpa using h_)
            obtain ⟨_, hfr35⟩ := Kd.H_at HH33.out (of_decide_eq_true (by first | (with_reducible assumption) | assumption)) (by have h_ : ((ji25) : Int) < ((x3_1.length : Int) : Int) := of_decide_eq_true (by first | (with_reducible assumption) | assumption); first | exact h_ | (have e_ := (HN33.out); omega) | simpa using h_)
            have hx35_0 := hcc35 0 _ rfl
            have hf35_0 := hfr35 0
            (try simp only [Nat.add_zero] at hx35_0 hf35_0)
            (try rw [show ((Kd.slice 44 k44)).sz = 1 from rfl, Nat.mul_one] at hx35_0)
            (try rw [show ((Kd.slice 44 k44)).sz = 1 from rfl, Nat.mul_one] at hf35_0)
            have HP35 := Kd.S_seg0 HH33.out (of_decide_eq_true (by first | (with_reducible assumption) | assumption)) (by have h_ : ((ji25) : Int) < ((x3_1.length : Int) : Int) := of_decide_eq_true (by first | (with_reducible assumption) | assumption); first | exact h_ | (have e_ := (HN33.out); omega) | simpa using h_) (seg := [.slice Ao37 y321.length co37]) (j := 0) (show 1 ≤ 1 from by decide) (x' := y321) (Kd.M_row HO323.out) (fun _ hk => hk)
            (try simp only [show ((Kd.slice 44 k44)).sz = 1 from rfl, Nat.mul_one, Nat.add_zero] at HP35)
            clear hcc35 hfr35
            have HS35 := HP35.1
            rw [← Ny324.out] at HS35
            have HQ35 := Aside0.mk HS35
            obtain ⟨_, hgg35⟩ := Kd.R_typed hraw35 go33 rfl
            have GG35_ := Aside0.mk hgg35
            clear HP35 HS35 hgg35
            refine hK.out _ _ ⟨HS0_, ((HB.out.cell (World.block_lt_of_cell? w _ hw320_0)).trans hw320_0), ((HB.out.cell (World.block_lt_of_cell? w _ hw320_1)).trans hw320_1)⟩ (fun hHeld => ?_)
            clear hK K
            refine norm_ (a' := ?_) ?_ ?_
            rotate_left
            ·show Act.put _ (some 45) _ = _
             simp only [Act.put, List.setIfInBounds_toArray, List.set_cons_zero, List.set_cons_succ, i64_w, i32_w]
             rfl
            refine pure_ (i := 12) (N := some 46) (v := ?_) (a' := ?_) #[true, true, true, true, true, true, true, true, true, true, true, true, true, false] rfl rfl (any_of HT_.out (by kernel_rfl)) (fun _ _ _ h => h) (Or.inl ⟨by rfl, ?_⟩) ?_ ?_
            rotate_left
            ·intro w'
             go_simp
             with_reducible rfl
            rotate_left
            ·simp only [Act.put, List.setIfInBounds_toArray, List.set_cons_zero, List.set_cons_succ, i64_w, i32_w]
             rfl
            refine last_ (i := 13) (N := none) #[true, true, true, true, true, true, true, true, true, true, true, true, true, true] rfl rfl (one_of HT_.out (by kernel_rfl)) (by decide) (fun K hK => ?_)
            refine skip_ (w1 := ?_) (by rfl) rfl ?_ ?_
            rotate_left
            ·go_simp
             rfl
            refine hK.out _ _ ?_
            clear hK K
            refine done_ (done_of HT_.out (by kernel_rfl)) ?_
            try go_wp2
            go_roundg k1
            case measure => have := HK1.out; omega
            case rel => exact ⟨(y324), (wrap64 (x4_1 + 1)), (by first | rfl | (simp; done) | (simp [*]; done)), H', ⟨by have := HK1.out; omega⟩, ⟨by (with_reducible repeat (first | apply Kd.S_alloc | apply Kd.S_drewN | apply Kd.S_drew)); exact HQ35.out⟩, ⟨by repeat (first | (with_reducible first | exact HB.out | apply below_alloc | apply pw_below_drewN | apply below_drew1 | refine below_set ?_ GB33.out) | exact HB.out)⟩⟩
           ·rw [if_neg c28] at H
            exact absurd H (by simp)
          ·rw [if_neg c27] at H
           exact absurd H (by simp)
         ·rw [if_neg c26] at H
          exact absurd H (by simp)
        ·rw [if_neg c24] at H
         have c24b0 : (((rd_T44 l0 x4_1).f1) == ((rd_T44 l0 (ji21)).f1)) = false := beq_eq_false_iff_ne.mpr c24
         have c24b1 : (((rd_T44 l0 x4_1).f1) != ((rd_T44 l0 (ji21)).f1)) = true := bne_iff_ne.mpr c24
         by_cases c38 : x3_1.length < 5864062014805
         ·rw [if_pos c38] at H
          have LMc38 := Aside0.mk c38
          clear c38
          obtain ⟨y325, hy325⟩ : ∃ y_ : List (List (S44)), y_ = (x3_1 ++ [([] : List (S44))]) := ⟨_, rfl⟩
          replace H : (if 0 ≤ (wrap64 ((y325.length : Int) - 1)) then (if (wrap64 ((y325.length : Int) - 1)) < (y325.length : Int) then (if (rd_L5 y325 (wrap64 ((y325.length : Int) - 1))).length < 17592186044416 then (flongref03_Runs.l0 k1 l0 (y325.set ((wrap64 ((y325.length : Int) - 1)) : Int).toNat ((rd_L5 y325 (wrap64 ((y325.length : Int) - 1))) ++ [(⟨(rd_T44 l0 x4_1).f0, (rd_T44 l0 x4_1).f1⟩ : S44)])) (wrap64 (x4_1 + 1))) else (none)) else (none)) else (none)) = some r := by first | (rw [hy325]; with_reducible exact H) | (have H2_ := (Option.bind_some _ _).symm.trans H; rw [hy325]; with_reducible exact H2_) | (have H2_ := (Option.bind_some _ _).symm.trans H; with_reducible exact H2_) | with_reducible exact H | (rw [hy325]; exact H) | exact H
          have Ny325 := Aside0.mk hy325
          clear hy325
          obtain ⟨ji39, hji39⟩ : ∃ j_ : Int, (wrap64 ((y325.length : Int) - 1)) = j_ := ⟨_, rfl⟩
          replace H : (if 0 ≤ (ji39) then (if (ji39) < (y325.length : Int) then (if (rd_L5 y325 (ji39)).length < 17592186044416 then (flongref03_Runs.l0 k1 l0 (y325.set ((ji39) : Int).toNat ((rd_L5 y325 (ji39)) ++ [(⟨(rd_T44 l0 x4_1).f0, (rd_T44 l0 x4_1).f1⟩ : S44)])) (wrap64 (x4_1 + 1))) else (none)) else (none)) else (none)) = some r := by first | (rw [hji39] at H; exact H) | (simp only [hji39] at H ⊢; exact H)
          have hji39w : (IntKind.i64.wrap ((y325.length : Int) - 1)) = ji39 := (i64_w _).trans hji39
          by_cases c40 : 0 ≤ (ji39)
          ·rw [if_pos c40] at H
           have c40b0 : decide (0 ≤ (ji39)) = true := decide_eq_true c40
           clear c40
           by_cases c41 : (ji39) < (y325.length : Int)
           ·rw [if_pos c41] at H
            have c41b0 : decide ((ji39) < (y325.length : Int)) = true := decide_eq_true c41
            clear c41
            by_cases c42 : (rd_L5 y325 (ji39)).length < 17592186044416
            ·rw [if_pos c42] at H
             have LMc42 := Aside0.mk c42
             clear c42
             obtain ⟨y330, hy330⟩ : ∃ y_ : List (S44), y_ = ((rd_L5 y325 (ji39)) ++ [(⟨(rd_T44 l0 x4_1).f0, (rd_T44 l0 x4_1).f1⟩ : S44)]) := ⟨_, rfl⟩
             replace H : (flongref03_Runs.l0 k1 l0 (y325.set ((ji39) : Int).toNat y330) (wrap64 (x4_1 + 1))) = some r := by first | (rw [hy330]; with_reducible exact H) | (have H2_ := (Option.bind_some _ _).symm.trans H; rw [hy330]; with_reducible exact H2_) | (have H2_ := (Option.bind_some _ _).symm.trans H; with_reducible exact H2_) | with_reducible exact H | (rw [hy330]; exact H) | exact H
             have Ny330 := Aside0.mk hy330
             clear hy330
             obtain ⟨y333, hy333⟩ : ∃ y_ : List (List (S44)), y_ = (y325.set ((ji39) : Int).toNat y330) := ⟨_, rfl⟩
             replace H : (flongref03_Runs.l0 k1 l0 y333 (wrap64 (x4_1 + 1))) = some r := by first | (rw [hy333]; with_reducible exact H) | (have H2_ := (Option.bind_some _ _).symm.trans H; rw [hy333]; with_reducible exact H2_) | (have H2_ := (Option.bind_some _ _).symm.trans H; with_reducible exact H2_) | with_reducible exact H | (rw [hy333]; exact H) | exact H
             have Ny333 := Aside0.mk hy333
             clear hy333
             have H' := Aside0.mk H
             clear H
             try go_wp2
             have n0_ := Aside0.mk (Kd.S_drew HO_3.out)
             have n1_ := Aside0.mk (below_drew1 HB.out)
             clear HO_3
             clear HB
             have HO_3 := n0_
             have HB := n1_
             clear n0_ n1_
             have p317 : 0 ≤ (x4_1 : Int) := of_decide_eq_true (by first | (with_reducible assumption) | assumption)
             have q317 : x4_1 < (l0.length : Int) := of_decide_eq_true (by first | (with_reducible assumption) | assumption)
             obtain ⟨ad317, e317, hx317_0, hx317_1⟩ := at_T44 HR0.out x4_1 p317 q317
             have hw317_1 := hx317_1
             have hw317_0 := hx317_0
             cases e317
             replace hx317_0 := (HB.out.cell (World.block_lt_of_cell? w _ hx317_0)).trans hx317_0
             replace hx317_1 := (HB.out.cell (World.block_lt_of_cell? w _ hx317_1)).trans hx317_1
             replace p317 := eq_true p317
             replace q317 := eq_true q317
             have p318 : 0 ≤ ((ji21) : Int) := of_decide_eq_true (by first | (with_reducible assumption) | assumption)
             have q318 : (ji21) < (l0.length : Int) := of_decide_eq_true (by first | (with_reducible assumption) | assumption)
             obtain ⟨ad318, e318, hx318_0, hx318_1⟩ := at_T44 HR0.out (ji21) p318 q318
             have hw318_1 := hx318_1
             have hw318_0 := hx318_0
             obtain rfl : ad317 = ad318 := (by injection e318)
             replace hx318_0 := (HB.out.cell (World.block_lt_of_cell? w _ hx318_0)).trans hx318_0
             replace hx318_1 := (HB.out.cell (World.block_lt_of_cell? w _ hx318_1)).trans hx318_1
             replace p318 := eq_true p318
             replace q318 := eq_true q318
             refine start_ (n := 16) (S := fun w' => w'.cell? (ad317.add ((x4_1).toNat * 2)) = some (.int .i32 ((rd_T44 l0 x4_1).f0)) ∧ w'.cell? ⟨(ad317.add ((x4_1).toNat * 2)).block, (ad317.add ((x4_1).toNat * 2)).off + 1, none⟩ = some (.int .u8 ((rd_T44 l0 x4_1).f1)) ∧ w'.cell? (ad317.add (((ji21)).toNat * 2)) = some (.int .i32 ((rd_T44 l0 (ji21)).f0)) ∧ w'.cell? ⟨(ad317.add (((ji21)).toNat * 2)).block, (ad317.add (((ji21)).toNat * 2)).off + 1, none⟩ = some (.int .u8 ((rd_T44 l0 (ji21)).f1))) (ds := []) #[false, false, false, false, false, false, false, false, false, false, false, false, false, false, false, false] (by kernel_rfl) rfl rfl ⟨((HB.out.cell (World.block_lt_of_cell? w _ hw317_0)).trans hw317_0), ((HB.out.cell (World.block_lt_of_cell? w _ hw317_1)).trans hw317_1), ((HB.out.cell (World.block_lt_of_cell? w _ hw318_0)).trans hw318_0), ((HB.out.cell (World.block_lt_of_cell? w _ hw318_1)).trans hw318_1)⟩ (fun hHeld => ?_); refine with_tabW flongref03_Runs.tab5 flongref03_Runs.bits5 (fun HT_ HW_ => ?_)
             generalize wr.drew = w44 at HO_3 HB hx317_0 hx317_1 hx318_0 hx318_1 hHeld ⊢
             refine pure_ (i := 0) (N := some 12) (v := ?_) (a' := ?_) #[true, false, false, false, false, false, false, false, false, false, false, false, false, false, false, false] rfl rfl (any_of HT_.out (by kernel_rfl)) (fun _ _ _ h => h) (Or.inl ⟨by rfl, ?_⟩) ?_ ?_
             rotate_left
             ·intro w'
              go_simp
              with_reducible rfl
             rotate_left
             ·simp only [Act.put, List.setIfInBounds_toArray, List.set_cons_zero, List.set_cons_succ, i64_w, i32_w]
              rfl
             refine pure_ (i := 1) (N := some 13) (v := ?_) (a' := ?_) #[true, true, false, false, false, false, false, false, false, false, false, false, false, false, false, false] rfl rfl (any_of HT_.out (by kernel_rfl)) (fun _ _ _ h => h) (Or.inl ⟨by rfl, ?_⟩) ?_ ?_
             rotate_left
             ·intro w'
              go_simp
              with_reducible rfl
             rotate_left
             ·simp only [Act.put, List.setIfInBounds_toArray, List.set_cons_zero, List.set_cons_succ, i64_w, i32_w]
              rfl
             refine pure_ (i := 2) (N := some 14) (v := ?_) (a' := ?_) #[true, true, true, false, false, false, false, false, false, false, false, false, false, false, false, false] rfl rfl (any_of HT_.out (by kernel_rfl)) (fun _ _ _ h => h) (Or.inl ⟨by rfl, ?_⟩) ?_ ?_
             rotate_left
             ·intro w'
              go_simp
              with_reducible rfl
             rotate_left
             ·simp only [Act.put, List.setIfInBounds_toArray, List.set_cons_zero, List.set_cons_succ, i64_w, i32_w]
              rfl
             refine pure_ (i := 3) (N := some 15) (v := ?_) (a' := ?_) #[true, true, true, true, false, false, false, false, false, false, false, false, false, false, false, false] rfl rfl (any_of HT_.out (by kernel_rfl)) (fun _ _ _ h => h) (Or.inl ⟨by rfl, ?_⟩) ?_ ?_
             rotate_left
             ·intro w'
              go_simp
              with_reducible rfl
             rotate_left
             ·simp only [Act.put, List.setIfInBounds_toArray, List.set_cons_zero, List.set_cons_succ, i64_w, i32_w]
              rfl
             refine pure_ (i := 4) (N := some 16) (v := ?_) (a' := ?_) #[true, true, true, true, true, false, false, false, false, false, false, false, false, false, false, false] rfl rfl (any_of HT_.out (by kernel_rfl)) (fun _ _ _ h => h) (Or.inl ⟨by rfl, ?_⟩) ?_ ?_
             rotate_left
             ·intro w'
              go_simp
              with_reducible rfl
             rotate_left
             ·simp only [Act.put, List.setIfInBounds_toArray, List.set_cons_zero, List.set_cons_succ, i64_w, i32_w]
              rfl
             refine pure_ (i := 5) (N := some 17) (v := ?_) (a' := ?_) #[true, true, true, true, true, true, false, false, false, false, false, false, false, false, false, false] rfl rfl (any_of HT_.out (by kernel_rfl)) (fun _ _ _ h => h) (Or.inl ⟨by rfl, ?_⟩) ?_ ?_
             rotate_left
             ·intro w'
              go_simp
              with_reducible rfl
             rotate_left
             ·simp only [Act.put, List.setIfInBounds_toArray, List.set_cons_zero, List.set_cons_succ, i64_w, i32_w]
              rfl
             refine pure_ (i := 6) (N := some 18) (v := ?_) (a' := ?_) #[true, true, true, true, true, true, true, false, false, false, false, false, false, false, false, false] rfl rfl (any_of HT_.out (by kernel_rfl)) (fun _ _ _ h => h) (Or.inl ⟨by rfl, ?_⟩) ?_ ?_
             rotate_left
             ·intro w'
              go_simp
              with_reducible rfl
             rotate_left
             ·simp only [Act.put, List.setIfInBounds_toArray, List.set_cons_zero, List.set_cons_succ, i64_w, i32_w]
              rfl
             refine pure_ (i := 8) (N := some 20) (v := ?_) (a' := ?_) #[true, true, true, true, true, true, true, false, true, false, false, false, false, false, false, false] rfl rfl (any_of HT_.out (by kernel_rfl)) (fun _ _ _ h => h) (Or.inl ⟨by rfl, ?_⟩) ?_ ?_
             rotate_left
             ·intro w'
              go_simp
              with_reducible rfl
             rotate_left
             ·simp only [Act.put, List.setIfInBounds_toArray, List.set_cons_zero, List.set_cons_succ, i64_w, i32_w]
              rfl
             refine pure_ (i := 9) (N := some 21) (v := ?_) (a' := ?_) #[true, true, true, true, true, true, true, false, true, true, false, false, false, false, false, false] rfl rfl (any_of HT_.out (by kernel_rfl)) (fun _ _ _ h => h) (Or.inl ⟨by rfl, ?_⟩) ?_ ?_
             rotate_left
             ·intro w'
              go_simp
              with_reducible rfl
             rotate_left
             ·simp only [Act.put, List.setIfInBounds_toArray, List.set_cons_zero, List.set_cons_succ, i64_w, i32_w]
              rfl
             refine pure_ (i := 10) (N := some 22) (v := ?_) (a' := ?_) #[true, true, true, true, true, true, true, false, true, true, true, false, false, false, false, false] rfl rfl (any_of HT_.out (by kernel_rfl)) (fun _ _ _ h => h) (Or.inl ⟨by rfl, ?_⟩) ?_ ?_
             rotate_left
             ·intro w'
              go_simp
              with_reducible rfl
             rotate_left
             ·simp only [Act.put, List.setIfInBounds_toArray, List.set_cons_zero, List.set_cons_succ, i64_w, i32_w]
              rfl
             refine pure_ (i := 11) (N := some 23) (v := ?_) (a' := ?_) #[true, true, true, true, true, true, true, false, true, true, true, true, false, false, false, false] rfl rfl (any_of HT_.out (by kernel_rfl)) (fun _ _ _ h => h) (Or.inl ⟨by rfl, ?_⟩) ?_ ?_
             rotate_left
             ·intro w'
              go_simp
              with_reducible rfl
             rotate_left
             ·simp only [Act.put, List.setIfInBounds_toArray, List.set_cons_zero, List.set_cons_succ, i64_w, i32_w]
              rfl
             refine pure_ (i := 12) (N := some 24) (v := ?_) (a' := ?_) #[true, true, true, true, true, true, true, false, true, true, true, true, true, false, false, false] rfl rfl (any_of HT_.out (by kernel_rfl)) (fun _ _ _ h => h) (Or.inl ⟨by rfl, ?_⟩) ?_ ?_
             rotate_left
             ·intro w'
              go_simp
              with_reducible rfl
             rotate_left
             ·simp only [Act.put, List.setIfInBounds_toArray, List.set_cons_zero, List.set_cons_succ, i64_w, i32_w]
              rfl
             refine take_ (i := 7) (N := some 19) (v := ?_) (a' := ?_) #[true, true, true, true, true, true, true, true, true, true, true, true, true, false, false, false] rfl rfl (take_ofW HT_.out HW_.out (by kernel_rfl)) (fun _ _ _ h => h) (Or.inl ⟨by rfl, ?_⟩) hHeld ?_ ?_
             rotate_left
             ·rintro w' ⟨s0, s1, s2, s3⟩
              go_simp
              with_reducible rfl
             rotate_left
             ·simp only [Act.put, List.setIfInBounds_toArray, List.set_cons_zero, List.set_cons_succ, i64_w, i32_w]
              rfl
             refine take_ (i := 13) (N := some 25) (v := ?_) (a' := ?_) #[true, true, true, true, true, true, true, true, true, true, true, true, true, true, false, false] rfl rfl (take_ofW HT_.out HW_.out (by kernel_rfl)) (fun _ _ _ h => h) (Or.inl ⟨by rfl, ?_⟩) hHeld ?_ ?_
             rotate_left
             ·rintro w' ⟨s0, s1, s2, s3⟩
              go_simp
              with_reducible rfl
             rotate_left
             ·simp only [Act.put, List.setIfInBounds_toArray, List.set_cons_zero, List.set_cons_succ, i64_w, i32_w]
              rfl
             refine pure_ (i := 14) (N := some 26) (v := ?_) (a' := ?_) #[true, true, true, true, true, true, true, true, true, true, true, true, true, true, true, false] rfl rfl (any_of HT_.out (by kernel_rfl)) (fun _ _ _ h => h) (Or.inl ⟨by rfl, ?_⟩) ?_ ?_
             rotate_left
             ·intro w'
              go_simp
              with_reducible rfl
             rotate_left
             ·simp only [Act.put, List.setIfInBounds_toArray, List.set_cons_zero, List.set_cons_succ, i64_w, i32_w]
              rfl
             refine pure_ (i := 15) (N := some 27) (v := ?_) (a' := ?_) #[true, true, true, true, true, true, true, true, true, true, true, true, true, true, true, true] rfl rfl (any_of HT_.out (by kernel_rfl)) (fun _ _ _ h => h) (Or.inl ⟨by rfl, ?_⟩) ?_ ?_
             rotate_left
             ·intro w'
              go_simp
              with_reducible rfl
             rotate_left
             ·simp only [Act.put, List.setIfInBounds_toArray, List.set_cons_zero, List.set_cons_succ, i64_w, i32_w]
              rfl
             refine done_ (done_of HT_.out (by kernel_rfl)) ?_
             try go_wp2_with (first | ((with_reducible refine gate_builtin (b := .append) (xs := #[.tmp 28, .tmp 29]) rfl ?_); at_builtin; refine Kd.S_append (Kd.slice 44 k44) (w0 := w) w.heap.size rfl (.tmp 28) (.tmp 29) 40 33 (.slice none 0 0) 24 rfl Tryd.underlying40 info33 rfl (by decide) (by omega) u3 x3_1 ([] : List (S44)) [.slice none 0 0] (fun _ => True) (fun _ => False) rfl rfl ?aP (fun k_ hk_ => hk_.elim) ?aF ?aO ?aB ?aS ?aL ?_; (case aP => exact Kd.M_row (Kd.R_nil _ _ _ _ _)); (case aB => exact (by repeat (first | (with_reducible first | exact HB.out | apply below_alloc | apply pw_below_drewN | apply below_drew1) | exact HB.out))); (case aF => exact (fun _ _ => trivial)); (case aO => exact (by (with_reducible repeat (first | apply Kd.S_alloc | apply Kd.S_drewN | apply Kd.S_drew)); exact Kd.S_mono HO_3.out (fun k_ hk => ⟨trivial, fun e_ => e_⟩))); (case aS => exact (below_size (by repeat (first | (with_reducible first | exact HB.out | apply below_alloc | apply pw_below_drewN | apply below_drew1) | exact HB.out)))); (case aL => have := LMc38.out; omega); intro v326 w45 ho hb hg hat; rw [← Ny325.out] at ho; have n0_ := Aside0.mk (hb); have n1_ := Aside0.mk (ho); clear HB; clear HO_3; have HB := n0_; have HO327 := n1_; clear n0_ n1_; clear ho hb hg hat; obtain ⟨Ao46, co46, eo46⟩ := Kd.S_slice HO327.out; subst eo46))
             have n0_ := Aside0.mk (Kd.S_drew HO327.out)
             have n1_ := Aside0.mk (below_drew1 HB.out)
             clear HO327
             clear HB
             have HO327 := n0_
             have HB := n1_
             clear n0_ n1_
             have p328 : 0 ≤ ((ji39) : Int) := of_decide_eq_true (by first | (with_reducible assumption) | assumption)
             have q328 : (ji39) < (y325.length : Int) := of_decide_eq_true (by first | (with_reducible assumption) | assumption)
             obtain ⟨ad328, A328_0, c328_0, e328, hx328_0, hl328_0, hi328_0⟩ := at_L5 (Kd.S_reads' HO327.out).2.2 (ji39) p328 q328
             cases e328
             obtain ⟨ce328, hce328, hMe328, hcc328⟩ := Kd.S_get HO327.out [] (ji39) p328 (by first | exact q328 | exact of_decide_eq_true (by first | (with_reducible assumption) | assumption) | (have e_ := (Kd.S_reads' HO327.out).1; omega))
             obtain ⟨ve328_0, rfl, ge328_0⟩ := hMe328
             have hv328_0 := hcc328 0 _ rfl
             rw [Nat.add_zero, show ((Kd.slice 44 k44)).sz = 1 from rfl, Nat.mul_one] at hv328_0
             replace hv328_0 := Option.some.inj (hv328_0.symm.trans hx328_0)
             rw [hv328_0] at ge328_0
             have HL328_0 := Aside0.mk (show Kd.R k44 44 _ _ _ _ (rd_L5 y325 (ji39)) from ge328_0)
             clear hv328_0 ge328_0
             have HX328_0 := Aside0.mk hx328_0
             clear hcc328 hce328
             have HR328_0 := Aside0.mk hi328_0
             have HC328_0 := Aside0.mk hl328_0
             clear hi328_0 hl328_0
             replace p328 := eq_true p328
             replace q328 := eq_true q328
             have p329 : 0 ≤ (x4_1 : Int) := of_decide_eq_true (by first | (with_reducible assumption) | assumption)
             have q329 : x4_1 < (l0.length : Int) := of_decide_eq_true (by first | (with_reducible assumption) | assumption)
             obtain ⟨ad329, e329, hx329_0, hx329_1⟩ := at_T44 HR0.out x4_1 p329 q329
             have hw329_1 := hx329_1
             have hw329_0 := hx329_0
             obtain rfl : ad317 = ad329 := (by injection e329)
             replace hx329_0 := (HB.out.cell (World.block_lt_of_cell? w _ hx329_0)).trans hx329_0
             replace hx329_1 := (HB.out.cell (World.block_lt_of_cell? w _ hx329_1)).trans hx329_1
             replace p329 := eq_true p329
             replace q329 := eq_true q329
             obtain ⟨go48, co48, eo48, gb48, gl48, cl48, HG48⟩ := Kd.S_form HO327.out (by have h_ : ((ji39) : Int) < ((y325.length : Int) : Int) := of_decide_eq_true (by first | (with_reducible assumption) | assumption); have h2_ : 0 ≤ ((ji39) : Int) := (of_decide_eq_true (by first | (with_reducible assumption) | assumption)); omega)
             (first | cases eo48 | (injection eo48 with ea_ en_ ec_; (first | subst ea_ | (injection ea_ with ea_; subst ea_)); subst ec_; clear en_))
             have GB48 := Aside0.mk gb48
             have GG48 := Aside0.mk HG48
             clear gb48 gl48 HG48
             (first | simp only [add_plain] at hx328_0 | skip)
             obtain ⟨oki48, ce48, hcl48, hM48, hcc48, _, _, hH48⟩ := Kd.S_elem HO327.out [] ((ji39) : Int) (of_decide_eq_true (by first | (with_reducible assumption) | assumption)) (by have h_ : ((ji39) : Int) < ((y325.length : Int) : Int) := of_decide_eq_true (by first | (with_reducible assumption) | assumption); first | exact h_ | (have e_ := (Kd.S_reads' HO327.out).1; omega) | simpa using h_)
             obtain ⟨ve48_0, rfl, ge48_0⟩ := hM48
             have hv48 := hcc48 0 _ rfl
             have hX48 := HX328_0.out
             (try simp only [add_plain] at hX48)
             (try simp only [Nat.add_zero] at hv48)
             (try rw [show ((Kd.slice 44 k44)).sz = 1 from rfl, Nat.mul_one] at hv48)
             replace hv48 := Option.some.inj (hv48.symm.trans hX48)
             subst hv48
             clear hX48 hcc48 hcl48
             have UU48 := Aside0.mk (show Kd.R k44 44 _ w.heap.size oki48 (.slice A328_0 (rd_L5 y325 (ji39)).length c328_0) (rd_L5 y325 (ji39)) from ge48_0)
             have HH48 := Aside0.mk hH48
             have HN48 := Aside0.mk (Kd.S_reads' HO327.out).1
             clear hH48 ge48_0
             refine start_ (n := 14) (S := fun w' => w'.cell? ⟨go48, ((ji39)).toNat, none⟩ = some (.slice A328_0 (rd_L5 y325 (ji39)).length c328_0) ∧ w'.cell? (ad317.add ((x4_1).toNat * 2)) = some (.int .i32 ((rd_T44 l0 x4_1).f0)) ∧ w'.cell? ⟨(ad317.add ((x4_1).toNat * 2)).block, (ad317.add ((x4_1).toNat * 2)).off + 1, none⟩ = some (.int .u8 ((rd_T44 l0 x4_1).f1))) (ds := [13]) #[false, false, false, false, false, false, false, false, false, false, false, false, false, false] (by kernel_rfl) rfl rfl ⟨hx328_0, ((HB.out.cell (World.block_lt_of_cell? w _ hw329_0)).trans hw329_0), ((HB.out.cell (World.block_lt_of_cell? w _ hw329_1)).trans hw329_1)⟩ (fun hHeld => ?_); refine with_tabW flongref03_Runs.tab8 flongref03_Runs.bits8 (fun HT_ HW_ => ?_)
             generalize w45.drew = w47 at HO327 HB GG48 HH48 HL328_0 HR328_0 HX328_0 UU48 hx328_0 hx329_0 hx329_1 hHeld ⊢
             refine pure_ (i := 0) (N := some 34) (v := ?_) (a' := ?_) #[true, false, false, false, false, false, false, false, false, false, false, false, false, false] rfl rfl (any_of HT_.out (by kernel_rfl)) (fun _ _ _ h => h) (Or.inl ⟨by rfl, ?_⟩) ?_ ?_
             rotate_left
             ·intro w'
              go_simp
              with_reducible rfl
             rotate_left
             ·simp only [Act.put, List.setIfInBounds_toArray, List.set_cons_zero, List.set_cons_succ, i64_w, i32_w]
              rfl
             refine pure_ (i := 1) (N := some 35) (v := ?_) (a' := ?_) #[true, true, false, false, false, false, false, false, false, false, false, false, false, false] rfl rfl (any_of HT_.out (by kernel_rfl)) (fun _ _ _ h => h) (Or.inl ⟨by rfl, ?_⟩) ?_ ?_
             rotate_left
             ·intro w'
              go_simp
              with_reducible rfl
             rotate_left
             ·simp only [Act.put, List.setIfInBounds_toArray, List.set_cons_zero, List.set_cons_succ, i64_w, i32_w]
              rfl
             refine pure_ (i := 2) (N := some 36) (v := ?_) (a' := ?_) #[true, true, true, false, false, false, false, false, false, false, false, false, false, false] rfl rfl (any_of HT_.out (by kernel_rfl)) (fun _ _ _ h => h) (Or.inl ⟨by rfl, ?_⟩) ?_ ?_
             rotate_left
             ·intro w'
              go_simp
              with_reducible rfl
             rotate_left
             ·simp only [Act.put, List.setIfInBounds_toArray, List.set_cons_zero, List.set_cons_succ, i64_w, i32_w]
              rfl
             refine pure_ (i := 3) (N := some 37) (v := ?_) (a' := ?_) #[true, true, true, true, false, false, false, false, false, false, false, false, false, false] rfl rfl (any_of HT_.out (by kernel_rfl)) (fun _ _ _ h => h) (Or.inl ⟨by rfl, ?_⟩) ?_ ?_
             rotate_left
             ·intro w'
              go_simp
              with_reducible rfl
             rotate_left
             ·simp only [Act.put, List.setIfInBounds_toArray, List.set_cons_zero, List.set_cons_succ, i64_w, i32_w]
              rfl
             refine pure_ (i := 4) (N := some 38) (v := ?_) (a' := ?_) #[true, true, true, true, true, false, false, false, false, false, false, false, false, false] rfl rfl (any_of HT_.out (by kernel_rfl)) (fun _ _ _ h => h) (Or.inl ⟨by rfl, ?_⟩) ?_ ?_
             rotate_left
             ·intro w'
              go_simp
              with_reducible rfl
             rotate_left
             ·simp only [Act.put, List.setIfInBounds_toArray, List.set_cons_zero, List.set_cons_succ, i64_w, i32_w]
              rfl
             refine pure_ (i := 6) (N := some 40) (v := ?_) (a' := ?_) #[true, true, true, true, true, false, true, false, false, false, false, false, false, false] rfl rfl (any_of HT_.out (by kernel_rfl)) (fun _ _ _ h => h) (Or.inl ⟨by rfl, ?_⟩) ?_ ?_
             rotate_left
             ·intro w'
              go_simp
              with_reducible rfl
             rotate_left
             ·simp only [Act.put, List.setIfInBounds_toArray, List.set_cons_zero, List.set_cons_succ, i64_w, i32_w]
              rfl
             refine pure_ (i := 7) (N := some 41) (v := ?_) (a' := ?_) #[true, true, true, true, true, false, true, true, false, false, false, false, false, false] rfl rfl (any_of HT_.out (by kernel_rfl)) (fun _ _ _ h => h) (Or.inl ⟨by rfl, ?_⟩) ?_ ?_
             rotate_left
             ·intro w'
              go_simp
              with_reducible rfl
             rotate_left
             ·simp only [Act.put, List.setIfInBounds_toArray, List.set_cons_zero, List.set_cons_succ, i64_w, i32_w]
              rfl
             refine pure_ (i := 8) (N := some 42) (v := ?_) (a' := ?_) #[true, true, true, true, true, false, true, true, true, false, false, false, false, false] rfl rfl (any_of HT_.out (by kernel_rfl)) (fun _ _ _ h => h) (Or.inl ⟨by rfl, ?_⟩) ?_ ?_
             rotate_left
             ·intro w'
              go_simp
              with_reducible rfl
             rotate_left
             ·simp only [Act.put, List.setIfInBounds_toArray, List.set_cons_zero, List.set_cons_succ, i64_w, i32_w]
              rfl
             refine take_ (i := 5) (N := some 39) (v := ?_) (a' := ?_) #[true, true, true, true, true, true, true, true, true, false, false, false, false, false] rfl rfl (take_ofW HT_.out HW_.out (by kernel_rfl)) (fun _ _ _ h => h) (Or.inl ⟨by rfl, ?_⟩) hHeld ?_ ?_
             rotate_left
             ·rintro w' ⟨s0, s1, s2⟩
              go_simp
              with_reducible rfl
             rotate_left
             ·simp only [Act.put, List.setIfInBounds_toArray, List.set_cons_zero, List.set_cons_succ, i64_w, i32_w]
              rfl
             refine take_ (i := 9) (N := some 43) (v := ?_) (a' := ?_) #[true, true, true, true, true, true, true, true, true, true, false, false, false, false] rfl rfl (take_ofW HT_.out HW_.out (by kernel_rfl)) (fun _ _ _ h => h) (Or.inl ⟨by rfl, ?_⟩) hHeld ?_ ?_
             rotate_left
             ·rintro w' ⟨s0, s1, s2⟩
              go_simp
              with_reducible rfl
             rotate_left
             ·simp only [Act.put, List.setIfInBounds_toArray, List.set_cons_zero, List.set_cons_succ, i64_w, i32_w]
              rfl
             refine one_ (i := 10) (N := some 44) #[true, true, true, true, true, true, true, true, true, true, true, false, false, false] rfl rfl (one_of HT_.out (by kernel_rfl)) (by decide) (fun K hK => ?_)
             refine value_ (w1 := ?_) (v := ?_) (by rfl) rfl ?_ ?_
             rotate_left 2
             ·go_simp
              constructor
              ·rfl
              ·rfl
             refine hK.out _ _ ⟨(World.cell?_alloc_lt _ _ _ (World.block_lt_of_cell? _ _ (hHeld.1))).trans (hHeld.1), (World.cell?_alloc_lt _ _ _ (World.block_lt_of_cell? _ _ (((HB.out.cell (World.block_lt_of_cell? w _ hw329_0)).trans hw329_0)))).trans (((HB.out.cell (World.block_lt_of_cell? w _ hw329_0)).trans hw329_0)), (World.cell?_alloc_lt _ _ _ (World.block_lt_of_cell? _ _ (((HB.out.cell (World.block_lt_of_cell? w _ hw329_1)).trans hw329_1)))).trans (((HB.out.cell (World.block_lt_of_cell? w _ hw329_1)).trans hw329_1))⟩ (fun hHeld => ?_)
             clear hK K
             refine norm_ (a' := ?_) ?_ ?_
             rotate_left
             ·show Act.put _ (some 44) _ = _
              simp only [Act.put, List.setIfInBounds_toArray, List.set_cons_zero, List.set_cons_succ, i64_w, i32_w]
              rfl
             refine one_ (i := 11) (N := some 45) #[true, true, true, true, true, true, true, true, true, true, true, true, false, false] rfl rfl (one_of HT_.out (by kernel_rfl)) (by decide) (fun K hK => ?_)
             refine Kd.R_append_step k44 (w0 := w) w.heap.size (by rfl) (.tmp 39) (.tmp 44) 33 44 (.agg #[(.int .i32 0), (.int .u8 0)]) 8 rfl Tryd.underlying33 info44 rfl (by decide) (by omega) (.slice A328_0 (rd_L5 y325 (ji39)).length c328_0) (rd_L5 y325 (ji39)) (⟨(rd_T44 l0 x4_1).f0, (rd_T44 l0 x4_1).f1⟩ : S44) [.int .i32 ((rd_T44 l0 x4_1).f0), .int .u8 ((rd_T44 l0 x4_1).f1)] (fun k_ => oki48 k_ ∨ ((fun _ => True)) k_ ∧ w47.heap.size ≤ k_) (fun _ => False) rfl rfl ?aP (fun _ hk => hk.elim) ?aF ?aO ?aB ?aS ?aL ?_
             (case aP => exact k44_mkM _ _ _ (⟨(rd_T44 l0 x4_1).f0, (rd_T44 l0 x4_1).f1⟩ : S44))
             (case aB => exact (by repeat (first | (with_reducible first | exact HB.out | apply below_alloc | apply pw_below_drewN | apply below_drew1) | exact HB.out)))
             (case aF => exact (fun k_ hk => .inr ⟨trivial, hk⟩))
             (case aO => exact (by (with_reducible repeat (first | apply Kd.R_alloc | apply Kd.R_drewN | apply Kd.R_drew)); exact Kd.R_mono UU48.out (fun _ hk => .inl hk)))
             (case aS => exact (below_size (by repeat (first | (with_reducible first | exact HB.out | apply below_alloc | apply pw_below_drewN | apply below_drew1) | exact HB.out))))
             (case aL => have := LMc42.out; omega)
             intro v331 w49 ho hb hg hat
             (first | have HS0_ := cell_grown hg (hHeld.1) (by first | (rw [add_block]; exact (fun e_ => ((HL328_0.out.1 _ e_.symm).2) rfl)) | (show some (Addr.add _ _).block ≠ _; rw [add_block]; exact (fun e_ => ((HL328_0.out.1 _ e_.symm).2) rfl)) | exact (fun e_ => ((HL328_0.out.1 _ e_.symm).2) rfl)) | have HS0_ := cell_grown hg (cell_unalloc (hHeld.1) (by first | (rw [add_block]; exact Kd.S_lt HO327.out _ rfl) | (show (Addr.add _ _).block < _; rw [add_block]; exact Kd.S_lt HO327.out _ rfl) | exact Kd.S_lt HO327.out _ rfl)) (by first | (rw [add_block]; exact (fun e_ => ((HL328_0.out.1 _ e_.symm).2) rfl)) | (show some (Addr.add _ _).block ≠ _; rw [add_block]; exact (fun e_ => ((HL328_0.out.1 _ e_.symm).2) rfl)) | exact (fun e_ => ((HL328_0.out.1 _ e_.symm).2) rfl)))
             rw [← Ny330.out] at ho
             have n0_ := Aside0.mk (hb)
             have n1_ := Aside0.mk (Kd.H_grown (Kd.H_widen (by repeat (first | exact HH48.out | refine Kd.H_alloc ?_ _ | refine Kd.H_drewN ?_ _ | refine Kd.H_drew ?_))) hg (fun k_ e_ => .inl (UU48.out.1 k_ e_)))
             have n2_ := Aside0.mk (ho)
             clear HB
             clear HH48
             clear HO327
             clear UU48
             clear HL328_0
             have HB := n0_
             have HH48 := n1_
             have HO332 := n2_
             clear n0_ n1_ n2_
             clear ho hb hg hat
             have p43 : 0 ≤ ((ji39) : Int) := of_decide_eq_true (by first | (with_reducible assumption) | assumption)
             have q43 : ((ji39) : Int) < ((y325.length : Int) : Int) := of_decide_eq_true (by first | (with_reducible assumption) | assumption)
             replace p43 := eq_true p43
             replace q43 := eq_true q43
             obtain ⟨Ao52, co52, eo52⟩ := Kd.R_slice HO332.out
             (first | subst eo52 | (injection eo52 with f1_ f2_ f3_; have f4_ := f1_.symm; have f5_ := f3_.symm; clear f1_ f2_ f3_; subst f4_; subst f5_))
             obtain ⟨_, _, hraw50, _, _, hcc50, _⟩ := Kd.H_raw HH48.out (of_decide_eq_true (by first | (with_reducible assumption) | assumption)) (by have h_ : ((ji39) : Int) < ((y325.length : Int) : Int) := of_decide_eq_true (by first | (with_reducible assumption) | assumption); first | exact h_ | (have e_ := (HN48.out); omega) | simpa using h_)
             obtain ⟨_, hfr50⟩ := Kd.H_at HH48.out (of_decide_eq_true (by first | (with_reducible assumption) | assumption)) (by have h_ : ((ji39) : Int) < ((y325.length : Int) : Int) := of_decide_eq_true (by first | (with_reducible assumption) | assumption); first | exact h_ | (have e_ := (HN48.out); omega) | simpa using h_)
             have hx50_0 := hcc50 0 _ rfl
             have hf50_0 := hfr50 0
             (try simp only [Nat.add_zero] at hx50_0 hf50_0)
             (try rw [show ((Kd.slice 44 k44)).sz = 1 from rfl, Nat.mul_one] at hx50_0)
             (try rw [show ((Kd.slice 44 k44)).sz = 1 from rfl, Nat.mul_one] at hf50_0)
             have HP50 := Kd.S_seg0 HH48.out (of_decide_eq_true (by first | (with_reducible assumption) | assumption)) (by have h_ : ((ji39) : Int) < ((y325.length : Int) : Int) := of_decide_eq_true (by first | (with_reducible assumption) | assumption); first | exact h_ | (have e_ := (HN48.out); omega) | simpa using h_) (seg := [.slice Ao52 y330.length co52]) (j := 0) (show 1 ≤ 1 from by decide) (x' := y330) (Kd.M_row HO332.out) (fun _ hk => hk)
             (try simp only [show ((Kd.slice 44 k44)).sz = 1 from rfl, Nat.mul_one, Nat.add_zero] at HP50)
             clear hcc50 hfr50
             have HS50 := HP50.1
             rw [← Ny333.out] at HS50
             have HQ50 := Aside0.mk HS50
             obtain ⟨_, hgg50⟩ := Kd.R_typed hraw50 go48 rfl
             have GG50_ := Aside0.mk hgg50
             clear HP50 HS50 hgg50
             refine hK.out _ _ ⟨HS0_, ((HB.out.cell (World.block_lt_of_cell? w _ hw329_0)).trans hw329_0), ((HB.out.cell (World.block_lt_of_cell? w _ hw329_1)).trans hw329_1)⟩ (fun hHeld => ?_)
             clear hK K
             refine norm_ (a' := ?_) ?_ ?_
             rotate_left
             ·show Act.put _ (some 45) _ = _
              simp only [Act.put, List.setIfInBounds_toArray, List.set_cons_zero, List.set_cons_succ, i64_w, i32_w]
              rfl
             refine pure_ (i := 12) (N := some 46) (v := ?_) (a' := ?_) #[true, true, true, true, true, true, true, true, true, true, true, true, true, false] rfl rfl (any_of HT_.out (by kernel_rfl)) (fun _ _ _ h => h) (Or.inl ⟨by rfl, ?_⟩) ?_ ?_
             rotate_left
             ·intro w'
              go_simp
              with_reducible rfl
             rotate_left
             ·simp only [Act.put, List.setIfInBounds_toArray, List.set_cons_zero, List.set_cons_succ, i64_w, i32_w]
              rfl
             refine last_ (i := 13) (N := none) #[true, true, true, true, true, true, true, true, true, true, true, true, true, true] rfl rfl (one_of HT_.out (by kernel_rfl)) (by decide) (fun K hK => ?_)
             refine skip_ (w1 := ?_) (by rfl) rfl ?_ ?_
             rotate_left
             ·go_simp
              rfl
             refine hK.out _ _ ?_
             clear hK K
             refine done_ (done_of HT_.out (by kernel_rfl)) ?_
             try go_wp2
             go_roundg k1
             case measure => have := HK1.out; omega
             case rel => exact ⟨(y333), (wrap64 (x4_1 + 1)), (by first | rfl | (simp; done) | (simp [*]; done)), H', ⟨by have := HK1.out; omega⟩, ⟨by (with_reducible repeat (first | apply Kd.S_alloc | apply Kd.S_drewN | apply Kd.S_drew)); exact HQ50.out⟩, ⟨by repeat (first | (with_reducible first | exact HB.out | apply below_alloc | apply pw_below_drewN | apply below_drew1 | refine below_set ?_ GB48.out) | exact HB.out)⟩⟩
            ·rw [if_neg c42] at H
             exact absurd H (by simp)
           ·rw [if_neg c41] at H
            exact absurd H (by simp)
          ·rw [if_neg c40] at H
           exact absurd H (by simp)
         ·rw [if_neg c38] at H
          exact absurd H (by simp)
       ·rw [if_neg c23] at H
        exact absurd H (by simp)
      ·rw [if_neg c22] at H
       exact absurd H (by simp)
     ·rw [if_neg c20] at H
      exact absurd H (by simp)
   ·rw [if_neg c2] at H
    have c2b0 : decide (x4_1 < (l0.length : Int)) = false := decide_eq_false c2
    clear c2
    obtain rfl := Option.some.inj H
    go_wp2
    go_ret
    exact ⟨_, by first | rfl | (simp [errW_none, errW_some] <;> rfl) | (simp [*, errW_none, errW_some] <;> rfl), by (with_reducible repeat (first | apply Kd.S_alloc | apply Kd.S_drewN | apply Kd.S_drew)); exact HO_3.out, by repeat (first | (with_reducible first | exact HB.out | apply below_alloc | apply pw_below_drewN | apply below_drew1) | exact HB.out)⟩

end Go.Proofs.YtdjepocklmlnbaaDoor.X
