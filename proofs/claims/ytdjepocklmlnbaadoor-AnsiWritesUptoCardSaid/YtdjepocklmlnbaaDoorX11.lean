-- Written by this session's xprint.py (a variant of the kit's printer). Not trusted: Lean checks it.
import Derived.Test.YtdjepocklmlnbaaDoorX0
import Derived.Test.YtdjepocklmlnbaaDoorX3
import Derived.Test.YtdjepocklmlnbaaDoorX5
import Derived.Test.YtdjepocklmlnbaaDoorX6
import Derived.Test.YtdjepocklmlnbaaDoorX8
import Derived.Test.YtdjepocklmlnbaaDoorX10
import Derived.Test.YtdjepocklmlnbaaDoorHandA
import Derived.Test.YtdjepocklmlnbaaDoorHandW
namespace Go.Proofs.YtdjepocklmlnbaaDoor.X
open Go.Proofs.YtdjepocklmlnbaaDoor.Hand
open Go.RowKit Go.Proofs.YtdjepocklmlnbaaDoorW.PrintWords Go.Proofs.YtdjepocklmlnbaaDoorW.PrintLast Go.Proofs.YtdjepocklmlnbaaDoorW.PrintMore
attribute [local go_sem] max2_int min2_int max_two min_two max_three min_three max_four min_four   -- for this text's walks alone
set_option linter.unusedVariables false
set_option maxHeartbeats 8000000
set_option maxRecDepth 100000
set_option linter.unusedSimpArgs false

/-! ### flonglaw19_AnsiWrites: function 4 -/
def flonglaw19_AnsiWrites.l0 : Nat → List (S35) → Int → Int → Option (Bool)
 | 0, _, _, _ => none
 | k + 1, x0, x1, x5 => if x5 < (x0.length : Int) then (if 0 ≤ x5 then ((ansi_Row.f k ((rd_T35 x0 x5).f1)).bind fun t398 => ((flongref19_Row.f k ((rd_T35 x0 x5).f1)).bind fun t402 => ((flongref00_Same.f t398 t402).bind fun t405 => (if t405 = true then (flonglaw19_AnsiWrites.l0 k x0 x1 (wrap64 (x5 + 1))) else (some false))))) else (none)) else ((ansi_Write.f k x0).bind fun t406 => ((flongref19_Write.f k x0).bind fun t409 => ((flongref00_Same.f t406 t409).bind fun t412 => (if t412 = true then ((ansi_Sign.f x1).bind fun t413 => ((flongref19_Sign.f x1).bind fun t414 => (if t413.toList = t414.toList then ((flonglaw19_known.f k).bind fun t415 => (some t415)) else (some false)))) else (some false)))))
def flonglaw19_AnsiWrites.f (k : Nat) (l0 : List (S35)) (a1 : Int) : Option (Bool) := (flongref17_Long.f k l0).bind fun t395 => (if t395 = true then ((flonglaw19_known.f k).bind fun t396 => (some t396)) else (flonglaw19_AnsiWrites.l0 k l0 a1 0))
theorem flonglaw19_AnsiWrites.mono_l : ∀ k, (∀ y0 y1 y2, LeO (flonglaw19_AnsiWrites.l0 k y0 y1 y2) (flonglaw19_AnsiWrites.l0 (k + 1) y0 y1 y2))
 | 0 => fun _ _ _ r h => by simp [flonglaw19_AnsiWrites.l0] at h
 | k + 1 => by
  have ih0 := flonglaw19_AnsiWrites.mono_l k
  ·intro y0 y1 y2
   unfold flonglaw19_AnsiWrites.l0
   repeat' first
   | (with_reducible exact ih0 _ _ _)
   | (with_reducible exact ansi_Row.mono _ _)
   | (with_reducible exact ansi_Write.mono _ _)
   | (with_reducible exact flonglaw19_known.mono _)
   | (with_reducible exact flongref17_Long.mono _ _)
   | (with_reducible exact flongref19_Row.mono _ _)
   | (with_reducible exact flongref19_Write.mono _ _)
   | (with_reducible exact LeO.refl _)
   | (with_reducible exact LeO.none _)
   | (with_reducible refine LeO.ite ?_ ?_)
   | (with_reducible refine LeO.bind ?_ (fun _ => ?_))
theorem flonglaw19_AnsiWrites.mono : ∀ a0 a1 k, LeO (flonglaw19_AnsiWrites.f k a0 a1) (flonglaw19_AnsiWrites.f (k + 1) a0 a1) := by
 intro a0 a1 k
 have ih0 := flonglaw19_AnsiWrites.mono_l k
 unfold flonglaw19_AnsiWrites.f
 repeat' first
   | (with_reducible exact ih0 _ _ _)
   | (with_reducible exact ansi_Row.mono _ _)
   | (with_reducible exact ansi_Write.mono _ _)
   | (with_reducible exact flonglaw19_known.mono _)
   | (with_reducible exact flongref17_Long.mono _ _)
   | (with_reducible exact flongref19_Row.mono _ _)
   | (with_reducible exact flongref19_Write.mono _ _)
   | (with_reducible exact LeO.refl _)
   | (with_reducible exact LeO.none _)
   | (with_reducible refine LeO.ite ?_ ?_)
   | (with_reducible refine LeO.bind ?_ (fun _ => ?_))
def flonglaw19_AnsiWrites.T6 : Bool × List (List Nat × List Nat) := (true, [([], []), ([], []), ([0, 1], [0, 1]), ([2], [2]), ([3], [3]), ([4], [4]), ([], []), ([], []), ([6, 7], [6, 7]), ([8], [8]), ([9], [9]), ([10, 5], [10]), ([5, 11, 11], [5, 11]), ([12], [12])])
def flonglaw19_AnsiWrites.B6 : List Nat := [0, 0, 3, 7, 15, 31, 0, 0, 192, 448, 960, 2047, 4095, 8191]
theorem flonglaw19_AnsiWrites.tab6 : rtab .any (opsOf Tryd.f4 6) = flonglaw19_AnsiWrites.T6 := by kernel_rfl
theorem flonglaw19_AnsiWrites.bits6 : waitsOk flonglaw19_AnsiWrites.T6.2 flonglaw19_AnsiWrites.B6 = true := by kernel_rfl
theorem flonglaw19_AnsiWrites.calls (k : Nat) (A0 : Option Addr) (c0 : Nat) (l0 : List (S35)) (a1 : Int) (r : Bool) (w : World) (hr0 : Kd.C k35 w A0 l0.length l0) (hc0 : l0.length ≤ c0) (hG : GOK [0,1,2] w) (h : flonglaw19_AnsiWrites.f k l0 a1 = some r) :
  Calls Tryd.prog 4 #[.slice A0 l0.length c0, .int .u8 a1] w fun e w' => e = .returned (.bool r) ∧ Below w.heap.size w w' := by
 have HG := Aside0.mk hG
 clear hG
 have HR0 := Aside0.mk hr0
 have HC0 := Aside0.mk hc0
 clear hr0 hc0
 have HB := Aside0.mk (Below.refl w.heap.size w)
 have H : ((flongref17_Long.f k l0).bind fun t395 => (if t395 = true then ((flonglaw19_known.f k).bind fun t396 => (some t396)) else (flonglaw19_AnsiWrites.l0 k l0 a1 0))) = some r := h
 clear h
 replace H := Option.bind_eq_some_iff.mp H
 obtain ⟨t395, A30, H⟩ := H
 replace H : (if t395 = true then ((flonglaw19_known.f k).bind fun t396 => (some t396)) else (flonglaw19_AnsiWrites.l0 k l0 a1 0)) = some r := H
 have A3 := Aside0.mk A30
 clear A30
 by_cases c4 : t395 = true
 ·subst c4
  have H1 : ((flonglaw19_known.f k).bind fun t396 => (some t396)) = some r := by rw [if_pos rfl] at H; exact H
  clear H
  have H := H1
  clear H1
  replace H := Option.bind_eq_some_iff.mp H
  obtain ⟨t396, A50, H⟩ := H
  replace H : (some t396) = some r := H
  have A5 := Aside0.mk A50
  clear A50
  obtain rfl := Option.some.inj H
  go_enter Tryd.func4, Tryd.ntmps4
  go_wp2_with (first | ((with_reducible refine gate_callee (f := 15) rfl ?_); refine goesL_ (some 7) rfl rfl Tryd.func15 (by kernel_rfl) rfl #[.slice A0 l0.length c0] rfl (by (try simp only [List.map_toArray, List.map_cons, List.map_nil]); first | done | rfl | (simp only [List.length_drop, List.length_take]; rfl)) ?_; (with_reducible refine (flongref17_Long.calls k _ _ l0 true _ ?side1 ?side2 A3.out).mono ?_); (case side1 => repeat (first | exact HR0.out | (with_reducible refine Kd.C_alloc ?_ _) | (with_reducible refine Kd.C_drewN ?_ _) | (with_reducible refine Kd.C_drew ?_))); (case side2 => exact HC0.out); rintro e w' ⟨rfl, ⟨nd, rfl⟩⟩; refine ⟨_, rfl, ?_⟩) | ((with_reducible refine gate_callee (f := 10) rfl ?_); refine goesL_ (some 8) rfl rfl Tryd.func10 (by kernel_rfl) rfl #[] rfl (by (try simp only [List.map_toArray, List.map_cons, List.map_nil]); first | done | rfl | (simp only [List.length_drop, List.length_take]; rfl)) ?_; (with_reducible refine (flonglaw19_known.calls k  t396 _ ?side1 A5.out).mono ?_); (case side1 => exact GOK.of_below (GOK.sub HG.out rfl) (by repeat (first | (with_reducible first | exact HB.out | apply below_alloc | apply pw_below_drewN | apply below_drew1) | exact HB.out))); rintro e w6 ⟨rfl, hb⟩; refine ⟨_, rfl, ?_⟩; have n0_ := Aside0.mk (below_step (by repeat (first | (with_reducible first | exact HB.out | apply below_alloc | apply pw_below_drewN | apply below_drew1) | exact HB.out)) hb); clear HB; have HB := n0_; clear n0_; (try clear hb); (try clear hb2); (try clear hk); (try clear hi)))
  go_ret
  exact ⟨by first | rfl | (simp [errW_none, errW_some] <;> rfl) | (simp [*, errW_none, errW_some] <;> rfl), by repeat (first | (with_reducible first | exact HB.out | apply below_alloc | apply pw_below_drewN | apply below_drew1) | exact HB.out)⟩
 ·replace c4 := Bool.eq_false_iff.mpr c4
  subst c4
  have H1 : (flonglaw19_AnsiWrites.l0 k l0 a1 0) = some r := by rw [if_neg (show ¬ (false = true) by decide)] at H; exact H
  clear H
  have H := H1
  clear H1
  have H' := Aside0.mk H
  clear H
  go_enter Tryd.func4, Tryd.ntmps4
  go_wp2_with (first | ((with_reducible refine gate_callee (f := 15) rfl ?_); refine goesL_ (some 7) rfl rfl Tryd.func15 (by kernel_rfl) rfl #[.slice A0 l0.length c0] rfl (by (try simp only [List.map_toArray, List.map_cons, List.map_nil]); first | done | rfl | (simp only [List.length_drop, List.length_take]; rfl)) ?_; (with_reducible refine (flongref17_Long.calls k _ _ l0 false _ ?side1 ?side2 A3.out).mono ?_); (case side1 => repeat (first | exact HR0.out | (with_reducible refine Kd.C_alloc ?_ _) | (with_reducible refine Kd.C_drewN ?_ _) | (with_reducible refine Kd.C_drew ?_))); (case side2 => exact HC0.out); rintro e w' ⟨rfl, ⟨nd, rfl⟩⟩; refine ⟨_, rfl, ?_⟩))
  go_loopg [5] k (fun kq v5 w' => ∃ (x5_1 : Int), v5 = .int .i64 x5_1 ∧ Aside0 (flonglaw19_AnsiWrites.l0 kq l0 a1 x5_1 = some r) ∧ Aside0 (kq ≤ k) ∧ Aside0 (Below w.heap.size w w'))
  case atStart => exact ⟨(0), (by first | rfl | (simp; done) | (simp [*]; done)), H', ⟨Nat.le_refl _⟩, ⟨by repeat (first | (with_reducible first | exact HB.out | apply below_alloc | apply pw_below_drewN | apply below_drew1) | exact HB.out)⟩⟩
  case round =>
   clear H'
   try clear c1
   try clear p2
   try clear c4
   obtain ⟨x5_1, rfl, HA, HK1, HB⟩ := hrel
   cases gk with
   | zero => exact absurd HA.out (by simp [flonglaw19_AnsiWrites.l0])
   | succ k1 =>
    have H := HA.out
    clear HA
    simp only [flonglaw19_AnsiWrites.l0] at H
    by_cases c7 : x5_1 < (l0.length : Int)
    ·rw [if_pos c7] at H
     have c7b0 : decide (x5_1 < (l0.length : Int)) = true := decide_eq_true c7
     clear c7
     by_cases c8 : 0 ≤ x5_1
     ·rw [if_pos c8] at H
      have c8b0 : decide (0 ≤ x5_1) = true := decide_eq_true c8
      clear c8
      replace H := Option.bind_eq_some_iff.mp H
      obtain ⟨t398, A90, H⟩ := H
      replace H : ((flongref19_Row.f k1 ((rd_T35 l0 x5_1).f1)).bind fun t402 => ((flongref00_Same.f t398 t402).bind fun t405 => (if t405 = true then (flonglaw19_AnsiWrites.l0 k1 l0 a1 (wrap64 (x5_1 + 1))) else (some false)))) = some r := H
      have A9 := Aside0.mk A90
      clear A90
      replace H := Option.bind_eq_some_iff.mp H
      obtain ⟨t402, A100, H⟩ := H
      replace H : ((flongref00_Same.f t398 t402).bind fun t405 => (if t405 = true then (flonglaw19_AnsiWrites.l0 k1 l0 a1 (wrap64 (x5_1 + 1))) else (some false))) = some r := H
      have A10 := Aside0.mk A100
      clear A100
      replace H := Option.bind_eq_some_iff.mp H
      obtain ⟨t405, A110, H⟩ := H
      replace H : (if t405 = true then (flonglaw19_AnsiWrites.l0 k1 l0 a1 (wrap64 (x5_1 + 1))) else (some false)) = some r := H
      have A11 := Aside0.mk A110
      clear A110
      by_cases c12 : t405 = true
      ·subst c12
       have H1 : (flonglaw19_AnsiWrites.l0 k1 l0 a1 (wrap64 (x5_1 + 1))) = some r := by rw [if_pos rfl] at H; exact H
       clear H
       have H := H1
       clear H1
       have H' := Aside0.mk H
       clear H
       try go_wp2
       have n0_ := Aside0.mk (below_drew1 HB.out)
       clear HB
       have HB := n0_
       clear n0_
       have p397 : 0 ≤ (x5_1 : Int) := of_decide_eq_true (by first | (with_reducible assumption) | assumption)
       have q397 : x5_1 < (l0.length : Int) := of_decide_eq_true (by first | (with_reducible assumption) | assumption)
       obtain ⟨ad397, A397_1, c397_1, e397, hx397_0, hx397_1, hx397_2, hl397_1, hi397_1⟩ := at_T35 HR0.out x5_1 p397 q397
       have hw397_2 := hx397_2
       have hw397_1 := hx397_1
       have hw397_0 := hx397_0
       cases e397
       replace hx397_0 := (HB.out.cell (World.block_lt_of_cell? w _ hx397_0)).trans hx397_0
       replace hx397_1 := (HB.out.cell (World.block_lt_of_cell? w _ hx397_1)).trans hx397_1
       replace hx397_2 := (HB.out.cell (World.block_lt_of_cell? w _ hx397_2)).trans hx397_2
       have HR397_1 := Aside0.mk hi397_1
       have HC397_1 := Aside0.mk hl397_1
       clear hi397_1 hl397_1
       replace p397 := eq_true p397
       replace q397 := eq_true q397
       have p401 : 0 ≤ (x5_1 : Int) := of_decide_eq_true (by first | (with_reducible assumption) | assumption)
       have q401 : x5_1 < (l0.length : Int) := of_decide_eq_true (by first | (with_reducible assumption) | assumption)
       obtain ⟨ad401, A401_1, c401_1, e401, hx401_0, hx401_1, hx401_2, hl401_1, hi401_1⟩ := at_T35 HR0.out x5_1 p401 q401
       have hw401_2 := hx401_2
       have hw401_1 := hx401_1
       have hw401_0 := hx401_0
       obtain rfl : ad397 = ad401 := (by injection e401)
       replace hx401_0 := (HB.out.cell (World.block_lt_of_cell? w _ hx401_0)).trans hx401_0
       replace hx401_1 := (HB.out.cell (World.block_lt_of_cell? w _ hx401_1)).trans hx401_1
       replace hx401_2 := (HB.out.cell (World.block_lt_of_cell? w _ hx401_2)).trans hx401_2
       have HR401_1 := Aside0.mk hi401_1
       have HC401_1 := Aside0.mk hl401_1
       clear hi401_1 hl401_1
       replace p401 := eq_true p401
       replace q401 := eq_true q401
       have ea_ := Option.some.inj (hx397_1.symm.trans hx401_1)
       injection ea_ with ea_ en_ ec_
       subst ea_
       subst ec_
       clear en_
       refine start_ (n := 14) (S := fun w' => w'.cell? (ad397.add ((x5_1).toNat * 3)) = some (.int .i64 ((rd_T35 l0 x5_1).f0)) ∧ w'.cell? ⟨(ad397.add ((x5_1).toNat * 3)).block, (ad397.add ((x5_1).toNat * 3)).off + 1, none⟩ = some (.slice A397_1 ((rd_T35 l0 x5_1).f1).length c397_1) ∧ w'.cell? ⟨(ad397.add ((x5_1).toNat * 3)).block, (ad397.add ((x5_1).toNat * 3)).off + 2, none⟩ = some (.bool ((rd_T35 l0 x5_1).f2)) ∧ w'.cell? (ad397.add ((x5_1).toNat * 3)) = some (.int .i64 ((rd_T35 l0 x5_1).f0)) ∧ w'.cell? ⟨(ad397.add ((x5_1).toNat * 3)).block, (ad397.add ((x5_1).toNat * 3)).off + 1, none⟩ = some (.slice A397_1 ((rd_T35 l0 x5_1).f1).length c397_1) ∧ w'.cell? ⟨(ad397.add ((x5_1).toNat * 3)).block, (ad397.add ((x5_1).toNat * 3)).off + 2, none⟩ = some (.bool ((rd_T35 l0 x5_1).f2))) (ds := []) #[false, false, false, false, false, false, false, false, false, false, false, false, false, false] (by kernel_rfl) rfl rfl ⟨((HB.out.cell (World.block_lt_of_cell? w _ hw397_0)).trans hw397_0), ((HB.out.cell (World.block_lt_of_cell? w _ hw397_1)).trans hw397_1), ((HB.out.cell (World.block_lt_of_cell? w _ hw397_2)).trans hw397_2), ((HB.out.cell (World.block_lt_of_cell? w _ hw401_0)).trans hw401_0), ((HB.out.cell (World.block_lt_of_cell? w _ hw401_1)).trans hw401_1), ((HB.out.cell (World.block_lt_of_cell? w _ hw401_2)).trans hw401_2)⟩ (fun hHeld => ?_); refine with_tabW flonglaw19_AnsiWrites.tab6 flonglaw19_AnsiWrites.bits6 (fun HT_ HW_ => ?_)
       generalize wr.drew = w13 at HB HR397_1 HR401_1 hx397_0 hx397_1 hx397_2 hx401_0 hx401_1 hx401_2 hHeld ⊢
       refine pure_ (i := 0) (N := some 15) (v := ?_) (a' := ?_) #[true, false, false, false, false, false, false, false, false, false, false, false, false, false] rfl rfl (any_of HT_.out (by kernel_rfl)) (fun _ _ _ h => h) (Or.inl ⟨by rfl, ?_⟩) ?_ ?_
       rotate_left
       ·intro w'
        go_simp
        with_reducible rfl
       rotate_left
       ·simp only [Act.put, List.setIfInBounds_toArray, List.set_cons_zero, List.set_cons_succ, i64_w, i32_w]
        rfl
       refine pure_ (i := 1) (N := some 16) (v := ?_) (a' := ?_) #[true, true, false, false, false, false, false, false, false, false, false, false, false, false] rfl rfl (any_of HT_.out (by kernel_rfl)) (fun _ _ _ h => h) (Or.inl ⟨by rfl, ?_⟩) ?_ ?_
       rotate_left
       ·intro w'
        go_simp
        with_reducible rfl
       rotate_left
       ·simp only [Act.put, List.setIfInBounds_toArray, List.set_cons_zero, List.set_cons_succ, i64_w, i32_w]
        rfl
       refine pure_ (i := 2) (N := some 17) (v := ?_) (a' := ?_) #[true, true, true, false, false, false, false, false, false, false, false, false, false, false] rfl rfl (any_of HT_.out (by kernel_rfl)) (fun _ _ _ h => h) (Or.inl ⟨by rfl, ?_⟩) ?_ ?_
       rotate_left
       ·intro w'
        go_simp
        with_reducible rfl
       rotate_left
       ·simp only [Act.put, List.setIfInBounds_toArray, List.set_cons_zero, List.set_cons_succ, i64_w, i32_w]
        rfl
       refine pure_ (i := 3) (N := some 18) (v := ?_) (a' := ?_) #[true, true, true, true, false, false, false, false, false, false, false, false, false, false] rfl rfl (any_of HT_.out (by kernel_rfl)) (fun _ _ _ h => h) (Or.inl ⟨by rfl, ?_⟩) ?_ ?_
       rotate_left
       ·intro w'
        go_simp
        with_reducible rfl
       rotate_left
       ·simp only [Act.put, List.setIfInBounds_toArray, List.set_cons_zero, List.set_cons_succ, i64_w, i32_w]
        rfl
       refine pure_ (i := 6) (N := some 21) (v := ?_) (a' := ?_) #[true, true, true, true, false, false, true, false, false, false, false, false, false, false] rfl rfl (any_of HT_.out (by kernel_rfl)) (fun _ _ _ h => h) (Or.inl ⟨by rfl, ?_⟩) ?_ ?_
       rotate_left
       ·intro w'
        go_simp
        with_reducible rfl
       rotate_left
       ·simp only [Act.put, List.setIfInBounds_toArray, List.set_cons_zero, List.set_cons_succ, i64_w, i32_w]
        rfl
       refine pure_ (i := 7) (N := some 22) (v := ?_) (a' := ?_) #[true, true, true, true, false, false, true, true, false, false, false, false, false, false] rfl rfl (any_of HT_.out (by kernel_rfl)) (fun _ _ _ h => h) (Or.inl ⟨by rfl, ?_⟩) ?_ ?_
       rotate_left
       ·intro w'
        go_simp
        with_reducible rfl
       rotate_left
       ·simp only [Act.put, List.setIfInBounds_toArray, List.set_cons_zero, List.set_cons_succ, i64_w, i32_w]
        rfl
       refine pure_ (i := 8) (N := some 23) (v := ?_) (a' := ?_) #[true, true, true, true, false, false, true, true, true, false, false, false, false, false] rfl rfl (any_of HT_.out (by kernel_rfl)) (fun _ _ _ h => h) (Or.inl ⟨by rfl, ?_⟩) ?_ ?_
       rotate_left
       ·intro w'
        go_simp
        with_reducible rfl
       rotate_left
       ·simp only [Act.put, List.setIfInBounds_toArray, List.set_cons_zero, List.set_cons_succ, i64_w, i32_w]
        rfl
       refine pure_ (i := 9) (N := some 24) (v := ?_) (a' := ?_) #[true, true, true, true, false, false, true, true, true, true, false, false, false, false] rfl rfl (any_of HT_.out (by kernel_rfl)) (fun _ _ _ h => h) (Or.inl ⟨by rfl, ?_⟩) ?_ ?_
       rotate_left
       ·intro w'
        go_simp
        with_reducible rfl
       rotate_left
       ·simp only [Act.put, List.setIfInBounds_toArray, List.set_cons_zero, List.set_cons_succ, i64_w, i32_w]
        rfl
       refine take_ (i := 4) (N := some 19) (v := ?_) (a' := ?_) #[true, true, true, true, true, false, true, true, true, true, false, false, false, false] rfl rfl (take_ofW HT_.out HW_.out (by kernel_rfl)) (fun _ _ _ h => h) (Or.inl ⟨by rfl, ?_⟩) hHeld ?_ ?_
       rotate_left
       ·rintro w' ⟨s0, s1, s2, s3, s4, s5⟩
        go_simp
        with_reducible rfl
       rotate_left
       ·simp only [Act.put, List.setIfInBounds_toArray, List.set_cons_zero, List.set_cons_succ, i64_w, i32_w]
        rfl
       refine take_ (i := 10) (N := some 25) (v := ?_) (a' := ?_) #[true, true, true, true, true, false, true, true, true, true, true, false, false, false] rfl rfl (take_ofW HT_.out HW_.out (by kernel_rfl)) (fun _ _ _ h => h) (Or.inl ⟨by rfl, ?_⟩) hHeld ?_ ?_
       rotate_left
       ·rintro w' ⟨s0, s1, s2, s3, s4, s5⟩
        go_simp
        with_reducible rfl
       rotate_left
       ·simp only [Act.put, List.setIfInBounds_toArray, List.set_cons_zero, List.set_cons_succ, i64_w, i32_w]
        rfl
       refine one_ (i := 5) (N := some 20) #[true, true, true, true, true, true, true, true, true, true, true, false, false, false] rfl rfl (one_of HT_.out (by kernel_rfl)) (by decide) (fun K hK => ?_)
       refine goes_ Tryd.func16 (by kernel_rfl) rfl #[.slice A397_1 ((rd_T35 l0 x5_1).f1).length c397_1] (by rfl) rfl rfl (by (try simp only [List.map_toArray, List.map_cons, List.map_nil]); first | done | rfl | (simp only [List.length_drop, List.length_take]; rfl)) ?_
       with_reducible refine (ansi_Row.calls k1 _ _ ((rd_T35 l0 x5_1).f1) t398 _ ?side1 ?side2 ?side3 A9.out).mono ?_
       (case side1 => repeat (first | exact (Kd.C_below HR397_1.out HB.out) | (with_reducible refine Kd.C_alloc ?_ _) | (with_reducible refine Kd.C_drewN ?_ _) | (with_reducible refine Kd.C_drew ?_)))
       (case side2 => exact HC397_1.out)
       (case side3 => exact GOK.of_below (GOK.sub HG.out rfl) (by repeat (first | (with_reducible first | exact HB.out | apply below_alloc | apply pw_below_drewN | apply below_drew1) | exact HB.out)))
       rintro e w14 ⟨v399, rfl, ho0, hb⟩
       refine ⟨_, rfl, ?_⟩
       have n0_ := Aside0.mk (Kd.R_lower ho0 (below_size (by repeat (first | (with_reducible first | exact HB.out | apply below_alloc | apply pw_below_drewN | apply below_drew1) | exact HB.out))))
       have n1_ := Aside0.mk (below_step (by repeat (first | (with_reducible first | exact HB.out | apply below_alloc | apply pw_below_drewN | apply below_drew1) | exact HB.out)) hb)
       clear HB
       have HO400 := n0_
       have HB := n1_
       clear n0_ n1_
       try have HR397_1 := Aside0.mk (Kd.C_below HR397_1.out hb)
       try have HR401_1 := Aside0.mk (Kd.C_below HR401_1.out hb)
       (try clear hb)
       (try clear hb2)
       (try clear hk)
       (try clear hi)
       (try clear ho0)
       refine hK.out _ _ ⟨((HB.out.cell (World.block_lt_of_cell? w _ hw397_0)).trans hw397_0), ((HB.out.cell (World.block_lt_of_cell? w _ hw397_1)).trans hw397_1), ((HB.out.cell (World.block_lt_of_cell? w _ hw397_2)).trans hw397_2), ((HB.out.cell (World.block_lt_of_cell? w _ hw401_0)).trans hw401_0), ((HB.out.cell (World.block_lt_of_cell? w _ hw401_1)).trans hw401_1), ((HB.out.cell (World.block_lt_of_cell? w _ hw401_2)).trans hw401_2)⟩ (fun hHeld => ?_)
       clear hK K
       refine norm_ (a' := ?_) ?_ ?_
       rotate_left
       ·show Act.put _ (some 20) _ = _
        simp only [Act.put, List.setIfInBounds_toArray, List.set_cons_zero, List.set_cons_succ, i64_w, i32_w]
        rfl
       refine one_ (i := 11) (N := some 26) #[true, true, true, true, true, true, true, true, true, true, true, true, false, false] rfl rfl (one_of HT_.out (by kernel_rfl)) (by decide) (fun K hK => ?_)
       refine goes_ Tryd.func17 (by kernel_rfl) rfl #[.slice A397_1 ((rd_T35 l0 x5_1).f1).length c397_1] (by rfl) rfl rfl (by (try simp only [List.map_toArray, List.map_cons, List.map_nil]); first | done | rfl | (simp only [List.length_drop, List.length_take]; rfl)) ?_
       with_reducible refine (flongref19_Row.calls k1 _ _ ((rd_T35 l0 x5_1).f1) t402 _ ?side1 ?side2 A10.out).mono ?_
       (case side1 => repeat (first | exact (Kd.C_below HR401_1.out HB.out) | (with_reducible refine Kd.C_alloc ?_ _) | (with_reducible refine Kd.C_drewN ?_ _) | (with_reducible refine Kd.C_drew ?_)))
       (case side2 => exact HC401_1.out)
       rintro e w15 ⟨v403, rfl, ho0, hb⟩
       refine ⟨_, rfl, ?_⟩
       have n0_ := Aside0.mk (Kd.R_below (by (with_reducible repeat (first | apply Kd.R_alloc | apply Kd.R_drewN | apply Kd.R_drew)); exact HO400.out) hb)
       have n1_ := Aside0.mk (Kd.V_lower (Kd.V_mono (ok' := fun k_ => some k_ ≠ (v399 : Value).ownBlock) ho0 (fun k_ hk_ => (Kd.fresh' (Kd.R_lt (by (with_reducible repeat (first | apply Kd.R_alloc | apply Kd.R_drewN | apply Kd.R_drew)); exact HO400.out)) k_ hk_))) (below_size (by repeat (first | (with_reducible first | exact HB.out | apply below_alloc | apply pw_below_drewN | apply below_drew1) | exact HB.out))))
       have n2_ := Aside0.mk (below_step (by repeat (first | (with_reducible first | exact HB.out | apply below_alloc | apply pw_below_drewN | apply below_drew1) | exact HB.out)) hb)
       clear HO400
       clear HB
       have HO400 := n0_
       have HO404 := n1_
       have HB := n2_
       clear n0_ n1_ n2_
       try have HR397_1 := Aside0.mk (Kd.C_below HR397_1.out hb)
       try have HR401_1 := Aside0.mk (Kd.C_below HR401_1.out hb)
       (try clear hb)
       (try clear hb2)
       (try clear hk)
       (try clear hi)
       (try clear ho0)
       obtain ⟨Ao16, co16, eo16⟩ := Kd.R_slice HO400.out
       (first | subst eo16 | (injection eo16 with f1_ f2_ f3_; have f4_ := f1_.symm; have f5_ := f3_.symm; clear f1_ f2_ f3_; subst f4_; subst f5_))
       obtain ⟨Ao17, co17, eo17⟩ := Kd.V_slice HO404.out
       (first | subst eo17 | (injection eo17 with f1_ f2_ f3_; have f4_ := f1_.symm; have f5_ := f3_.symm; clear f1_ f2_ f3_; subst f4_; subst f5_))
       refine hK.out _ _ ⟨((HB.out.cell (World.block_lt_of_cell? w _ hw397_0)).trans hw397_0), ((HB.out.cell (World.block_lt_of_cell? w _ hw397_1)).trans hw397_1), ((HB.out.cell (World.block_lt_of_cell? w _ hw397_2)).trans hw397_2), ((HB.out.cell (World.block_lt_of_cell? w _ hw401_0)).trans hw401_0), ((HB.out.cell (World.block_lt_of_cell? w _ hw401_1)).trans hw401_1), ((HB.out.cell (World.block_lt_of_cell? w _ hw401_2)).trans hw401_2)⟩ (fun hHeld => ?_)
       clear hK K
       refine norm_ (a' := ?_) ?_ ?_
       rotate_left
       ·show Act.put _ (some 26) _ = _
        simp only [Act.put, List.setIfInBounds_toArray, List.set_cons_zero, List.set_cons_succ, i64_w, i32_w]
        rfl
       refine one_ (i := 12) (N := some 27) #[true, true, true, true, true, true, true, true, true, true, true, true, true, false] rfl rfl (one_of HT_.out (by kernel_rfl)) (by decide) (fun K hK => ?_)
       refine goes_ Tryd.func13 (by kernel_rfl) rfl #[.slice Ao16 t398.length co16, .slice Ao17 t402.length co17] (by rfl) rfl rfl (by (try simp only [List.map_toArray, List.map_cons, List.map_nil]); first | done | rfl | (simp only [List.length_drop, List.length_take]; rfl)) ?_
       with_reducible refine (flongref00_Same.calls _ _ t398 _ _ t402 true _ ?side1 ?side2 ?side3 ?side4 A11.out).mono ?_
       (case side1 => repeat (first | exact (Kd.R_reads' HO400.out).2.2 | (with_reducible refine Kd.C_alloc ?_ _) | (with_reducible refine Kd.C_drewN ?_ _) | (with_reducible refine Kd.C_drew ?_)))
       (case side2 => exact (Kd.R_reads' HO400.out).2.1)
       (case side3 => repeat (first | exact (Kd.V_reads' HO404.out).2.2 | (with_reducible refine Kd.C_alloc ?_ _) | (with_reducible refine Kd.C_drewN ?_ _) | (with_reducible refine Kd.C_drew ?_)))
       (case side4 => exact (Kd.V_reads' HO404.out).2.1)
       rintro e w' ⟨rfl, ⟨nd, rfl⟩⟩
       refine ⟨_, rfl, ?_⟩
       refine hK.out _ _ ⟨((HB.out.cell (World.block_lt_of_cell? w _ hw397_0)).trans hw397_0), ((HB.out.cell (World.block_lt_of_cell? w _ hw397_1)).trans hw397_1), ((HB.out.cell (World.block_lt_of_cell? w _ hw397_2)).trans hw397_2), ((HB.out.cell (World.block_lt_of_cell? w _ hw401_0)).trans hw401_0), ((HB.out.cell (World.block_lt_of_cell? w _ hw401_1)).trans hw401_1), ((HB.out.cell (World.block_lt_of_cell? w _ hw401_2)).trans hw401_2)⟩ (fun hHeld => ?_)
       clear hK K
       refine norm_ (a' := ?_) ?_ ?_
       rotate_left
       ·show Act.put _ (some 27) _ = _
        simp only [Act.put, List.setIfInBounds_toArray, List.set_cons_zero, List.set_cons_succ, i64_w, i32_w]
        rfl
       refine pure_ (i := 13) (N := some 28) (v := ?_) (a' := ?_) #[true, true, true, true, true, true, true, true, true, true, true, true, true, true] rfl rfl (any_of HT_.out (by kernel_rfl)) (fun _ _ _ h => h) (Or.inl ⟨by rfl, ?_⟩) ?_ ?_
       rotate_left
       ·intro w'
        go_simp
        with_reducible rfl
       rotate_left
       ·simp only [Act.put, List.setIfInBounds_toArray, List.set_cons_zero, List.set_cons_succ, i64_w, i32_w]
        rfl
       refine done_ (done_of HT_.out (by kernel_rfl)) ?_
       try go_wp2
       go_roundg k1
       case measure => have := HK1.out; omega
       case rel => exact ⟨(wrap64 (x5_1 + 1)), (by first | rfl | (simp; done) | (simp [*]; done)), H', ⟨by have := HK1.out; omega⟩, ⟨by repeat (first | (with_reducible first | exact HB.out | apply below_alloc | apply pw_below_drewN | apply below_drew1) | exact HB.out)⟩⟩
      ·replace c12 := Bool.eq_false_iff.mpr c12
       subst c12
       have H1 : (some false) = some r := by rw [if_neg (show ¬ (false = true) by decide)] at H; exact H
       clear H
       have H := H1
       clear H1
       obtain rfl := Option.some.inj H
       try go_wp2
       have n0_ := Aside0.mk (below_drew1 HB.out)
       clear HB
       have HB := n0_
       clear n0_
       have p397 : 0 ≤ (x5_1 : Int) := of_decide_eq_true (by first | (with_reducible assumption) | assumption)
       have q397 : x5_1 < (l0.length : Int) := of_decide_eq_true (by first | (with_reducible assumption) | assumption)
       obtain ⟨ad397, A397_1, c397_1, e397, hx397_0, hx397_1, hx397_2, hl397_1, hi397_1⟩ := at_T35 HR0.out x5_1 p397 q397
       have hw397_2 := hx397_2
       have hw397_1 := hx397_1
       have hw397_0 := hx397_0
       cases e397
       replace hx397_0 := (HB.out.cell (World.block_lt_of_cell? w _ hx397_0)).trans hx397_0
       replace hx397_1 := (HB.out.cell (World.block_lt_of_cell? w _ hx397_1)).trans hx397_1
       replace hx397_2 := (HB.out.cell (World.block_lt_of_cell? w _ hx397_2)).trans hx397_2
       have HR397_1 := Aside0.mk hi397_1
       have HC397_1 := Aside0.mk hl397_1
       clear hi397_1 hl397_1
       replace p397 := eq_true p397
       replace q397 := eq_true q397
       have p401 : 0 ≤ (x5_1 : Int) := of_decide_eq_true (by first | (with_reducible assumption) | assumption)
       have q401 : x5_1 < (l0.length : Int) := of_decide_eq_true (by first | (with_reducible assumption) | assumption)
       obtain ⟨ad401, A401_1, c401_1, e401, hx401_0, hx401_1, hx401_2, hl401_1, hi401_1⟩ := at_T35 HR0.out x5_1 p401 q401
       have hw401_2 := hx401_2
       have hw401_1 := hx401_1
       have hw401_0 := hx401_0
       obtain rfl : ad397 = ad401 := (by injection e401)
       replace hx401_0 := (HB.out.cell (World.block_lt_of_cell? w _ hx401_0)).trans hx401_0
       replace hx401_1 := (HB.out.cell (World.block_lt_of_cell? w _ hx401_1)).trans hx401_1
       replace hx401_2 := (HB.out.cell (World.block_lt_of_cell? w _ hx401_2)).trans hx401_2
       have HR401_1 := Aside0.mk hi401_1
       have HC401_1 := Aside0.mk hl401_1
       clear hi401_1 hl401_1
       replace p401 := eq_true p401
       replace q401 := eq_true q401
       have ea_ := Option.some.inj (hx397_1.symm.trans hx401_1)
       injection ea_ with ea_ en_ ec_
       subst ea_
       subst ec_
       clear en_
       refine start_ (n := 14) (S := fun w' => w'.cell? (ad397.add ((x5_1).toNat * 3)) = some (.int .i64 ((rd_T35 l0 x5_1).f0)) ∧ w'.cell? ⟨(ad397.add ((x5_1).toNat * 3)).block, (ad397.add ((x5_1).toNat * 3)).off + 1, none⟩ = some (.slice A397_1 ((rd_T35 l0 x5_1).f1).length c397_1) ∧ w'.cell? ⟨(ad397.add ((x5_1).toNat * 3)).block, (ad397.add ((x5_1).toNat * 3)).off + 2, none⟩ = some (.bool ((rd_T35 l0 x5_1).f2)) ∧ w'.cell? (ad397.add ((x5_1).toNat * 3)) = some (.int .i64 ((rd_T35 l0 x5_1).f0)) ∧ w'.cell? ⟨(ad397.add ((x5_1).toNat * 3)).block, (ad397.add ((x5_1).toNat * 3)).off + 1, none⟩ = some (.slice A397_1 ((rd_T35 l0 x5_1).f1).length c397_1) ∧ w'.cell? ⟨(ad397.add ((x5_1).toNat * 3)).block, (ad397.add ((x5_1).toNat * 3)).off + 2, none⟩ = some (.bool ((rd_T35 l0 x5_1).f2))) (ds := []) #[false, false, false, false, false, false, false, false, false, false, false, false, false, false] (by kernel_rfl) rfl rfl ⟨((HB.out.cell (World.block_lt_of_cell? w _ hw397_0)).trans hw397_0), ((HB.out.cell (World.block_lt_of_cell? w _ hw397_1)).trans hw397_1), ((HB.out.cell (World.block_lt_of_cell? w _ hw397_2)).trans hw397_2), ((HB.out.cell (World.block_lt_of_cell? w _ hw401_0)).trans hw401_0), ((HB.out.cell (World.block_lt_of_cell? w _ hw401_1)).trans hw401_1), ((HB.out.cell (World.block_lt_of_cell? w _ hw401_2)).trans hw401_2)⟩ (fun hHeld => ?_); refine with_tabW flonglaw19_AnsiWrites.tab6 flonglaw19_AnsiWrites.bits6 (fun HT_ HW_ => ?_)
       generalize wr.drew = w18 at HB HR397_1 HR401_1 hx397_0 hx397_1 hx397_2 hx401_0 hx401_1 hx401_2 hHeld ⊢
       refine pure_ (i := 0) (N := some 15) (v := ?_) (a' := ?_) #[true, false, false, false, false, false, false, false, false, false, false, false, false, false] rfl rfl (any_of HT_.out (by kernel_rfl)) (fun _ _ _ h => h) (Or.inl ⟨by rfl, ?_⟩) ?_ ?_
       rotate_left
       ·intro w'
        go_simp
        with_reducible rfl
       rotate_left
       ·simp only [Act.put, List.setIfInBounds_toArray, List.set_cons_zero, List.set_cons_succ, i64_w, i32_w]
        rfl
       refine pure_ (i := 1) (N := some 16) (v := ?_) (a' := ?_) #[true, true, false, false, false, false, false, false, false, false, false, false, false, false] rfl rfl (any_of HT_.out (by kernel_rfl)) (fun _ _ _ h => h) (Or.inl ⟨by rfl, ?_⟩) ?_ ?_
       rotate_left
       ·intro w'
        go_simp
        with_reducible rfl
       rotate_left
       ·simp only [Act.put, List.setIfInBounds_toArray, List.set_cons_zero, List.set_cons_succ, i64_w, i32_w]
        rfl
       refine pure_ (i := 2) (N := some 17) (v := ?_) (a' := ?_) #[true, true, true, false, false, false, false, false, false, false, false, false, false, false] rfl rfl (any_of HT_.out (by kernel_rfl)) (fun _ _ _ h => h) (Or.inl ⟨by rfl, ?_⟩) ?_ ?_
       rotate_left
       ·intro w'
        go_simp
        with_reducible rfl
       rotate_left
       ·simp only [Act.put, List.setIfInBounds_toArray, List.set_cons_zero, List.set_cons_succ, i64_w, i32_w]
        rfl
       refine pure_ (i := 3) (N := some 18) (v := ?_) (a' := ?_) #[true, true, true, true, false, false, false, false, false, false, false, false, false, false] rfl rfl (any_of HT_.out (by kernel_rfl)) (fun _ _ _ h => h) (Or.inl ⟨by rfl, ?_⟩) ?_ ?_
       rotate_left
       ·intro w'
        go_simp
        with_reducible rfl
       rotate_left
       ·simp only [Act.put, List.setIfInBounds_toArray, List.set_cons_zero, List.set_cons_succ, i64_w, i32_w]
        rfl
       refine pure_ (i := 6) (N := some 21) (v := ?_) (a' := ?_) #[true, true, true, true, false, false, true, false, false, false, false, false, false, false] rfl rfl (any_of HT_.out (by kernel_rfl)) (fun _ _ _ h => h) (Or.inl ⟨by rfl, ?_⟩) ?_ ?_
       rotate_left
       ·intro w'
        go_simp
        with_reducible rfl
       rotate_left
       ·simp only [Act.put, List.setIfInBounds_toArray, List.set_cons_zero, List.set_cons_succ, i64_w, i32_w]
        rfl
       refine pure_ (i := 7) (N := some 22) (v := ?_) (a' := ?_) #[true, true, true, true, false, false, true, true, false, false, false, false, false, false] rfl rfl (any_of HT_.out (by kernel_rfl)) (fun _ _ _ h => h) (Or.inl ⟨by rfl, ?_⟩) ?_ ?_
       rotate_left
       ·intro w'
        go_simp
        with_reducible rfl
       rotate_left
       ·simp only [Act.put, List.setIfInBounds_toArray, List.set_cons_zero, List.set_cons_succ, i64_w, i32_w]
        rfl
       refine pure_ (i := 8) (N := some 23) (v := ?_) (a' := ?_) #[true, true, true, true, false, false, true, true, true, false, false, false, false, false] rfl rfl (any_of HT_.out (by kernel_rfl)) (fun _ _ _ h => h) (Or.inl ⟨by rfl, ?_⟩) ?_ ?_
       rotate_left
       ·intro w'
        go_simp
        with_reducible rfl
       rotate_left
       ·simp only [Act.put, List.setIfInBounds_toArray, List.set_cons_zero, List.set_cons_succ, i64_w, i32_w]
        rfl
       refine pure_ (i := 9) (N := some 24) (v := ?_) (a' := ?_) #[true, true, true, true, false, false, true, true, true, true, false, false, false, false] rfl rfl (any_of HT_.out (by kernel_rfl)) (fun _ _ _ h => h) (Or.inl ⟨by rfl, ?_⟩) ?_ ?_
       rotate_left
       ·intro w'
        go_simp
        with_reducible rfl
       rotate_left
       ·simp only [Act.put, List.setIfInBounds_toArray, List.set_cons_zero, List.set_cons_succ, i64_w, i32_w]
        rfl
       refine take_ (i := 4) (N := some 19) (v := ?_) (a' := ?_) #[true, true, true, true, true, false, true, true, true, true, false, false, false, false] rfl rfl (take_ofW HT_.out HW_.out (by kernel_rfl)) (fun _ _ _ h => h) (Or.inl ⟨by rfl, ?_⟩) hHeld ?_ ?_
       rotate_left
       ·rintro w' ⟨s0, s1, s2, s3, s4, s5⟩
        go_simp
        with_reducible rfl
       rotate_left
       ·simp only [Act.put, List.setIfInBounds_toArray, List.set_cons_zero, List.set_cons_succ, i64_w, i32_w]
        rfl
       refine take_ (i := 10) (N := some 25) (v := ?_) (a' := ?_) #[true, true, true, true, true, false, true, true, true, true, true, false, false, false] rfl rfl (take_ofW HT_.out HW_.out (by kernel_rfl)) (fun _ _ _ h => h) (Or.inl ⟨by rfl, ?_⟩) hHeld ?_ ?_
       rotate_left
       ·rintro w' ⟨s0, s1, s2, s3, s4, s5⟩
        go_simp
        with_reducible rfl
       rotate_left
       ·simp only [Act.put, List.setIfInBounds_toArray, List.set_cons_zero, List.set_cons_succ, i64_w, i32_w]
        rfl
       refine one_ (i := 5) (N := some 20) #[true, true, true, true, true, true, true, true, true, true, true, false, false, false] rfl rfl (one_of HT_.out (by kernel_rfl)) (by decide) (fun K hK => ?_)
       refine goes_ Tryd.func16 (by kernel_rfl) rfl #[.slice A397_1 ((rd_T35 l0 x5_1).f1).length c397_1] (by rfl) rfl rfl (by (try simp only [List.map_toArray, List.map_cons, List.map_nil]); first | done | rfl | (simp only [List.length_drop, List.length_take]; rfl)) ?_
       with_reducible refine (ansi_Row.calls k1 _ _ ((rd_T35 l0 x5_1).f1) t398 _ ?side1 ?side2 ?side3 A9.out).mono ?_
       (case side1 => repeat (first | exact (Kd.C_below HR397_1.out HB.out) | (with_reducible refine Kd.C_alloc ?_ _) | (with_reducible refine Kd.C_drewN ?_ _) | (with_reducible refine Kd.C_drew ?_)))
       (case side2 => exact HC397_1.out)
       (case side3 => exact GOK.of_below (GOK.sub HG.out rfl) (by repeat (first | (with_reducible first | exact HB.out | apply below_alloc | apply pw_below_drewN | apply below_drew1) | exact HB.out)))
       rintro e w19 ⟨v399, rfl, ho0, hb⟩
       refine ⟨_, rfl, ?_⟩
       have n0_ := Aside0.mk (Kd.R_lower ho0 (below_size (by repeat (first | (with_reducible first | exact HB.out | apply below_alloc | apply pw_below_drewN | apply below_drew1) | exact HB.out))))
       have n1_ := Aside0.mk (below_step (by repeat (first | (with_reducible first | exact HB.out | apply below_alloc | apply pw_below_drewN | apply below_drew1) | exact HB.out)) hb)
       clear HB
       have HO400 := n0_
       have HB := n1_
       clear n0_ n1_
       try have HR401_1 := Aside0.mk (Kd.C_below HR401_1.out hb)
       (try clear hb)
       (try clear hb2)
       (try clear hk)
       (try clear hi)
       (try clear ho0)
       refine hK.out _ _ ⟨((HB.out.cell (World.block_lt_of_cell? w _ hw397_0)).trans hw397_0), ((HB.out.cell (World.block_lt_of_cell? w _ hw397_1)).trans hw397_1), ((HB.out.cell (World.block_lt_of_cell? w _ hw397_2)).trans hw397_2), ((HB.out.cell (World.block_lt_of_cell? w _ hw401_0)).trans hw401_0), ((HB.out.cell (World.block_lt_of_cell? w _ hw401_1)).trans hw401_1), ((HB.out.cell (World.block_lt_of_cell? w _ hw401_2)).trans hw401_2)⟩ (fun hHeld => ?_)
       clear hK K
       refine norm_ (a' := ?_) ?_ ?_
       rotate_left
       ·show Act.put _ (some 20) _ = _
        simp only [Act.put, List.setIfInBounds_toArray, List.set_cons_zero, List.set_cons_succ, i64_w, i32_w]
        rfl
       refine one_ (i := 11) (N := some 26) #[true, true, true, true, true, true, true, true, true, true, true, true, false, false] rfl rfl (one_of HT_.out (by kernel_rfl)) (by decide) (fun K hK => ?_)
       refine goes_ Tryd.func17 (by kernel_rfl) rfl #[.slice A397_1 ((rd_T35 l0 x5_1).f1).length c397_1] (by rfl) rfl rfl (by (try simp only [List.map_toArray, List.map_cons, List.map_nil]); first | done | rfl | (simp only [List.length_drop, List.length_take]; rfl)) ?_
       with_reducible refine (flongref19_Row.calls k1 _ _ ((rd_T35 l0 x5_1).f1) t402 _ ?side1 ?side2 A10.out).mono ?_
       (case side1 => repeat (first | exact (Kd.C_below HR401_1.out HB.out) | (with_reducible refine Kd.C_alloc ?_ _) | (with_reducible refine Kd.C_drewN ?_ _) | (with_reducible refine Kd.C_drew ?_)))
       (case side2 => exact HC401_1.out)
       rintro e w20 ⟨v403, rfl, ho0, hb⟩
       refine ⟨_, rfl, ?_⟩
       have n0_ := Aside0.mk (Kd.R_below (by (with_reducible repeat (first | apply Kd.R_alloc | apply Kd.R_drewN | apply Kd.R_drew)); exact HO400.out) hb)
       have n1_ := Aside0.mk (Kd.V_lower (Kd.V_mono (ok' := fun k_ => some k_ ≠ (v399 : Value).ownBlock) ho0 (fun k_ hk_ => (Kd.fresh' (Kd.R_lt (by (with_reducible repeat (first | apply Kd.R_alloc | apply Kd.R_drewN | apply Kd.R_drew)); exact HO400.out)) k_ hk_))) (below_size (by repeat (first | (with_reducible first | exact HB.out | apply below_alloc | apply pw_below_drewN | apply below_drew1) | exact HB.out))))
       have n2_ := Aside0.mk (below_step (by repeat (first | (with_reducible first | exact HB.out | apply below_alloc | apply pw_below_drewN | apply below_drew1) | exact HB.out)) hb)
       clear HO400
       clear HB
       have HO400 := n0_
       have HO404 := n1_
       have HB := n2_
       clear n0_ n1_ n2_
       (try clear hb)
       (try clear hb2)
       (try clear hk)
       (try clear hi)
       (try clear ho0)
       obtain ⟨Ao21, co21, eo21⟩ := Kd.R_slice HO400.out
       (first | subst eo21 | (injection eo21 with f1_ f2_ f3_; have f4_ := f1_.symm; have f5_ := f3_.symm; clear f1_ f2_ f3_; subst f4_; subst f5_))
       obtain ⟨Ao22, co22, eo22⟩ := Kd.V_slice HO404.out
       (first | subst eo22 | (injection eo22 with f1_ f2_ f3_; have f4_ := f1_.symm; have f5_ := f3_.symm; clear f1_ f2_ f3_; subst f4_; subst f5_))
       refine hK.out _ _ ⟨((HB.out.cell (World.block_lt_of_cell? w _ hw397_0)).trans hw397_0), ((HB.out.cell (World.block_lt_of_cell? w _ hw397_1)).trans hw397_1), ((HB.out.cell (World.block_lt_of_cell? w _ hw397_2)).trans hw397_2), ((HB.out.cell (World.block_lt_of_cell? w _ hw401_0)).trans hw401_0), ((HB.out.cell (World.block_lt_of_cell? w _ hw401_1)).trans hw401_1), ((HB.out.cell (World.block_lt_of_cell? w _ hw401_2)).trans hw401_2)⟩ (fun hHeld => ?_)
       clear hK K
       refine norm_ (a' := ?_) ?_ ?_
       rotate_left
       ·show Act.put _ (some 26) _ = _
        simp only [Act.put, List.setIfInBounds_toArray, List.set_cons_zero, List.set_cons_succ, i64_w, i32_w]
        rfl
       refine one_ (i := 12) (N := some 27) #[true, true, true, true, true, true, true, true, true, true, true, true, true, false] rfl rfl (one_of HT_.out (by kernel_rfl)) (by decide) (fun K hK => ?_)
       refine goes_ Tryd.func13 (by kernel_rfl) rfl #[.slice Ao21 t398.length co21, .slice Ao22 t402.length co22] (by rfl) rfl rfl (by (try simp only [List.map_toArray, List.map_cons, List.map_nil]); first | done | rfl | (simp only [List.length_drop, List.length_take]; rfl)) ?_
       with_reducible refine (flongref00_Same.calls _ _ t398 _ _ t402 false _ ?side1 ?side2 ?side3 ?side4 A11.out).mono ?_
       (case side1 => repeat (first | exact (Kd.R_reads' HO400.out).2.2 | (with_reducible refine Kd.C_alloc ?_ _) | (with_reducible refine Kd.C_drewN ?_ _) | (with_reducible refine Kd.C_drew ?_)))
       (case side2 => exact (Kd.R_reads' HO400.out).2.1)
       (case side3 => repeat (first | exact (Kd.V_reads' HO404.out).2.2 | (with_reducible refine Kd.C_alloc ?_ _) | (with_reducible refine Kd.C_drewN ?_ _) | (with_reducible refine Kd.C_drew ?_)))
       (case side4 => exact (Kd.V_reads' HO404.out).2.1)
       rintro e w' ⟨rfl, ⟨nd, rfl⟩⟩
       refine ⟨_, rfl, ?_⟩
       refine hK.out _ _ ⟨((HB.out.cell (World.block_lt_of_cell? w _ hw397_0)).trans hw397_0), ((HB.out.cell (World.block_lt_of_cell? w _ hw397_1)).trans hw397_1), ((HB.out.cell (World.block_lt_of_cell? w _ hw397_2)).trans hw397_2), ((HB.out.cell (World.block_lt_of_cell? w _ hw401_0)).trans hw401_0), ((HB.out.cell (World.block_lt_of_cell? w _ hw401_1)).trans hw401_1), ((HB.out.cell (World.block_lt_of_cell? w _ hw401_2)).trans hw401_2)⟩ (fun hHeld => ?_)
       clear hK K
       refine norm_ (a' := ?_) ?_ ?_
       rotate_left
       ·show Act.put _ (some 27) _ = _
        simp only [Act.put, List.setIfInBounds_toArray, List.set_cons_zero, List.set_cons_succ, i64_w, i32_w]
        rfl
       refine pure_ (i := 13) (N := some 28) (v := ?_) (a' := ?_) #[true, true, true, true, true, true, true, true, true, true, true, true, true, true] rfl rfl (any_of HT_.out (by kernel_rfl)) (fun _ _ _ h => h) (Or.inl ⟨by rfl, ?_⟩) ?_ ?_
       rotate_left
       ·intro w'
        go_simp
        with_reducible rfl
       rotate_left
       ·simp only [Act.put, List.setIfInBounds_toArray, List.set_cons_zero, List.set_cons_succ, i64_w, i32_w]
        rfl
       refine done_ (done_of HT_.out (by kernel_rfl)) ?_
       try go_wp2
       go_ret
       exact ⟨by first | rfl | (simp [errW_none, errW_some] <;> rfl) | (simp [*, errW_none, errW_some] <;> rfl), by repeat (first | (with_reducible first | exact HB.out | apply below_alloc | apply pw_below_drewN | apply below_drew1) | exact HB.out)⟩
     ·rw [if_neg c8] at H
      exact absurd H (by simp)
    ·rw [if_neg c7] at H
     have c7b0 : decide (x5_1 < (l0.length : Int)) = false := decide_eq_false c7
     clear c7
     replace H := Option.bind_eq_some_iff.mp H
     obtain ⟨t406, A230, H⟩ := H
     replace H : ((flongref19_Write.f k1 l0).bind fun t409 => ((flongref00_Same.f t406 t409).bind fun t412 => (if t412 = true then ((ansi_Sign.f a1).bind fun t413 => ((flongref19_Sign.f a1).bind fun t414 => (if t413.toList = t414.toList then ((flonglaw19_known.f k1).bind fun t415 => (some t415)) else (some false)))) else (some false)))) = some r := H
     have A23 := Aside0.mk A230
     clear A230
     replace H := Option.bind_eq_some_iff.mp H
     obtain ⟨t409, A240, H⟩ := H
     replace H : ((flongref00_Same.f t406 t409).bind fun t412 => (if t412 = true then ((ansi_Sign.f a1).bind fun t413 => ((flongref19_Sign.f a1).bind fun t414 => (if t413.toList = t414.toList then ((flonglaw19_known.f k1).bind fun t415 => (some t415)) else (some false)))) else (some false))) = some r := H
     have A24 := Aside0.mk A240
     clear A240
     replace H := Option.bind_eq_some_iff.mp H
     obtain ⟨t412, A250, H⟩ := H
     replace H : (if t412 = true then ((ansi_Sign.f a1).bind fun t413 => ((flongref19_Sign.f a1).bind fun t414 => (if t413.toList = t414.toList then ((flonglaw19_known.f k1).bind fun t415 => (some t415)) else (some false)))) else (some false)) = some r := H
     have A25 := Aside0.mk A250
     clear A250
     by_cases c26 : t412 = true
     ·subst c26
      have H1 : ((ansi_Sign.f a1).bind fun t413 => ((flongref19_Sign.f a1).bind fun t414 => (if t413.toList = t414.toList then ((flonglaw19_known.f k1).bind fun t415 => (some t415)) else (some false)))) = some r := by rw [if_pos rfl] at H; exact H
      clear H
      have H := H1
      clear H1
      replace H := Option.bind_eq_some_iff.mp H
      obtain ⟨t413, A270, H⟩ := H
      replace H : ((flongref19_Sign.f a1).bind fun t414 => (if t413.toList = t414.toList then ((flonglaw19_known.f k1).bind fun t415 => (some t415)) else (some false))) = some r := H
      have A27 := Aside0.mk A270
      clear A270
      replace H := Option.bind_eq_some_iff.mp H
      obtain ⟨t414, A280, H⟩ := H
      replace H : (if t413.toList = t414.toList then ((flonglaw19_known.f k1).bind fun t415 => (some t415)) else (some false)) = some r := H
      have A28 := Aside0.mk A280
      clear A280
      by_cases c29 : t413.toList = t414.toList
      ·rw [if_pos c29] at H
       have c29b0 : (t413.toList == t414.toList) = true := beq_iff_eq.mpr c29
       have c29b1 : (t413.toList != t414.toList) = false := bne_eq_false_iff_eq.mpr c29
       clear c29
       replace H := Option.bind_eq_some_iff.mp H
       obtain ⟨t415, A300, H⟩ := H
       replace H : (some t415) = some r := H
       have A30 := Aside0.mk A300
       clear A300
       obtain rfl := Option.some.inj H
       go_wp2_with (first | ((with_reducible refine gate_callee (f := 18) rfl ?_); refine goesL_ (some 30) rfl rfl Tryd.func18 (by kernel_rfl) rfl #[.slice A0 l0.length c0] rfl (by (try simp only [List.map_toArray, List.map_cons, List.map_nil]); first | done | rfl | (simp only [List.length_drop, List.length_take]; rfl)) ?_; (with_reducible refine (ansi_Write.calls k1 _ _ l0 t406 _ ?side1 ?side2 ?side3 A23.out).mono ?_); (case side1 => repeat (first | exact (Kd.C_below HR0.out HB.out) | (with_reducible refine Kd.C_alloc ?_ _) | (with_reducible refine Kd.C_drewN ?_ _) | (with_reducible refine Kd.C_drew ?_))); (case side2 => exact HC0.out); (case side3 => exact GOK.of_below (GOK.sub HG.out rfl) (by repeat (first | (with_reducible first | exact HB.out | apply below_alloc | apply pw_below_drewN | apply below_drew1) | exact HB.out))); rintro e w31 ⟨v407, rfl, ho0, hb⟩; refine ⟨_, rfl, ?_⟩; have n0_ := Aside0.mk (Kd.R_lower ho0 (below_size (by repeat (first | (with_reducible first | exact HB.out | apply below_alloc | apply pw_below_drewN | apply below_drew1) | exact HB.out)))); have n1_ := Aside0.mk (below_step (by repeat (first | (with_reducible first | exact HB.out | apply below_alloc | apply pw_below_drewN | apply below_drew1) | exact HB.out)) hb); clear HB; have HO408 := n0_; have HB := n1_; clear n0_ n1_; (try clear hb); (try clear hb2); (try clear hk); (try clear hi); (try clear ho0)) | ((with_reducible refine gate_callee (f := 19) rfl ?_); refine goesL_ (some 32) rfl rfl Tryd.func19 (by kernel_rfl) rfl #[.slice A0 l0.length c0] rfl (by (try simp only [List.map_toArray, List.map_cons, List.map_nil]); first | done | rfl | (simp only [List.length_drop, List.length_take]; rfl)) ?_; (with_reducible refine (flongref19_Write.calls k1 _ _ l0 t409 _ ?side1 ?side2 A24.out).mono ?_); (case side1 => repeat (first | exact (Kd.C_below HR0.out HB.out) | (with_reducible refine Kd.C_alloc ?_ _) | (with_reducible refine Kd.C_drewN ?_ _) | (with_reducible refine Kd.C_drew ?_))); (case side2 => exact HC0.out); rintro e w32 ⟨v410, rfl, ho0, hb⟩; refine ⟨_, rfl, ?_⟩; have n0_ := Aside0.mk (Kd.R_elder' (by (with_reducible repeat (first | apply Kd.R_alloc | apply Kd.R_drewN | apply Kd.R_drew)); exact HO408.out) (Kd.R_base ho0) hb); have n1_ := Aside0.mk (Kd.R_lower (Kd.R_new' ho0 (Kd.R_lt (by (with_reducible repeat (first | apply Kd.R_alloc | apply Kd.R_drewN | apply Kd.R_drew)); exact HO408.out))) (below_size (by repeat (first | (with_reducible first | exact HB.out | apply below_alloc | apply pw_below_drewN | apply below_drew1) | exact HB.out)))); have n2_ := Aside0.mk (below_step (by repeat (first | (with_reducible first | exact HB.out | apply below_alloc | apply pw_below_drewN | apply below_drew1) | exact HB.out)) hb); clear HO408; clear HB; have HO408 := n0_; have HO411 := n1_; have HB := n2_; clear n0_ n1_ n2_; (try clear hb); (try clear hb2); (try clear hk); (try clear hi); (try clear ho0); obtain ⟨Ao33, co33, eo33⟩ := Kd.R_slice HO408.out; subst eo33; obtain ⟨Ao34, co34, eo34⟩ := Kd.R_slice HO411.out; subst eo34) | ((with_reducible refine gate_callee (f := 13) rfl ?_); refine goesL_ (some 33) rfl rfl Tryd.func13 (by kernel_rfl) rfl #[.slice Ao33 t406.length co33, .slice Ao34 t409.length co34] rfl (by (try simp only [List.map_toArray, List.map_cons, List.map_nil]); first | done | rfl | (simp only [List.length_drop, List.length_take]; rfl)) ?_; (with_reducible refine (flongref00_Same.calls _ _ t406 _ _ t409 true _ ?side1 ?side2 ?side3 ?side4 A25.out).mono ?_); (case side1 => repeat (first | exact (Kd.R_reads' HO408.out).2.2 | (with_reducible refine Kd.C_alloc ?_ _) | (with_reducible refine Kd.C_drewN ?_ _) | (with_reducible refine Kd.C_drew ?_))); (case side2 => exact (Kd.R_reads' HO408.out).2.1); (case side3 => repeat (first | exact (Kd.R_reads' HO411.out).2.2 | (with_reducible refine Kd.C_alloc ?_ _) | (with_reducible refine Kd.C_drewN ?_ _) | (with_reducible refine Kd.C_drew ?_))); (case side4 => exact (Kd.R_reads' HO411.out).2.1); rintro e w' ⟨rfl, ⟨nd, rfl⟩⟩; refine ⟨_, rfl, ?_⟩) | (go_at_call 11; (with_reducible refine (ansi_Sign.calls a1 t413 _ ?side1 A27.out).mono ?_); (case side1 => exact GOK.of_below (GOK.sub HG.out rfl) (by repeat (first | (with_reducible first | exact HB.out | apply below_alloc | apply pw_below_drewN | apply below_drew1) | exact HB.out))); rintro e w' ⟨rfl, ⟨nd, rfl⟩⟩) | (go_at_call 20; (with_reducible refine (flongref19_Sign.calls a1 t414 _ A28.out).mono ?_); rintro e w' ⟨rfl, ⟨nd, rfl⟩⟩) | (go_at_call 10; (with_reducible refine (flonglaw19_known.calls k1  t415 _ ?side1 A30.out).mono ?_); (case side1 => exact GOK.of_below (GOK.sub HG.out rfl) (by repeat (first | (with_reducible first | exact HB.out | apply below_alloc | apply pw_below_drewN | apply below_drew1) | exact HB.out))); rintro e w35 ⟨rfl, hb⟩; have n0_ := Aside0.mk (Kd.R_below (by (with_reducible repeat (first | apply Kd.R_alloc | apply Kd.R_drewN | apply Kd.R_drew)); exact HO408.out) hb); have n1_ := Aside0.mk (Kd.R_below (by (with_reducible repeat (first | apply Kd.R_alloc | apply Kd.R_drewN | apply Kd.R_drew)); exact HO411.out) hb); have n2_ := Aside0.mk (below_step (by repeat (first | (with_reducible first | exact HB.out | apply below_alloc | apply pw_below_drewN | apply below_drew1) | exact HB.out)) hb); clear HO408; clear HO411; clear HB; have HO408 := n0_; have HO411 := n1_; have HB := n2_; clear n0_ n1_ n2_; (try clear hb); (try clear hb2); (try clear hk); (try clear hi)))
       go_ret
       exact ⟨by first | rfl | (simp [errW_none, errW_some] <;> rfl) | (simp [*, errW_none, errW_some] <;> rfl), by repeat (first | (with_reducible first | exact HB.out | apply below_alloc | apply pw_below_drewN | apply below_drew1) | exact HB.out)⟩
      ·rw [if_neg c29] at H
       have c29b0 : (t413.toList == t414.toList) = false := beq_eq_false_iff_ne.mpr c29
       have c29b1 : (t413.toList != t414.toList) = true := bne_iff_ne.mpr c29
       obtain rfl := Option.some.inj H
       go_wp2_with (first | ((with_reducible refine gate_callee (f := 18) rfl ?_); refine goesL_ (some 30) rfl rfl Tryd.func18 (by kernel_rfl) rfl #[.slice A0 l0.length c0] rfl (by (try simp only [List.map_toArray, List.map_cons, List.map_nil]); first | done | rfl | (simp only [List.length_drop, List.length_take]; rfl)) ?_; (with_reducible refine (ansi_Write.calls k1 _ _ l0 t406 _ ?side1 ?side2 ?side3 A23.out).mono ?_); (case side1 => repeat (first | exact (Kd.C_below HR0.out HB.out) | (with_reducible refine Kd.C_alloc ?_ _) | (with_reducible refine Kd.C_drewN ?_ _) | (with_reducible refine Kd.C_drew ?_))); (case side2 => exact HC0.out); (case side3 => exact GOK.of_below (GOK.sub HG.out rfl) (by repeat (first | (with_reducible first | exact HB.out | apply below_alloc | apply pw_below_drewN | apply below_drew1) | exact HB.out))); rintro e w36 ⟨v407, rfl, ho0, hb⟩; refine ⟨_, rfl, ?_⟩; have n0_ := Aside0.mk (Kd.R_lower ho0 (below_size (by repeat (first | (with_reducible first | exact HB.out | apply below_alloc | apply pw_below_drewN | apply below_drew1) | exact HB.out)))); have n1_ := Aside0.mk (below_step (by repeat (first | (with_reducible first | exact HB.out | apply below_alloc | apply pw_below_drewN | apply below_drew1) | exact HB.out)) hb); clear HB; have HO408 := n0_; have HB := n1_; clear n0_ n1_; (try clear hb); (try clear hb2); (try clear hk); (try clear hi); (try clear ho0)) | ((with_reducible refine gate_callee (f := 19) rfl ?_); refine goesL_ (some 32) rfl rfl Tryd.func19 (by kernel_rfl) rfl #[.slice A0 l0.length c0] rfl (by (try simp only [List.map_toArray, List.map_cons, List.map_nil]); first | done | rfl | (simp only [List.length_drop, List.length_take]; rfl)) ?_; (with_reducible refine (flongref19_Write.calls k1 _ _ l0 t409 _ ?side1 ?side2 A24.out).mono ?_); (case side1 => repeat (first | exact (Kd.C_below HR0.out HB.out) | (with_reducible refine Kd.C_alloc ?_ _) | (with_reducible refine Kd.C_drewN ?_ _) | (with_reducible refine Kd.C_drew ?_))); (case side2 => exact HC0.out); rintro e w37 ⟨v410, rfl, ho0, hb⟩; refine ⟨_, rfl, ?_⟩; have n0_ := Aside0.mk (Kd.R_elder' (by (with_reducible repeat (first | apply Kd.R_alloc | apply Kd.R_drewN | apply Kd.R_drew)); exact HO408.out) (Kd.R_base ho0) hb); have n1_ := Aside0.mk (Kd.R_lower (Kd.R_new' ho0 (Kd.R_lt (by (with_reducible repeat (first | apply Kd.R_alloc | apply Kd.R_drewN | apply Kd.R_drew)); exact HO408.out))) (below_size (by repeat (first | (with_reducible first | exact HB.out | apply below_alloc | apply pw_below_drewN | apply below_drew1) | exact HB.out)))); have n2_ := Aside0.mk (below_step (by repeat (first | (with_reducible first | exact HB.out | apply below_alloc | apply pw_below_drewN | apply below_drew1) | exact HB.out)) hb); clear HO408; clear HB; have HO408 := n0_; have HO411 := n1_; have HB := n2_; clear n0_ n1_ n2_; (try clear hb); (try clear hb2); (try clear hk); (try clear hi); (try clear ho0); obtain ⟨Ao38, co38, eo38⟩ := Kd.R_slice HO408.out; subst eo38; obtain ⟨Ao39, co39, eo39⟩ := Kd.R_slice HO411.out; subst eo39) | ((with_reducible refine gate_callee (f := 13) rfl ?_); refine goesL_ (some 33) rfl rfl Tryd.func13 (by kernel_rfl) rfl #[.slice Ao38 t406.length co38, .slice Ao39 t409.length co39] rfl (by (try simp only [List.map_toArray, List.map_cons, List.map_nil]); first | done | rfl | (simp only [List.length_drop, List.length_take]; rfl)) ?_; (with_reducible refine (flongref00_Same.calls _ _ t406 _ _ t409 true _ ?side1 ?side2 ?side3 ?side4 A25.out).mono ?_); (case side1 => repeat (first | exact (Kd.R_reads' HO408.out).2.2 | (with_reducible refine Kd.C_alloc ?_ _) | (with_reducible refine Kd.C_drewN ?_ _) | (with_reducible refine Kd.C_drew ?_))); (case side2 => exact (Kd.R_reads' HO408.out).2.1); (case side3 => repeat (first | exact (Kd.R_reads' HO411.out).2.2 | (with_reducible refine Kd.C_alloc ?_ _) | (with_reducible refine Kd.C_drewN ?_ _) | (with_reducible refine Kd.C_drew ?_))); (case side4 => exact (Kd.R_reads' HO411.out).2.1); rintro e w' ⟨rfl, ⟨nd, rfl⟩⟩; refine ⟨_, rfl, ?_⟩) | (go_at_call 11; (with_reducible refine (ansi_Sign.calls a1 t413 _ ?side1 A27.out).mono ?_); (case side1 => exact GOK.of_below (GOK.sub HG.out rfl) (by repeat (first | (with_reducible first | exact HB.out | apply below_alloc | apply pw_below_drewN | apply below_drew1) | exact HB.out))); rintro e w' ⟨rfl, ⟨nd, rfl⟩⟩) | (go_at_call 20; (with_reducible refine (flongref19_Sign.calls a1 t414 _ A28.out).mono ?_); rintro e w' ⟨rfl, ⟨nd, rfl⟩⟩))
       go_ret
       exact ⟨by first | rfl | (simp [errW_none, errW_some] <;> rfl) | (simp [*, errW_none, errW_some] <;> rfl), by repeat (first | (with_reducible first | exact HB.out | apply below_alloc | apply pw_below_drewN | apply below_drew1) | exact HB.out)⟩
     ·replace c26 := Bool.eq_false_iff.mpr c26
      subst c26
      have H1 : (some false) = some r := by rw [if_neg (show ¬ (false = true) by decide)] at H; exact H
      clear H
      have H := H1
      clear H1
      obtain rfl := Option.some.inj H
      go_wp2_with (first | ((with_reducible refine gate_callee (f := 18) rfl ?_); refine goesL_ (some 30) rfl rfl Tryd.func18 (by kernel_rfl) rfl #[.slice A0 l0.length c0] rfl (by (try simp only [List.map_toArray, List.map_cons, List.map_nil]); first | done | rfl | (simp only [List.length_drop, List.length_take]; rfl)) ?_; (with_reducible refine (ansi_Write.calls k1 _ _ l0 t406 _ ?side1 ?side2 ?side3 A23.out).mono ?_); (case side1 => repeat (first | exact (Kd.C_below HR0.out HB.out) | (with_reducible refine Kd.C_alloc ?_ _) | (with_reducible refine Kd.C_drewN ?_ _) | (with_reducible refine Kd.C_drew ?_))); (case side2 => exact HC0.out); (case side3 => exact GOK.of_below (GOK.sub HG.out rfl) (by repeat (first | (with_reducible first | exact HB.out | apply below_alloc | apply pw_below_drewN | apply below_drew1) | exact HB.out))); rintro e w40 ⟨v407, rfl, ho0, hb⟩; refine ⟨_, rfl, ?_⟩; have n0_ := Aside0.mk (Kd.R_lower ho0 (below_size (by repeat (first | (with_reducible first | exact HB.out | apply below_alloc | apply pw_below_drewN | apply below_drew1) | exact HB.out)))); have n1_ := Aside0.mk (below_step (by repeat (first | (with_reducible first | exact HB.out | apply below_alloc | apply pw_below_drewN | apply below_drew1) | exact HB.out)) hb); clear HB; have HO408 := n0_; have HB := n1_; clear n0_ n1_; (try clear hb); (try clear hb2); (try clear hk); (try clear hi); (try clear ho0)) | ((with_reducible refine gate_callee (f := 19) rfl ?_); refine goesL_ (some 32) rfl rfl Tryd.func19 (by kernel_rfl) rfl #[.slice A0 l0.length c0] rfl (by (try simp only [List.map_toArray, List.map_cons, List.map_nil]); first | done | rfl | (simp only [List.length_drop, List.length_take]; rfl)) ?_; (with_reducible refine (flongref19_Write.calls k1 _ _ l0 t409 _ ?side1 ?side2 A24.out).mono ?_); (case side1 => repeat (first | exact (Kd.C_below HR0.out HB.out) | (with_reducible refine Kd.C_alloc ?_ _) | (with_reducible refine Kd.C_drewN ?_ _) | (with_reducible refine Kd.C_drew ?_))); (case side2 => exact HC0.out); rintro e w41 ⟨v410, rfl, ho0, hb⟩; refine ⟨_, rfl, ?_⟩; have n0_ := Aside0.mk (Kd.R_elder' (by (with_reducible repeat (first | apply Kd.R_alloc | apply Kd.R_drewN | apply Kd.R_drew)); exact HO408.out) (Kd.R_base ho0) hb); have n1_ := Aside0.mk (Kd.R_lower (Kd.R_new' ho0 (Kd.R_lt (by (with_reducible repeat (first | apply Kd.R_alloc | apply Kd.R_drewN | apply Kd.R_drew)); exact HO408.out))) (below_size (by repeat (first | (with_reducible first | exact HB.out | apply below_alloc | apply pw_below_drewN | apply below_drew1) | exact HB.out)))); have n2_ := Aside0.mk (below_step (by repeat (first | (with_reducible first | exact HB.out | apply below_alloc | apply pw_below_drewN | apply below_drew1) | exact HB.out)) hb); clear HO408; clear HB; have HO408 := n0_; have HO411 := n1_; have HB := n2_; clear n0_ n1_ n2_; (try clear hb); (try clear hb2); (try clear hk); (try clear hi); (try clear ho0); obtain ⟨Ao42, co42, eo42⟩ := Kd.R_slice HO408.out; subst eo42; obtain ⟨Ao43, co43, eo43⟩ := Kd.R_slice HO411.out; subst eo43) | ((with_reducible refine gate_callee (f := 13) rfl ?_); refine goesL_ (some 33) rfl rfl Tryd.func13 (by kernel_rfl) rfl #[.slice Ao42 t406.length co42, .slice Ao43 t409.length co43] rfl (by (try simp only [List.map_toArray, List.map_cons, List.map_nil]); first | done | rfl | (simp only [List.length_drop, List.length_take]; rfl)) ?_; (with_reducible refine (flongref00_Same.calls _ _ t406 _ _ t409 false _ ?side1 ?side2 ?side3 ?side4 A25.out).mono ?_); (case side1 => repeat (first | exact (Kd.R_reads' HO408.out).2.2 | (with_reducible refine Kd.C_alloc ?_ _) | (with_reducible refine Kd.C_drewN ?_ _) | (with_reducible refine Kd.C_drew ?_))); (case side2 => exact (Kd.R_reads' HO408.out).2.1); (case side3 => repeat (first | exact (Kd.R_reads' HO411.out).2.2 | (with_reducible refine Kd.C_alloc ?_ _) | (with_reducible refine Kd.C_drewN ?_ _) | (with_reducible refine Kd.C_drew ?_))); (case side4 => exact (Kd.R_reads' HO411.out).2.1); rintro e w' ⟨rfl, ⟨nd, rfl⟩⟩; refine ⟨_, rfl, ?_⟩))
      go_ret
      exact ⟨by first | rfl | (simp [errW_none, errW_some] <;> rfl) | (simp [*, errW_none, errW_some] <;> rfl), by repeat (first | (with_reducible first | exact HB.out | apply below_alloc | apply pw_below_drewN | apply below_drew1) | exact HB.out)⟩

end Go.Proofs.YtdjepocklmlnbaaDoor.X
