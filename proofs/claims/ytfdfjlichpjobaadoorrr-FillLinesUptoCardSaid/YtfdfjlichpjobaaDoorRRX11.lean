-- Written by this session's xprint.py (a variant of the kit's printer). Not trusted: Lean checks it.
import Derived.Test.YtfdfjlichpjobaaDoorRRX0
import Derived.Test.YtfdfjlichpjobaaDoorRRX2
import Derived.Test.YtfdfjlichpjobaaDoorRRX7
import Derived.Test.YtfdfjlichpjobaaDoorRRX8
import Derived.Test.YtfdfjlichpjobaaDoorRRX10
import Derived.Test.YtfdfjlichpjobaaDoorRRHandA
import Derived.Test.YtfdfjlichpjobaaDoorRRHandL
namespace Go.Proofs.YtfdfjlichpjobaaDoorRR.X
open Go.Proofs.YtfdfjlichpjobaaDoorRR.Hand
open Go.RowKit Go.Proofs.YtfdfjlichpjobaaDoorRRW.PrintWords Go.Proofs.YtfdfjlichpjobaaDoorRRW.PrintLast Go.Proofs.YtfdfjlichpjobaaDoorRRW.PrintMore
attribute [local go_sem] max2_int min2_int max_two min_two max_three min_three max_four min_four   -- for this text's walks alone
set_option linter.unusedVariables false
set_option linter.unusedSimpArgs false

/-! ### flonglaw12_FillLines: function 4 -/
mutual
def flonglaw12_FillLines.l0 : Nat → Int → List (List (S39)) → Int → Int → Option (Bool)
 | 0, _, _, _, _ => none
 | k + 1, x0, x1, x5, x6 => if x6 < (x1.length : Int) then (if 0 ≤ x6 then (flonglaw12_FillLines.l0 k x0 x1 (wrap64 ((wrap64 (x5 + 1)) + ((rd_L3 x1 x6).length : Int))) (wrap64 (x6 + 1))) else (none)) else (if x5 > 300 then ((flonglaw12_known.f k).bind fun t346 => (some t346)) else (flonglaw12_FillLines.l1 k x0 x1 0))
def flonglaw12_FillLines.l1 : Nat → Int → List (List (S39)) → Int → Option (Bool)
 | 0, _, _, _ => none
 | k + 1, x0, x1, x7 => if x7 < (x1.length : Int) then (if 0 ≤ x7 then ((fill_Forced.f k x0 (rd_L3 x1 x7)).bind fun t348 => ((flongref03_Width.f k (rd_L3 x1 x7)).bind fun t350 => (if (t348 != (decide (t350 > x0))) = true then (some false) else (flonglaw12_FillLines.l1 k x0 x1 (wrap64 (x7 + 1)))))) else (none)) else ((fill_Lines.f x0 x1).bind fun t351 => ((flongref12_Lines.f k x0 x1).bind fun t354 => ((flongref03_SameRows.f k t351 t354).bind fun t357 => (if t357 = true then ((flonglaw12_known.f k).bind fun t358 => (some t358)) else (some false)))))
end
def flonglaw12_FillLines.f (k : Nat) (a0 : Int) (l1 : List (List (S39))) : Option (Bool) := flonglaw12_FillLines.l0 k a0 l1 0 0
theorem flonglaw12_FillLines.mono_l : ∀ k, (∀ y0 y1 y2 y3, LeO (flonglaw12_FillLines.l0 k y0 y1 y2 y3) (flonglaw12_FillLines.l0 (k + 1) y0 y1 y2 y3)) ∧ (∀ y0 y1 y2, LeO (flonglaw12_FillLines.l1 k y0 y1 y2) (flonglaw12_FillLines.l1 (k + 1) y0 y1 y2))
 | 0 => ⟨fun _ _ _ _ r h => by simp [flonglaw12_FillLines.l0] at h, fun _ _ _ r h => by simp [flonglaw12_FillLines.l1] at h⟩
 | k + 1 => by
  obtain ⟨ih0, ih1⟩ := flonglaw12_FillLines.mono_l k
  refine ⟨?_, ?_⟩
  ·intro y0 y1 y2 y3
   unfold flonglaw12_FillLines.l0
   repeat' first
   | (with_reducible exact ih0 _ _ _ _)
   | (with_reducible exact ih1 _ _ _)
   | (with_reducible exact fill_Forced.mono _ _ _)
   | (with_reducible exact flonglaw12_known.mono _)
   | (with_reducible exact flongref03_SameRows.mono _ _ _)
   | (with_reducible exact flongref03_Width.mono _ _)
   | (with_reducible exact flongref12_Lines.mono _ _ _)
   | (with_reducible exact LeO.refl _)
   | (with_reducible exact LeO.none _)
   | (with_reducible refine LeO.ite ?_ ?_)
   | (with_reducible refine LeO.bind ?_ (fun _ => ?_))
   | exact ih0 _ _ _ _
   | exact ih1 _ _ _
   | exact fill_Forced.mono _ _ _
   | exact flonglaw12_known.mono _
   | exact flongref03_SameRows.mono _ _ _
   | exact flongref03_Width.mono _ _
   | exact flongref12_Lines.mono _ _ _
   | exact LeO.none _
   | refine LeO.ite ?_ ?_
   | refine LeO.bind ?_ (fun _ => ?_)
  ·intro y0 y1 y2
   unfold flonglaw12_FillLines.l1
   repeat' first
   | (with_reducible exact ih0 _ _ _ _)
   | (with_reducible exact ih1 _ _ _)
   | (with_reducible exact fill_Forced.mono _ _ _)
   | (with_reducible exact flonglaw12_known.mono _)
   | (with_reducible exact flongref03_SameRows.mono _ _ _)
   | (with_reducible exact flongref03_Width.mono _ _)
   | (with_reducible exact flongref12_Lines.mono _ _ _)
   | (with_reducible exact LeO.refl _)
   | (with_reducible exact LeO.none _)
   | (with_reducible refine LeO.ite ?_ ?_)
   | (with_reducible refine LeO.bind ?_ (fun _ => ?_))
   | exact ih0 _ _ _ _
   | exact ih1 _ _ _
   | exact fill_Forced.mono _ _ _
   | exact flonglaw12_known.mono _
   | exact flongref03_SameRows.mono _ _ _
   | exact flongref03_Width.mono _ _
   | exact flongref12_Lines.mono _ _ _
   | exact LeO.none _
   | refine LeO.ite ?_ ?_
   | refine LeO.bind ?_ (fun _ => ?_)
theorem flonglaw12_FillLines.mono : ∀ a0 a1 k, LeO (flonglaw12_FillLines.f k a0 a1) (flonglaw12_FillLines.f (k + 1) a0 a1) := by
 intro a0 a1 k
 obtain ⟨ih0, ih1⟩ := flonglaw12_FillLines.mono_l k
 unfold flonglaw12_FillLines.f
 repeat' first
   | (with_reducible exact ih0 _ _ _ _)
   | (with_reducible exact ih1 _ _ _)
   | (with_reducible exact fill_Forced.mono _ _ _)
   | (with_reducible exact flonglaw12_known.mono _)
   | (with_reducible exact flongref03_SameRows.mono _ _ _)
   | (with_reducible exact flongref03_Width.mono _ _)
   | (with_reducible exact flongref12_Lines.mono _ _ _)
   | (with_reducible exact LeO.refl _)
   | (with_reducible exact LeO.none _)
   | (with_reducible refine LeO.ite ?_ ?_)
   | (with_reducible refine LeO.bind ?_ (fun _ => ?_))
   | exact ih0 _ _ _ _
   | exact ih1 _ _ _
   | exact fill_Forced.mono _ _ _
   | exact flonglaw12_known.mono _
   | exact flongref03_SameRows.mono _ _ _
   | exact flongref03_Width.mono _ _
   | exact flongref12_Lines.mono _ _ _
   | exact LeO.none _
   | refine LeO.ite ?_ ?_
   | refine LeO.bind ?_ (fun _ => ?_)
def flonglaw12_FillLines.T11 : Bool × List (List Nat × List Nat) := (true, [([], []), ([], []), ([], []), ([1, 2], [1, 2]), ([3], [3]), ([0, 4], [0, 4]), ([], []), ([], []), ([6, 7], [6, 7]), ([8], [8]), ([9, 5], [9]), ([], []), ([10, 11], [10, 11]), ([5, 12], [5, 12])])
def flonglaw12_FillLines.B11 : List Nat := [0, 0, 0, 6, 14, 31, 0, 0, 192, 448, 1023, 0, 4095, 8191]
theorem flonglaw12_FillLines.tab11 : rtab .any (opsOf Tryd.f4 11) = flonglaw12_FillLines.T11 := by kernel_rfl
theorem flonglaw12_FillLines.bits11 : waitsOk flonglaw12_FillLines.T11.2 flonglaw12_FillLines.B11 = true := by kernel_rfl
set_option maxHeartbeats 8000000 in
set_option maxRecDepth 100000 in
theorem flonglaw12_FillLines.calls (k : Nat) (a0 : Int) (A1 : Option Addr) (c1 : Nat) (l1 : List (List (S39))) (r : Bool) (w : World) (hr1 : Kd.C (Kd.slice 39 k39) w A1 l1.length l1) (hc1 : l1.length ≤ c1) (hG : GOK [0,2] w) (h : flonglaw12_FillLines.f k a0 l1 = some r) :
  Calls Tryd.prog 4 #[.int .i64 a0, .slice A1 l1.length c1] w fun e w' => e = .returned (.bool r) ∧ Below w.heap.size w w' := by
 have HG := Aside0.mk hG
 clear hG
 have HR1 := Aside0.mk hr1
 have HC1 := Aside0.mk hc1
 clear hr1 hc1
 have HB := Aside0.mk (Below.refl w.heap.size w)
 have H : (flonglaw12_FillLines.l0 k a0 l1 0 0) = some r := h
 clear h
 have H' := Aside0.mk H
 clear H
 go_enter Tryd.func4, Tryd.ntmps4
 go_wp2
 go_loopg [5, 6] k (fun kq v5 v6 w' => ∃ (x5_1 : Int) (x6_1 : Int), v5 = .int .i64 x5_1 ∧ v6 = .int .i64 x6_1 ∧ Aside0 (flonglaw12_FillLines.l0 kq a0 l1 x5_1 x6_1 = some r) ∧ Aside0 (kq ≤ k) ∧ Aside0 (Below w.heap.size w w'))
 case atStart => exact ⟨(0), (0), (by first | rfl | (simp; done) | (simp [*]; done)), (by first | rfl | (simp; done) | (simp [*]; done)), H', ⟨Nat.le_refl _⟩, ⟨by repeat (first | (with_reducible first | exact HB.out | apply below_alloc | apply pw_below_drewN | apply below_drew1) | exact HB.out)⟩⟩
 case round =>
  clear H'
  try clear c1
  try clear p2
  obtain ⟨x5_1, x6_1, rfl, rfl, HA, HK1, HB⟩ := hrel
  cases gk with
  | zero => exact absurd HA.out (by simp [flonglaw12_FillLines.l0])
  | succ k1 =>
   have H := HA.out
   clear HA
   simp only [flonglaw12_FillLines.l0] at H
   by_cases c3 : x6_1 < (l1.length : Int)
   ·rw [if_pos c3] at H
    have c3b0 : decide (x6_1 < (l1.length : Int)) = true := decide_eq_true c3
    clear c3
    by_cases c4 : 0 ≤ x6_1
    ·rw [if_pos c4] at H
     have c4b0 : decide (0 ≤ x6_1) = true := decide_eq_true c4
     clear c4
     have H' := Aside0.mk H
     clear H
     have p345 : 0 ≤ (x6_1 : Int) := of_decide_eq_true (by first | (with_reducible assumption) | assumption)
     have q345 : x6_1 < (l1.length : Int) := of_decide_eq_true (by first | (with_reducible assumption) | assumption)
     obtain ⟨ad345, A345_0, c345_0, e345, hx345_0, hl345_0, hi345_0⟩ := at_L3 HR1.out x6_1 p345 q345
     cases e345
     replace hx345_0 := (HB.out.cell (World.block_lt_of_cell? w _ hx345_0)).trans hx345_0
     have HR345_0 := Aside0.mk hi345_0
     have HC345_0 := Aside0.mk hl345_0
     clear hi345_0 hl345_0
     replace p345 := eq_true p345
     replace q345 := eq_true q345
     go_wp2
     go_roundg k1
     case measure => have := HK1.out; omega
     case rel => exact ⟨(wrap64 ((wrap64 (x5_1 + 1)) + ((rd_L3 l1 x6_1).length : Int))), (wrap64 (x6_1 + 1)), (by first | rfl | (simp; done) | (simp [*]; done)), (by first | rfl | (simp; done) | (simp [*]; done)), H', ⟨by have := HK1.out; omega⟩, ⟨by repeat (first | (with_reducible first | exact HB.out | apply below_alloc | apply pw_below_drewN | apply below_drew1) | exact HB.out)⟩⟩
    ·rw [if_neg c4] at H
     exact absurd H (by simp)
   ·rw [if_neg c3] at H
    have c3b0 : decide (x6_1 < (l1.length : Int)) = false := decide_eq_false c3
    clear c3
    by_cases c5 : x5_1 > 300
    ·rw [if_pos c5] at H
     have c5b0 : decide (300 < x5_1) = true := decide_eq_true c5
     clear c5
     replace H := Option.bind_eq_some_iff.mp H
     obtain ⟨t346, A60, H⟩ := H
     replace H : (some t346) = some r := H
     have A6 := Aside0.mk A60
     clear A60
     obtain rfl := Option.some.inj H
     go_wp2_with (first | ((with_reducible refine gate_callee (f := 8) rfl ?_); refine goesL_ (some 24) rfl rfl Tryd.func8 (by kernel_rfl) rfl #[] rfl (by (try simp only [List.map_toArray, List.map_cons, List.map_nil]); first | done | rfl | (simp only [List.length_drop, List.length_take]; rfl)) ?_; (with_reducible refine (flonglaw12_known.calls k1  t346 _ ?side1 A6.out).mono ?_); (case side1 => exact GOK.of_below (GOK.sub HG.out rfl) (by repeat (first | (with_reducible first | exact HB.out | apply below_alloc | apply pw_below_drewN | apply below_drew1) | exact HB.out))); rintro e w7 ⟨rfl, hb⟩; refine ⟨_, rfl, ?_⟩; have n0_ := Aside0.mk (below_step (by repeat (first | (with_reducible first | exact HB.out | apply below_alloc | apply pw_below_drewN | apply below_drew1) | exact HB.out)) hb); clear HB; have HB := n0_; clear n0_; (try clear hb); (try clear hb2); (try clear hk); (try clear hi)))
     go_ret
     exact ⟨by first | rfl | (simp [errW_none, errW_some] <;> rfl) | (simp [*, errW_none, errW_some] <;> rfl), by repeat (first | (with_reducible first | exact HB.out | apply below_alloc | apply pw_below_drewN | apply below_drew1) | exact HB.out)⟩
    ·rw [if_neg c5] at H
     have c5b0 : decide (300 < x5_1) = false := decide_eq_false c5
     clear c5
     have H' := Aside0.mk H
     clear H
     go_wp2
     go_loopg [7] k1 (fun kq v7 w' => ∃ (x7_2 : Int), v7 = .int .i64 x7_2 ∧ Aside0 (flonglaw12_FillLines.l1 kq a0 l1 x7_2 = some r) ∧ Aside0 (kq ≤ k1) ∧ Aside0 (Below w.heap.size w w'))
     case atStart => exact ⟨(0), (by first | rfl | (simp; done) | (simp [*]; done)), H', ⟨Nat.le_refl _⟩, ⟨by repeat (first | (with_reducible first | exact HB.out | apply below_alloc | apply pw_below_drewN | apply below_drew1) | exact HB.out)⟩⟩
     case round =>
      clear H'
      try clear c1
      try clear p2
      try clear c3
      try clear c3b0
      try clear p3
      try clear q3
      try clear hx3
      try clear c4
      try clear c4b0
      try clear c5
      try clear c5b0
      try clear p6
      try clear hx345_0
      try clear p2
      try clear p345
      try clear q345
      obtain ⟨x7_2, rfl, HA, HK2, HB⟩ := hrel
      cases gk with
      | zero => exact absurd HA.out (by simp [flonglaw12_FillLines.l1])
      | succ k2 =>
       have H := HA.out
       clear HA
       simp only [flonglaw12_FillLines.l1] at H
       by_cases c8 : x7_2 < (l1.length : Int)
       ·rw [if_pos c8] at H
        have c8b0 : decide (x7_2 < (l1.length : Int)) = true := decide_eq_true c8
        clear c8
        by_cases c9 : 0 ≤ x7_2
        ·rw [if_pos c9] at H
         have c9b0 : decide (0 ≤ x7_2) = true := decide_eq_true c9
         clear c9
         replace H := Option.bind_eq_some_iff.mp H
         obtain ⟨t348, A100, H⟩ := H
         replace H : ((flongref03_Width.f k2 (rd_L3 l1 x7_2)).bind fun t350 => (if (t348 != (decide (t350 > a0))) = true then (some false) else (flonglaw12_FillLines.l1 k2 a0 l1 (wrap64 (x7_2 + 1))))) = some r := H
         have A10 := Aside0.mk A100
         clear A100
         replace H := Option.bind_eq_some_iff.mp H
         obtain ⟨t350, A110, H⟩ := H
         replace H : (if (t348 != (decide (t350 > a0))) = true then (some false) else (flonglaw12_FillLines.l1 k2 a0 l1 (wrap64 (x7_2 + 1)))) = some r := H
         have A11 := Aside0.mk A110
         clear A110
         by_cases c12 : (t348 != (decide (t350 > a0))) = true
         ·rw [if_pos c12] at H
          have c12b0 : (t348 != (decide (t350 > a0))) = true := c12
          (try (have c12b1 : decide (t348 = (decide (t350 > a0))) = false := by simpa using c12))
          (try (have c12b2 : (t348 == (decide (t350 > a0))) = false := by simpa using c12))
          (try (have c12b3 : ¬ (t348 = (decide (t350 > a0))) := by simpa using c12))
          clear c12
          obtain rfl := Option.some.inj H
          try go_wp2
          have n0_ := Aside0.mk (below_drew1 HB.out)
          clear HB
          have HB := n0_
          clear n0_
          have p347 : 0 ≤ (x7_2 : Int) := of_decide_eq_true (by first | (with_reducible assumption) | assumption)
          have q347 : x7_2 < (l1.length : Int) := of_decide_eq_true (by first | (with_reducible assumption) | assumption)
          obtain ⟨ad347, A347_0, c347_0, e347, hx347_0, hl347_0, hi347_0⟩ := at_L3 HR1.out x7_2 p347 q347
          have hw347_0 := hx347_0
          cases e347
          replace hx347_0 := (HB.out.cell (World.block_lt_of_cell? w _ hx347_0)).trans hx347_0
          have HR347_0 := Aside0.mk hi347_0
          have HC347_0 := Aside0.mk hl347_0
          clear hi347_0 hl347_0
          replace p347 := eq_true p347
          replace q347 := eq_true q347
          have p349 : 0 ≤ (x7_2 : Int) := of_decide_eq_true (by first | (with_reducible assumption) | assumption)
          have q349 : x7_2 < (l1.length : Int) := of_decide_eq_true (by first | (with_reducible assumption) | assumption)
          obtain ⟨ad349, A349_0, c349_0, e349, hx349_0, hl349_0, hi349_0⟩ := at_L3 HR1.out x7_2 p349 q349
          have hw349_0 := hx349_0
          obtain rfl : ad347 = ad349 := (by injection e349)
          replace hx349_0 := (HB.out.cell (World.block_lt_of_cell? w _ hx349_0)).trans hx349_0
          have HR349_0 := Aside0.mk hi349_0
          have HC349_0 := Aside0.mk hl349_0
          clear hi349_0 hl349_0
          replace p349 := eq_true p349
          replace q349 := eq_true q349
          have ea_ := Option.some.inj (hx347_0.symm.trans hx349_0)
          injection ea_ with ea_ en_ ec_
          subst ea_
          subst ec_
          clear en_
          have EQ347_0 := Aside0.mk (show A347_0 = A347_0 ∧ c347_0 = c347_0 from by have h_ := Option.some.inj (hx347_0.symm.trans hx347_0); injection h_ with h1_ h2_ h3_; exact ⟨h1_, h3_⟩)
          refine start_ (n := 14) (S := fun w' => w'.cell? (ad347.add (x7_2).toNat) = some (.slice A347_0 (rd_L3 l1 x7_2).length c347_0) ∧ w'.cell? (ad347.add (x7_2).toNat) = some (.slice A347_0 (rd_L3 l1 x7_2).length c347_0)) (ds := []) #[false, false, false, false, false, false, false, false, false, false, false, false, false, false] (by kernel_rfl) rfl rfl ⟨((HB.out.cell (World.block_lt_of_cell? w _ hw347_0)).trans hw347_0), ((HB.out.cell (World.block_lt_of_cell? w _ hw349_0)).trans hw349_0)⟩ (fun hHeld => ?_); refine with_tabW flonglaw12_FillLines.tab11 flonglaw12_FillLines.bits11 (fun HT_ HW_ => ?_)
          generalize wr.drew = w13 at HB HR347_0 HR349_0 hx347_0 hx349_0 hHeld ⊢
          refine pure_ (i := 0) (N := some 31) (v := ?_) (a' := ?_) #[true, false, false, false, false, false, false, false, false, false, false, false, false, false] rfl rfl (any_of HT_.out (by kernel_rfl)) (fun _ _ _ h => h) (Or.inl ⟨by rfl, ?_⟩) ?_ ?_
          rotate_left
          ·intro w'
           go_simp
           with_reducible rfl
          rotate_left
          ·simp only [Act.put, List.setIfInBounds_toArray, List.set_cons_zero, List.set_cons_succ, i64_w, i32_w]
           rfl
          refine pure_ (i := 1) (N := some 32) (v := ?_) (a' := ?_) #[true, true, false, false, false, false, false, false, false, false, false, false, false, false] rfl rfl (any_of HT_.out (by kernel_rfl)) (fun _ _ _ h => h) (Or.inl ⟨by rfl, ?_⟩) ?_ ?_
          rotate_left
          ·intro w'
           go_simp
           with_reducible rfl
          rotate_left
          ·simp only [Act.put, List.setIfInBounds_toArray, List.set_cons_zero, List.set_cons_succ, i64_w, i32_w]
           rfl
          refine pure_ (i := 2) (N := some 33) (v := ?_) (a' := ?_) #[true, true, true, false, false, false, false, false, false, false, false, false, false, false] rfl rfl (any_of HT_.out (by kernel_rfl)) (fun _ _ _ h => h) (Or.inl ⟨by rfl, ?_⟩) ?_ ?_
          rotate_left
          ·intro w'
           go_simp
           with_reducible rfl
          rotate_left
          ·simp only [Act.put, List.setIfInBounds_toArray, List.set_cons_zero, List.set_cons_succ, i64_w, i32_w]
           rfl
          refine pure_ (i := 3) (N := some 34) (v := ?_) (a' := ?_) #[true, true, true, true, false, false, false, false, false, false, false, false, false, false] rfl rfl (any_of HT_.out (by kernel_rfl)) (fun _ _ _ h => h) (Or.inl ⟨by rfl, ?_⟩) ?_ ?_
          rotate_left
          ·intro w'
           go_simp
           with_reducible rfl
          rotate_left
          ·simp only [Act.put, List.setIfInBounds_toArray, List.set_cons_zero, List.set_cons_succ, i64_w, i32_w]
           rfl
          refine pure_ (i := 6) (N := some 37) (v := ?_) (a' := ?_) #[true, true, true, true, false, false, true, false, false, false, false, false, false, false] rfl rfl (any_of HT_.out (by kernel_rfl)) (fun _ _ _ h => h) (Or.inl ⟨by rfl, ?_⟩) ?_ ?_
          rotate_left
          ·intro w'
           go_simp
           with_reducible rfl
          rotate_left
          ·simp only [Act.put, List.setIfInBounds_toArray, List.set_cons_zero, List.set_cons_succ, i64_w, i32_w]
           rfl
          refine pure_ (i := 7) (N := some 38) (v := ?_) (a' := ?_) #[true, true, true, true, false, false, true, true, false, false, false, false, false, false] rfl rfl (any_of HT_.out (by kernel_rfl)) (fun _ _ _ h => h) (Or.inl ⟨by rfl, ?_⟩) ?_ ?_
          rotate_left
          ·intro w'
           go_simp
           with_reducible rfl
          rotate_left
          ·simp only [Act.put, List.setIfInBounds_toArray, List.set_cons_zero, List.set_cons_succ, i64_w, i32_w]
           rfl
          refine pure_ (i := 8) (N := some 39) (v := ?_) (a' := ?_) #[true, true, true, true, false, false, true, true, true, false, false, false, false, false] rfl rfl (any_of HT_.out (by kernel_rfl)) (fun _ _ _ h => h) (Or.inl ⟨by rfl, ?_⟩) ?_ ?_
          rotate_left
          ·intro w'
           go_simp
           with_reducible rfl
          rotate_left
          ·simp only [Act.put, List.setIfInBounds_toArray, List.set_cons_zero, List.set_cons_succ, i64_w, i32_w]
           rfl
          refine pure_ (i := 11) (N := some 42) (v := ?_) (a' := ?_) #[true, true, true, true, false, false, true, true, true, false, false, true, false, false] rfl rfl (any_of HT_.out (by kernel_rfl)) (fun _ _ _ h => h) (Or.inl ⟨by rfl, ?_⟩) ?_ ?_
          rotate_left
          ·intro w'
           go_simp
           with_reducible rfl
          rotate_left
          ·simp only [Act.put, List.setIfInBounds_toArray, List.set_cons_zero, List.set_cons_succ, i64_w, i32_w]
           rfl
          refine take_ (i := 4) (N := some 35) (v := ?_) (a' := ?_) #[true, true, true, true, true, false, true, true, true, false, false, true, false, false] rfl rfl (take_ofW HT_.out HW_.out (by kernel_rfl)) (fun _ _ _ h => h) (Or.inl ⟨by rfl, ?_⟩) hHeld ?_ ?_
          rotate_left
          ·rintro w' ⟨s0, s1⟩
           go_simp
           with_reducible rfl
          rotate_left
          ·simp only [Act.put, List.setIfInBounds_toArray, List.set_cons_zero, List.set_cons_succ, i64_w, i32_w]
           rfl
          refine take_ (i := 9) (N := some 40) (v := ?_) (a' := ?_) #[true, true, true, true, true, false, true, true, true, true, false, true, false, false] rfl rfl (take_ofW HT_.out HW_.out (by kernel_rfl)) (fun _ _ _ h => h) (Or.inl ⟨by rfl, ?_⟩) hHeld ?_ ?_
          rotate_left
          ·rintro w' ⟨s0, s1⟩
           go_simp
           with_reducible rfl
          rotate_left
          ·simp only [Act.put, List.setIfInBounds_toArray, List.set_cons_zero, List.set_cons_succ, i64_w, i32_w]
           rfl
          refine one_ (i := 5) (N := some 36) #[true, true, true, true, true, true, true, true, true, true, false, true, false, false] rfl rfl (one_of HT_.out (by kernel_rfl)) (by decide) (fun K hK => ?_)
          refine goes_ Tryd.func16 (by kernel_rfl) rfl #[.int .i64 a0, .slice A347_0 (rd_L3 l1 x7_2).length c347_0] (by rfl) rfl rfl (by (try simp only [List.map_toArray, List.map_cons, List.map_nil]); first | done | rfl | (simp only [EQ347_0.out.1, EQ347_0.out.2]; done) | (simp only [EQ347_0.out.1, EQ347_0.out.2]; rfl) | (simp only [List.length_drop, List.length_take]; rfl)) ?_
          with_reducible refine (fill_Forced.calls k2 a0 _ _ (rd_L3 l1 x7_2) t348 _ ?side1 ?side2 ?side3 A10.out).mono ?_
          (case side1 => repeat (first | exact (Kd.C_below HR347_0.out HB.out) | (with_reducible refine Kd.C_alloc ?_ _) | (with_reducible refine Kd.C_drewN ?_ _) | (with_reducible refine Kd.C_drew ?_)))
          (case side2 => exact HC347_0.out)
          (case side3 => exact GOK.of_below (GOK.sub HG.out rfl) (by repeat (first | (with_reducible first | exact HB.out | apply below_alloc | apply pw_below_drewN | apply below_drew1) | exact HB.out)))
          rintro e w14 ⟨rfl, hb⟩
          refine ⟨_, rfl, ?_⟩
          have n0_ := Aside0.mk (below_step (by repeat (first | (with_reducible first | exact HB.out | apply below_alloc | apply pw_below_drewN | apply below_drew1) | exact HB.out)) hb)
          clear HB
          have HB := n0_
          clear n0_
          try have HR347_0 := Aside0.mk (Kd.C_below HR347_0.out hb)
          try have HR349_0 := Aside0.mk (Kd.C_below HR349_0.out hb)
          (try clear hb)
          (try clear hb2)
          (try clear hk)
          (try clear hi)
          refine hK.out _ _ ⟨((HB.out.cell (World.block_lt_of_cell? w _ hw347_0)).trans hw347_0), ((HB.out.cell (World.block_lt_of_cell? w _ hw349_0)).trans hw349_0)⟩ (fun hHeld => ?_)
          clear hK K
          refine norm_ (a' := ?_) ?_ ?_
          rotate_left
          ·show Act.put _ (some 36) _ = _
           simp only [Act.put, List.setIfInBounds_toArray, List.set_cons_zero, List.set_cons_succ, i64_w, i32_w]
           rfl
          refine one_ (i := 10) (N := some 41) #[true, true, true, true, true, true, true, true, true, true, true, true, false, false] rfl rfl (one_of HT_.out (by kernel_rfl)) (by decide) (fun K hK => ?_)
          refine goes_ Tryd.func12 (by kernel_rfl) rfl #[.slice A347_0 (rd_L3 l1 x7_2).length c347_0] (by rfl) rfl rfl (by (try simp only [List.map_toArray, List.map_cons, List.map_nil]); first | done | rfl | (simp only [EQ347_0.out.1, EQ347_0.out.2]; done) | (simp only [EQ347_0.out.1, EQ347_0.out.2]; rfl) | (simp only [List.length_drop, List.length_take]; rfl)) ?_
          with_reducible refine (flongref03_Width.calls k2 _ _ (rd_L3 l1 x7_2) t350 _ ?side1 ?side2 A11.out).mono ?_
          (case side1 => repeat (first | exact (Kd.C_below HR349_0.out HB.out) | (with_reducible refine Kd.C_alloc ?_ _) | (with_reducible refine Kd.C_drewN ?_ _) | (with_reducible refine Kd.C_drew ?_)))
          (case side2 => exact HC349_0.out)
          rintro e w15 ⟨rfl, hb⟩
          refine ⟨_, rfl, ?_⟩
          have n0_ := Aside0.mk (below_step (by repeat (first | (with_reducible first | exact HB.out | apply below_alloc | apply pw_below_drewN | apply below_drew1) | exact HB.out)) hb)
          clear HB
          have HB := n0_
          clear n0_
          try have HR347_0 := Aside0.mk (Kd.C_below HR347_0.out hb)
          try have HR349_0 := Aside0.mk (Kd.C_below HR349_0.out hb)
          (try clear hb)
          (try clear hb2)
          (try clear hk)
          (try clear hi)
          refine hK.out _ _ ⟨((HB.out.cell (World.block_lt_of_cell? w _ hw347_0)).trans hw347_0), ((HB.out.cell (World.block_lt_of_cell? w _ hw349_0)).trans hw349_0)⟩ (fun hHeld => ?_)
          clear hK K
          refine norm_ (a' := ?_) ?_ ?_
          rotate_left
          ·show Act.put _ (some 41) _ = _
           simp only [Act.put, List.setIfInBounds_toArray, List.set_cons_zero, List.set_cons_succ, i64_w, i32_w]
           rfl
          refine pure_ (i := 12) (N := some 43) (v := ?_) (a' := ?_) #[true, true, true, true, true, true, true, true, true, true, true, true, true, false] rfl rfl (any_of HT_.out (by kernel_rfl)) (fun _ _ _ h => h) (Or.inl ⟨by rfl, ?_⟩) ?_ ?_
          rotate_left
          ·intro w'
           go_simp
           with_reducible rfl
          rotate_left
          ·simp only [Act.put, List.setIfInBounds_toArray, List.set_cons_zero, List.set_cons_succ, i64_w, i32_w]
           rfl
          refine pure_ (i := 13) (N := some 44) (v := ?_) (a' := ?_) #[true, true, true, true, true, true, true, true, true, true, true, true, true, true] rfl rfl (any_of HT_.out (by kernel_rfl)) (fun _ _ _ h => h) (Or.inl ⟨by rfl, ?_⟩) ?_ ?_
          rotate_left
          ·intro w'
           go_simp
           with_reducible rfl
          rotate_left
          ·simp only [Act.put, List.setIfInBounds_toArray, List.set_cons_zero, List.set_cons_succ, i64_w, i32_w]
           rfl
          refine done_ (done_of HT_.out (by kernel_rfl)) ?_
          try go_wp2
          go_ret
          exact ⟨by first | rfl | (simp [errW_none, errW_some] <;> rfl) | (simp [*, errW_none, errW_some] <;> rfl), by repeat (first | (with_reducible first | exact HB.out | apply below_alloc | apply pw_below_drewN | apply below_drew1) | exact HB.out)⟩
         ·rw [if_neg c12] at H
          have c12b0 : (t348 != (decide (t350 > a0))) = false := by simpa using c12
          (try (have c12b1 : decide (t348 = (decide (t350 > a0))) = true := by simpa using c12))
          (try (have c12b2 : (t348 == (decide (t350 > a0))) = true := by simpa using c12))
          clear c12
          have H' := Aside0.mk H
          clear H
          try go_wp2
          have n0_ := Aside0.mk (below_drew1 HB.out)
          clear HB
          have HB := n0_
          clear n0_
          have p347 : 0 ≤ (x7_2 : Int) := of_decide_eq_true (by first | (with_reducible assumption) | assumption)
          have q347 : x7_2 < (l1.length : Int) := of_decide_eq_true (by first | (with_reducible assumption) | assumption)
          obtain ⟨ad347, A347_0, c347_0, e347, hx347_0, hl347_0, hi347_0⟩ := at_L3 HR1.out x7_2 p347 q347
          have hw347_0 := hx347_0
          cases e347
          replace hx347_0 := (HB.out.cell (World.block_lt_of_cell? w _ hx347_0)).trans hx347_0
          have HR347_0 := Aside0.mk hi347_0
          have HC347_0 := Aside0.mk hl347_0
          clear hi347_0 hl347_0
          replace p347 := eq_true p347
          replace q347 := eq_true q347
          have p349 : 0 ≤ (x7_2 : Int) := of_decide_eq_true (by first | (with_reducible assumption) | assumption)
          have q349 : x7_2 < (l1.length : Int) := of_decide_eq_true (by first | (with_reducible assumption) | assumption)
          obtain ⟨ad349, A349_0, c349_0, e349, hx349_0, hl349_0, hi349_0⟩ := at_L3 HR1.out x7_2 p349 q349
          have hw349_0 := hx349_0
          obtain rfl : ad347 = ad349 := (by injection e349)
          replace hx349_0 := (HB.out.cell (World.block_lt_of_cell? w _ hx349_0)).trans hx349_0
          have HR349_0 := Aside0.mk hi349_0
          have HC349_0 := Aside0.mk hl349_0
          clear hi349_0 hl349_0
          replace p349 := eq_true p349
          replace q349 := eq_true q349
          have ea_ := Option.some.inj (hx347_0.symm.trans hx349_0)
          injection ea_ with ea_ en_ ec_
          subst ea_
          subst ec_
          clear en_
          have EQ347_0 := Aside0.mk (show A347_0 = A347_0 ∧ c347_0 = c347_0 from by have h_ := Option.some.inj (hx347_0.symm.trans hx347_0); injection h_ with h1_ h2_ h3_; exact ⟨h1_, h3_⟩)
          refine start_ (n := 14) (S := fun w' => w'.cell? (ad347.add (x7_2).toNat) = some (.slice A347_0 (rd_L3 l1 x7_2).length c347_0) ∧ w'.cell? (ad347.add (x7_2).toNat) = some (.slice A347_0 (rd_L3 l1 x7_2).length c347_0)) (ds := []) #[false, false, false, false, false, false, false, false, false, false, false, false, false, false] (by kernel_rfl) rfl rfl ⟨((HB.out.cell (World.block_lt_of_cell? w _ hw347_0)).trans hw347_0), ((HB.out.cell (World.block_lt_of_cell? w _ hw349_0)).trans hw349_0)⟩ (fun hHeld => ?_); refine with_tabW flonglaw12_FillLines.tab11 flonglaw12_FillLines.bits11 (fun HT_ HW_ => ?_)
          generalize wr.drew = w16 at HB HR347_0 HR349_0 hx347_0 hx349_0 hHeld ⊢
          refine pure_ (i := 0) (N := some 31) (v := ?_) (a' := ?_) #[true, false, false, false, false, false, false, false, false, false, false, false, false, false] rfl rfl (any_of HT_.out (by kernel_rfl)) (fun _ _ _ h => h) (Or.inl ⟨by rfl, ?_⟩) ?_ ?_
          rotate_left
          ·intro w'
           go_simp
           with_reducible rfl
          rotate_left
          ·simp only [Act.put, List.setIfInBounds_toArray, List.set_cons_zero, List.set_cons_succ, i64_w, i32_w]
           rfl
          refine pure_ (i := 1) (N := some 32) (v := ?_) (a' := ?_) #[true, true, false, false, false, false, false, false, false, false, false, false, false, false] rfl rfl (any_of HT_.out (by kernel_rfl)) (fun _ _ _ h => h) (Or.inl ⟨by rfl, ?_⟩) ?_ ?_
          rotate_left
          ·intro w'
           go_simp
           with_reducible rfl
          rotate_left
          ·simp only [Act.put, List.setIfInBounds_toArray, List.set_cons_zero, List.set_cons_succ, i64_w, i32_w]
           rfl
          refine pure_ (i := 2) (N := some 33) (v := ?_) (a' := ?_) #[true, true, true, false, false, false, false, false, false, false, false, false, false, false] rfl rfl (any_of HT_.out (by kernel_rfl)) (fun _ _ _ h => h) (Or.inl ⟨by rfl, ?_⟩) ?_ ?_
          rotate_left
          ·intro w'
           go_simp
           with_reducible rfl
          rotate_left
          ·simp only [Act.put, List.setIfInBounds_toArray, List.set_cons_zero, List.set_cons_succ, i64_w, i32_w]
           rfl
          refine pure_ (i := 3) (N := some 34) (v := ?_) (a' := ?_) #[true, true, true, true, false, false, false, false, false, false, false, false, false, false] rfl rfl (any_of HT_.out (by kernel_rfl)) (fun _ _ _ h => h) (Or.inl ⟨by rfl, ?_⟩) ?_ ?_
          rotate_left
          ·intro w'
           go_simp
           with_reducible rfl
          rotate_left
          ·simp only [Act.put, List.setIfInBounds_toArray, List.set_cons_zero, List.set_cons_succ, i64_w, i32_w]
           rfl
          refine pure_ (i := 6) (N := some 37) (v := ?_) (a' := ?_) #[true, true, true, true, false, false, true, false, false, false, false, false, false, false] rfl rfl (any_of HT_.out (by kernel_rfl)) (fun _ _ _ h => h) (Or.inl ⟨by rfl, ?_⟩) ?_ ?_
          rotate_left
          ·intro w'
           go_simp
           with_reducible rfl
          rotate_left
          ·simp only [Act.put, List.setIfInBounds_toArray, List.set_cons_zero, List.set_cons_succ, i64_w, i32_w]
           rfl
          refine pure_ (i := 7) (N := some 38) (v := ?_) (a' := ?_) #[true, true, true, true, false, false, true, true, false, false, false, false, false, false] rfl rfl (any_of HT_.out (by kernel_rfl)) (fun _ _ _ h => h) (Or.inl ⟨by rfl, ?_⟩) ?_ ?_
          rotate_left
          ·intro w'
           go_simp
           with_reducible rfl
          rotate_left
          ·simp only [Act.put, List.setIfInBounds_toArray, List.set_cons_zero, List.set_cons_succ, i64_w, i32_w]
           rfl
          refine pure_ (i := 8) (N := some 39) (v := ?_) (a' := ?_) #[true, true, true, true, false, false, true, true, true, false, false, false, false, false] rfl rfl (any_of HT_.out (by kernel_rfl)) (fun _ _ _ h => h) (Or.inl ⟨by rfl, ?_⟩) ?_ ?_
          rotate_left
          ·intro w'
           go_simp
           with_reducible rfl
          rotate_left
          ·simp only [Act.put, List.setIfInBounds_toArray, List.set_cons_zero, List.set_cons_succ, i64_w, i32_w]
           rfl
          refine pure_ (i := 11) (N := some 42) (v := ?_) (a' := ?_) #[true, true, true, true, false, false, true, true, true, false, false, true, false, false] rfl rfl (any_of HT_.out (by kernel_rfl)) (fun _ _ _ h => h) (Or.inl ⟨by rfl, ?_⟩) ?_ ?_
          rotate_left
          ·intro w'
           go_simp
           with_reducible rfl
          rotate_left
          ·simp only [Act.put, List.setIfInBounds_toArray, List.set_cons_zero, List.set_cons_succ, i64_w, i32_w]
           rfl
          refine take_ (i := 4) (N := some 35) (v := ?_) (a' := ?_) #[true, true, true, true, true, false, true, true, true, false, false, true, false, false] rfl rfl (take_ofW HT_.out HW_.out (by kernel_rfl)) (fun _ _ _ h => h) (Or.inl ⟨by rfl, ?_⟩) hHeld ?_ ?_
          rotate_left
          ·rintro w' ⟨s0, s1⟩
           go_simp
           with_reducible rfl
          rotate_left
          ·simp only [Act.put, List.setIfInBounds_toArray, List.set_cons_zero, List.set_cons_succ, i64_w, i32_w]
           rfl
          refine take_ (i := 9) (N := some 40) (v := ?_) (a' := ?_) #[true, true, true, true, true, false, true, true, true, true, false, true, false, false] rfl rfl (take_ofW HT_.out HW_.out (by kernel_rfl)) (fun _ _ _ h => h) (Or.inl ⟨by rfl, ?_⟩) hHeld ?_ ?_
          rotate_left
          ·rintro w' ⟨s0, s1⟩
           go_simp
           with_reducible rfl
          rotate_left
          ·simp only [Act.put, List.setIfInBounds_toArray, List.set_cons_zero, List.set_cons_succ, i64_w, i32_w]
           rfl
          refine one_ (i := 5) (N := some 36) #[true, true, true, true, true, true, true, true, true, true, false, true, false, false] rfl rfl (one_of HT_.out (by kernel_rfl)) (by decide) (fun K hK => ?_)
          refine goes_ Tryd.func16 (by kernel_rfl) rfl #[.int .i64 a0, .slice A347_0 (rd_L3 l1 x7_2).length c347_0] (by rfl) rfl rfl (by (try simp only [List.map_toArray, List.map_cons, List.map_nil]); first | done | rfl | (simp only [EQ347_0.out.1, EQ347_0.out.2]; done) | (simp only [EQ347_0.out.1, EQ347_0.out.2]; rfl) | (simp only [List.length_drop, List.length_take]; rfl)) ?_
          with_reducible refine (fill_Forced.calls k2 a0 _ _ (rd_L3 l1 x7_2) t348 _ ?side1 ?side2 ?side3 A10.out).mono ?_
          (case side1 => repeat (first | exact (Kd.C_below HR347_0.out HB.out) | (with_reducible refine Kd.C_alloc ?_ _) | (with_reducible refine Kd.C_drewN ?_ _) | (with_reducible refine Kd.C_drew ?_)))
          (case side2 => exact HC347_0.out)
          (case side3 => exact GOK.of_below (GOK.sub HG.out rfl) (by repeat (first | (with_reducible first | exact HB.out | apply below_alloc | apply pw_below_drewN | apply below_drew1) | exact HB.out)))
          rintro e w17 ⟨rfl, hb⟩
          refine ⟨_, rfl, ?_⟩
          have n0_ := Aside0.mk (below_step (by repeat (first | (with_reducible first | exact HB.out | apply below_alloc | apply pw_below_drewN | apply below_drew1) | exact HB.out)) hb)
          clear HB
          have HB := n0_
          clear n0_
          try have HR349_0 := Aside0.mk (Kd.C_below HR349_0.out hb)
          (try clear hb)
          (try clear hb2)
          (try clear hk)
          (try clear hi)
          refine hK.out _ _ ⟨((HB.out.cell (World.block_lt_of_cell? w _ hw347_0)).trans hw347_0), ((HB.out.cell (World.block_lt_of_cell? w _ hw349_0)).trans hw349_0)⟩ (fun hHeld => ?_)
          clear hK K
          refine norm_ (a' := ?_) ?_ ?_
          rotate_left
          ·show Act.put _ (some 36) _ = _
           simp only [Act.put, List.setIfInBounds_toArray, List.set_cons_zero, List.set_cons_succ, i64_w, i32_w]
           rfl
          refine one_ (i := 10) (N := some 41) #[true, true, true, true, true, true, true, true, true, true, true, true, false, false] rfl rfl (one_of HT_.out (by kernel_rfl)) (by decide) (fun K hK => ?_)
          refine goes_ Tryd.func12 (by kernel_rfl) rfl #[.slice A347_0 (rd_L3 l1 x7_2).length c347_0] (by rfl) rfl rfl (by (try simp only [List.map_toArray, List.map_cons, List.map_nil]); first | done | rfl | (simp only [EQ347_0.out.1, EQ347_0.out.2]; done) | (simp only [EQ347_0.out.1, EQ347_0.out.2]; rfl) | (simp only [List.length_drop, List.length_take]; rfl)) ?_
          with_reducible refine (flongref03_Width.calls k2 _ _ (rd_L3 l1 x7_2) t350 _ ?side1 ?side2 A11.out).mono ?_
          (case side1 => repeat (first | exact (Kd.C_below HR349_0.out HB.out) | (with_reducible refine Kd.C_alloc ?_ _) | (with_reducible refine Kd.C_drewN ?_ _) | (with_reducible refine Kd.C_drew ?_)))
          (case side2 => exact HC349_0.out)
          rintro e w18 ⟨rfl, hb⟩
          refine ⟨_, rfl, ?_⟩
          have n0_ := Aside0.mk (below_step (by repeat (first | (with_reducible first | exact HB.out | apply below_alloc | apply pw_below_drewN | apply below_drew1) | exact HB.out)) hb)
          clear HB
          have HB := n0_
          clear n0_
          (try clear hb)
          (try clear hb2)
          (try clear hk)
          (try clear hi)
          refine hK.out _ _ ⟨((HB.out.cell (World.block_lt_of_cell? w _ hw347_0)).trans hw347_0), ((HB.out.cell (World.block_lt_of_cell? w _ hw349_0)).trans hw349_0)⟩ (fun hHeld => ?_)
          clear hK K
          refine norm_ (a' := ?_) ?_ ?_
          rotate_left
          ·show Act.put _ (some 41) _ = _
           simp only [Act.put, List.setIfInBounds_toArray, List.set_cons_zero, List.set_cons_succ, i64_w, i32_w]
           rfl
          refine pure_ (i := 12) (N := some 43) (v := ?_) (a' := ?_) #[true, true, true, true, true, true, true, true, true, true, true, true, true, false] rfl rfl (any_of HT_.out (by kernel_rfl)) (fun _ _ _ h => h) (Or.inl ⟨by rfl, ?_⟩) ?_ ?_
          rotate_left
          ·intro w'
           go_simp
           with_reducible rfl
          rotate_left
          ·simp only [Act.put, List.setIfInBounds_toArray, List.set_cons_zero, List.set_cons_succ, i64_w, i32_w]
           rfl
          refine pure_ (i := 13) (N := some 44) (v := ?_) (a' := ?_) #[true, true, true, true, true, true, true, true, true, true, true, true, true, true] rfl rfl (any_of HT_.out (by kernel_rfl)) (fun _ _ _ h => h) (Or.inl ⟨by rfl, ?_⟩) ?_ ?_
          rotate_left
          ·intro w'
           go_simp
           with_reducible rfl
          rotate_left
          ·simp only [Act.put, List.setIfInBounds_toArray, List.set_cons_zero, List.set_cons_succ, i64_w, i32_w]
           rfl
          refine done_ (done_of HT_.out (by kernel_rfl)) ?_
          try go_wp2
          go_roundg k2
          case measure => have := HK1.out; have := HK2.out; omega
          case rel => exact ⟨(wrap64 (x7_2 + 1)), (by first | rfl | (simp; done) | (simp [*]; done)), H', ⟨by have := HK1.out; have := HK2.out; omega⟩, ⟨by repeat (first | (with_reducible first | exact HB.out | apply below_alloc | apply pw_below_drewN | apply below_drew1) | exact HB.out)⟩⟩
        ·rw [if_neg c9] at H
         exact absurd H (by simp)
       ·rw [if_neg c8] at H
        have c8b0 : decide (x7_2 < (l1.length : Int)) = false := decide_eq_false c8
        clear c8
        replace H := Option.bind_eq_some_iff.mp H
        obtain ⟨t351, A190, H⟩ := H
        replace H : ((flongref12_Lines.f k2 a0 l1).bind fun t354 => ((flongref03_SameRows.f k2 t351 t354).bind fun t357 => (if t357 = true then ((flonglaw12_known.f k2).bind fun t358 => (some t358)) else (some false)))) = some r := H
        have A19 := Aside0.mk A190
        clear A190
        replace H := Option.bind_eq_some_iff.mp H
        obtain ⟨t354, A200, H⟩ := H
        replace H : ((flongref03_SameRows.f k2 t351 t354).bind fun t357 => (if t357 = true then ((flonglaw12_known.f k2).bind fun t358 => (some t358)) else (some false))) = some r := H
        have A20 := Aside0.mk A200
        clear A200
        replace H := Option.bind_eq_some_iff.mp H
        obtain ⟨t357, A210, H⟩ := H
        replace H : (if t357 = true then ((flonglaw12_known.f k2).bind fun t358 => (some t358)) else (some false)) = some r := H
        have A21 := Aside0.mk A210
        clear A210
        by_cases c22 : t357 = true
        ·subst c22
         have H1 : ((flonglaw12_known.f k2).bind fun t358 => (some t358)) = some r := by rw [if_pos rfl] at H; exact H
         clear H
         have H := H1
         clear H1
         replace H := Option.bind_eq_some_iff.mp H
         obtain ⟨t358, A230, H⟩ := H
         replace H : (some t358) = some r := H
         have A23 := Aside0.mk A230
         clear A230
         obtain rfl := Option.some.inj H
         go_wp2_with (first | ((with_reducible refine gate_callee (f := 17) rfl ?_); refine goesL_ (some 47) rfl rfl Tryd.func17 (by kernel_rfl) rfl #[.int .i64 a0, .slice A1 l1.length c1] rfl (by (try simp only [List.map_toArray, List.map_cons, List.map_nil]); first | done | rfl | (simp only [List.length_drop, List.length_take]; rfl)) ?_; (with_reducible refine (fill_Lines.calls a0 _ _ l1 t351 _ ?side1 ?side2 ?side3 A19.out).mono ?_); (case side1 => repeat (first | exact (Kd.C_below HR1.out HB.out) | (with_reducible refine Kd.C_alloc ?_ _) | (with_reducible refine Kd.C_drewN ?_ _) | (with_reducible refine Kd.C_drew ?_))); (case side2 => exact HC1.out); (case side3 => exact GOK.of_below (GOK.sub HG.out rfl) (by repeat (first | (with_reducible first | exact HB.out | apply below_alloc | apply pw_below_drewN | apply below_drew1) | exact HB.out))); rintro e w24 ⟨v352, rfl, ho0, hb⟩; refine ⟨_, rfl, ?_⟩; have n0_ := Aside0.mk (Kd.N_lower (Kd.N_mono (ok' := fun k_ => True) (Kd.S_N (Kd.S_bound ho0)) (fun k_ hk_ => trivial)) (below_size (by repeat (first | (with_reducible first | exact HB.out | apply below_alloc | apply pw_below_drewN | apply below_drew1) | exact HB.out)))); have n1_ := Aside0.mk (below_step (by repeat (first | (with_reducible first | exact HB.out | apply below_alloc | apply pw_below_drewN | apply below_drew1) | exact HB.out)) hb); clear HB; have HO353 := n0_; have HB := n1_; clear n0_ n1_; (try clear hb); (try clear hb2); (try clear hk); (try clear hi); (try clear ho0)) | ((with_reducible refine gate_callee (f := 18) rfl ?_); refine goesL_ (some 50) rfl rfl Tryd.func18 (by kernel_rfl) rfl #[.int .i64 a0, .slice A1 l1.length c1] rfl (by (try simp only [List.map_toArray, List.map_cons, List.map_nil]); first | done | rfl | (simp only [List.length_drop, List.length_take]; rfl)) ?_; (with_reducible refine (flongref12_Lines.calls k2 a0 (fun k_ => k_ < w.heap.size) _ _ l1 t354 _ ?side1 A20.out).mono ?_); (case side1 => exact Kd.V_mk HC1.out (Kd.F_below (Kd.C_F (Kd.heap_slice 39 k39_heap) HR1.out) (by repeat (first | (with_reducible first | exact HB.out | apply below_alloc | apply pw_below_drewN | apply below_drew1) | exact HB.out)))); rintro e w25 ⟨v355, rfl, ho0, hb⟩; refine ⟨_, rfl, ?_⟩; have n0_ := Aside0.mk (Kd.N_elder' (by (with_reducible repeat (first | apply Kd.N_alloc | apply Kd.N_drewN | apply Kd.N_drew)); exact HO353.out) (Kd.N_base ho0) hb); have n1_ := Aside0.mk (Kd.N_lower (Kd.N_mono (ok' := fun k_ => some k_ ≠ (v352 : Value).ownBlock) ho0 (fun k_ hk_ => Or.elim hk_ (fun hs_ => fun e_ => Nat.not_le.2 hs_ (Kd.N_base HO353.out k_ e_.symm)) (fun hn_ => (Kd.fresh' (Kd.N_lt (by (with_reducible repeat (first | apply Kd.N_alloc | apply Kd.N_drewN | apply Kd.N_drew)); exact HO353.out)) k_ hn_)))) (below_size (by repeat (first | (with_reducible first | exact HB.out | apply below_alloc | apply pw_below_drewN | apply below_drew1) | exact HB.out)))); have n2_ := Aside0.mk (below_step (by repeat (first | (with_reducible first | exact HB.out | apply below_alloc | apply pw_below_drewN | apply below_drew1) | exact HB.out)) hb); clear HO353; clear HB; have HO353 := n0_; have HO356 := n1_; have HB := n2_; clear n0_ n1_ n2_; (try clear hb); (try clear hb2); (try clear hk); (try clear hi); (try clear ho0); obtain ⟨Ao26, co26, eo26⟩ := Kd.N_slice HO353.out; subst eo26; obtain ⟨Ao27, co27, eo27⟩ := Kd.N_slice HO356.out; subst eo27) | ((with_reducible refine gate_callee (f := 15) rfl ?_); refine goesL_ (some 51) rfl rfl Tryd.func15 (by kernel_rfl) rfl #[.slice Ao26 t351.length co26, .slice Ao27 t354.length co27] rfl (by (try simp only [List.map_toArray, List.map_cons, List.map_nil]); first | done | rfl | (simp only [List.length_drop, List.length_take]; rfl)) ?_; (with_reducible refine (flongref03_SameRows.calls k2 _ _ t351 _ _ t354 true _ ?side1 ?side2 ?side3 ?side4 A21.out).mono ?_); (case side1 => repeat (first | exact (Kd.N_reads' HO353.out).2.2 | (with_reducible refine Kd.C_alloc ?_ _) | (with_reducible refine Kd.C_drewN ?_ _) | (with_reducible refine Kd.C_drew ?_))); (case side2 => exact (Kd.N_reads' HO353.out).2.1); (case side3 => repeat (first | exact (Kd.N_reads' HO356.out).2.2 | (with_reducible refine Kd.C_alloc ?_ _) | (with_reducible refine Kd.C_drewN ?_ _) | (with_reducible refine Kd.C_drew ?_))); (case side4 => exact (Kd.N_reads' HO356.out).2.1); rintro e w' ⟨rfl, ⟨nd, rfl⟩⟩; refine ⟨_, rfl, ?_⟩) | (go_at_call 8; (with_reducible refine (flonglaw12_known.calls k2  t358 _ ?side1 A23.out).mono ?_); (case side1 => exact GOK.of_below (GOK.sub HG.out rfl) (by repeat (first | (with_reducible first | exact HB.out | apply below_alloc | apply pw_below_drewN | apply below_drew1) | exact HB.out))); rintro e w28 ⟨rfl, hb⟩; have n0_ := Aside0.mk (Kd.N_below (by (with_reducible repeat (first | apply Kd.N_alloc | apply Kd.N_drewN | apply Kd.N_drew)); exact HO353.out) hb); have n1_ := Aside0.mk (Kd.N_below (by (with_reducible repeat (first | apply Kd.N_alloc | apply Kd.N_drewN | apply Kd.N_drew)); exact HO356.out) hb); have n2_ := Aside0.mk (below_step (by repeat (first | (with_reducible first | exact HB.out | apply below_alloc | apply pw_below_drewN | apply below_drew1) | exact HB.out)) hb); clear HO353; clear HO356; clear HB; have HO353 := n0_; have HO356 := n1_; have HB := n2_; clear n0_ n1_ n2_; (try clear hb); (try clear hb2); (try clear hk); (try clear hi)))
         go_ret
         exact ⟨by first | rfl | (simp [errW_none, errW_some] <;> rfl) | (simp [*, errW_none, errW_some] <;> rfl), by repeat (first | (with_reducible first | exact HB.out | apply below_alloc | apply pw_below_drewN | apply below_drew1) | exact HB.out)⟩
        ·replace c22 := Bool.eq_false_iff.mpr c22
         subst c22
         have H1 : (some false) = some r := by rw [if_neg (show ¬ (false = true) by decide)] at H; exact H
         clear H
         have H := H1
         clear H1
         obtain rfl := Option.some.inj H
         go_wp2_with (first | ((with_reducible refine gate_callee (f := 17) rfl ?_); refine goesL_ (some 47) rfl rfl Tryd.func17 (by kernel_rfl) rfl #[.int .i64 a0, .slice A1 l1.length c1] rfl (by (try simp only [List.map_toArray, List.map_cons, List.map_nil]); first | done | rfl | (simp only [List.length_drop, List.length_take]; rfl)) ?_; (with_reducible refine (fill_Lines.calls a0 _ _ l1 t351 _ ?side1 ?side2 ?side3 A19.out).mono ?_); (case side1 => repeat (first | exact (Kd.C_below HR1.out HB.out) | (with_reducible refine Kd.C_alloc ?_ _) | (with_reducible refine Kd.C_drewN ?_ _) | (with_reducible refine Kd.C_drew ?_))); (case side2 => exact HC1.out); (case side3 => exact GOK.of_below (GOK.sub HG.out rfl) (by repeat (first | (with_reducible first | exact HB.out | apply below_alloc | apply pw_below_drewN | apply below_drew1) | exact HB.out))); rintro e w29 ⟨v352, rfl, ho0, hb⟩; refine ⟨_, rfl, ?_⟩; have n0_ := Aside0.mk (Kd.N_lower (Kd.N_mono (ok' := fun k_ => True) (Kd.S_N (Kd.S_bound ho0)) (fun k_ hk_ => trivial)) (below_size (by repeat (first | (with_reducible first | exact HB.out | apply below_alloc | apply pw_below_drewN | apply below_drew1) | exact HB.out)))); have n1_ := Aside0.mk (below_step (by repeat (first | (with_reducible first | exact HB.out | apply below_alloc | apply pw_below_drewN | apply below_drew1) | exact HB.out)) hb); clear HB; have HO353 := n0_; have HB := n1_; clear n0_ n1_; (try clear hb); (try clear hb2); (try clear hk); (try clear hi); (try clear ho0)) | ((with_reducible refine gate_callee (f := 18) rfl ?_); refine goesL_ (some 50) rfl rfl Tryd.func18 (by kernel_rfl) rfl #[.int .i64 a0, .slice A1 l1.length c1] rfl (by (try simp only [List.map_toArray, List.map_cons, List.map_nil]); first | done | rfl | (simp only [List.length_drop, List.length_take]; rfl)) ?_; (with_reducible refine (flongref12_Lines.calls k2 a0 (fun k_ => k_ < w.heap.size) _ _ l1 t354 _ ?side1 A20.out).mono ?_); (case side1 => exact Kd.V_mk HC1.out (Kd.F_below (Kd.C_F (Kd.heap_slice 39 k39_heap) HR1.out) (by repeat (first | (with_reducible first | exact HB.out | apply below_alloc | apply pw_below_drewN | apply below_drew1) | exact HB.out)))); rintro e w30 ⟨v355, rfl, ho0, hb⟩; refine ⟨_, rfl, ?_⟩; have n0_ := Aside0.mk (Kd.N_elder' (by (with_reducible repeat (first | apply Kd.N_alloc | apply Kd.N_drewN | apply Kd.N_drew)); exact HO353.out) (Kd.N_base ho0) hb); have n1_ := Aside0.mk (Kd.N_lower (Kd.N_mono (ok' := fun k_ => some k_ ≠ (v352 : Value).ownBlock) ho0 (fun k_ hk_ => Or.elim hk_ (fun hs_ => fun e_ => Nat.not_le.2 hs_ (Kd.N_base HO353.out k_ e_.symm)) (fun hn_ => (Kd.fresh' (Kd.N_lt (by (with_reducible repeat (first | apply Kd.N_alloc | apply Kd.N_drewN | apply Kd.N_drew)); exact HO353.out)) k_ hn_)))) (below_size (by repeat (first | (with_reducible first | exact HB.out | apply below_alloc | apply pw_below_drewN | apply below_drew1) | exact HB.out)))); have n2_ := Aside0.mk (below_step (by repeat (first | (with_reducible first | exact HB.out | apply below_alloc | apply pw_below_drewN | apply below_drew1) | exact HB.out)) hb); clear HO353; clear HB; have HO353 := n0_; have HO356 := n1_; have HB := n2_; clear n0_ n1_ n2_; (try clear hb); (try clear hb2); (try clear hk); (try clear hi); (try clear ho0); obtain ⟨Ao31, co31, eo31⟩ := Kd.N_slice HO353.out; subst eo31; obtain ⟨Ao32, co32, eo32⟩ := Kd.N_slice HO356.out; subst eo32) | ((with_reducible refine gate_callee (f := 15) rfl ?_); refine goesL_ (some 51) rfl rfl Tryd.func15 (by kernel_rfl) rfl #[.slice Ao31 t351.length co31, .slice Ao32 t354.length co32] rfl (by (try simp only [List.map_toArray, List.map_cons, List.map_nil]); first | done | rfl | (simp only [List.length_drop, List.length_take]; rfl)) ?_; (with_reducible refine (flongref03_SameRows.calls k2 _ _ t351 _ _ t354 false _ ?side1 ?side2 ?side3 ?side4 A21.out).mono ?_); (case side1 => repeat (first | exact (Kd.N_reads' HO353.out).2.2 | (with_reducible refine Kd.C_alloc ?_ _) | (with_reducible refine Kd.C_drewN ?_ _) | (with_reducible refine Kd.C_drew ?_))); (case side2 => exact (Kd.N_reads' HO353.out).2.1); (case side3 => repeat (first | exact (Kd.N_reads' HO356.out).2.2 | (with_reducible refine Kd.C_alloc ?_ _) | (with_reducible refine Kd.C_drewN ?_ _) | (with_reducible refine Kd.C_drew ?_))); (case side4 => exact (Kd.N_reads' HO356.out).2.1); rintro e w' ⟨rfl, ⟨nd, rfl⟩⟩; refine ⟨_, rfl, ?_⟩))
         go_ret
         exact ⟨by first | rfl | (simp [errW_none, errW_some] <;> rfl) | (simp [*, errW_none, errW_some] <;> rfl), by repeat (first | (with_reducible first | exact HB.out | apply below_alloc | apply pw_below_drewN | apply below_drew1) | exact HB.out)⟩

end Go.Proofs.YtfdfjlichpjobaaDoorRR.X
