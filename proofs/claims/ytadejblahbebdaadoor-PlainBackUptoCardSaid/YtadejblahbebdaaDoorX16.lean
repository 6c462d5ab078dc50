-- Written by this session's xprint.py (a variant of the kit's printer). Not trusted: Lean checks it.
import Derived.Test.YtadejblahbebdaaDoorX0
import Derived.Test.YtadejblahbebdaaDoorX2
import Derived.Test.YtadejblahbebdaaDoorX3
import Derived.Test.YtadejblahbebdaaDoorX4
import Derived.Test.YtadejblahbebdaaDoorX7
import Derived.Test.YtadejblahbebdaaDoorX15
import Derived.Test.YtadejblahbebdaaDoorHandA
import Derived.Test.YtadejblahbebdaaDoorHandS
namespace Go.Proofs.YtadejblahbebdaaDoor.X
open Go.Proofs.YtadejblahbebdaaDoor.Hand
open Go.RowKit Go.Proofs.YtadejblahbebdaaDoorW.PrintWords Go.Proofs.YtadejblahbebdaaDoorW.PrintLast Go.Proofs.YtadejblahbebdaaDoorW.PrintMore
attribute [local go_sem] max2_int min2_int max_two min_two max_three min_three max_four min_four   -- for this text's walks alone
set_option linter.unusedVariables false
set_option maxHeartbeats 8000000
set_option maxRecDepth 100000
set_option linter.unusedSimpArgs false

/-! ### flonglaw17_PlainBack: function 7 -/
mutual
def flonglaw17_PlainBack.l0 : Nat → List (S49) → List Int → List (List (S37)) → Int → List (List (S37)) → Int → Int → Option (Bool)
 | 0, _, _, _, _, _, _, _ => none
 | k + 1, x0, x3, x4, x5, x6, x7, x8 => if x8 < (x3.length : Int) then (if 0 ≤ x8 then (if (rd x3 x8) = 10 then (flonglaw17_PlainBack.l0 k x0 x3 x4 x5 x6 (wrap64 (x7 + 1)) (wrap64 (x8 + 1))) else (if (rd x3 x8) < 32 then (some false) else (if (rd x3 x8) = 127 then (some false) else (flonglaw17_PlainBack.l0 k x0 x3 x4 x5 x6 x7 (wrap64 (x8 + 1)))))) else (none)) else (if x5 = 0 then (if x7 = (x0.length : Int) then (if (x4.length : Int) = (x0.length : Int) then (if (x6.length : Int) = (x0.length : Int) then ((plain_Safe.f k x3).bind fun t531 => (flonglaw17_PlainBack.j1 k x4 x6 (!t531))) else (flonglaw17_PlainBack.j1 k x4 x6 true)) else (flonglaw17_PlainBack.j1 k x4 x6 true)) else (flonglaw17_PlainBack.j1 k x4 x6 true)) else (flonglaw17_PlainBack.j1 k x4 x6 true))
def flonglaw17_PlainBack.j1 : Nat → List (List (S37)) → List (List (S37)) → Bool → Option (Bool)
 | 0, _, _, _ => none
 | k + 1, x4, x6, x73 => if x73 = true then (some false) else (flonglaw17_PlainBack.l1 k x4 x6 0)
def flonglaw17_PlainBack.l1 : Nat → List (List (S37)) → List (List (S37)) → Int → Option (Bool)
 | 0, _, _, _ => none
 | k + 1, x4, x6, x9 => if x9 < (x4.length : Int) then (if 0 ≤ x9 then (if x9 < (x6.length : Int) then ((flongref17_Erase.f k (rd_L6 x6 x9)).bind fun t535 => ((flongref03_Same.f k (rd_L6 x4 x9) t535).bind fun t538 => (if t538 = true then (flonglaw17_PlainBack.l1 k x4 x6 (wrap64 (x9 + 1))) else (some false)))) else (none)) else (none)) else ((flonglaw17_known.f k).bind fun t532 => (some t532))
end
def flonglaw17_PlainBack.f (k : Nat) (l0 : List (S49)) : Option (Bool) := (flongref17_Long.f k l0).bind fun t516 => (if t516 = true then ((flonglaw17_known.f k).bind fun t517 => (some t517)) else ((plain_Write.f k l0).bind fun t518 => ((plain_Read.f k t518).bind fun bt521 => ((plain_Rows.f k l0).bind fun t525 => (flonglaw17_PlainBack.l0 k l0 t518 bt521.1 bt521.2 t525 0 0)))))
theorem flonglaw17_PlainBack.mono_l : ∀ k, (∀ y0 y1 y2 y3 y4 y5 y6, LeO (flonglaw17_PlainBack.l0 k y0 y1 y2 y3 y4 y5 y6) (flonglaw17_PlainBack.l0 (k + 1) y0 y1 y2 y3 y4 y5 y6)) ∧ (∀ y0 y1 y2, LeO (flonglaw17_PlainBack.j1 k y0 y1 y2) (flonglaw17_PlainBack.j1 (k + 1) y0 y1 y2)) ∧ (∀ y0 y1 y2, LeO (flonglaw17_PlainBack.l1 k y0 y1 y2) (flonglaw17_PlainBack.l1 (k + 1) y0 y1 y2))
 | 0 => ⟨fun _ _ _ _ _ _ _ r h => by simp [flonglaw17_PlainBack.l0] at h, fun _ _ _ r h => by simp [flonglaw17_PlainBack.j1] at h, fun _ _ _ r h => by simp [flonglaw17_PlainBack.l1] at h⟩
 | k + 1 => by
  obtain ⟨ih0, ih1, ih2⟩ := flonglaw17_PlainBack.mono_l k
  refine ⟨?_, ?_, ?_⟩
  ·intro y0 y1 y2 y3 y4 y5 y6
   unfold flonglaw17_PlainBack.l0
   repeat' first
   | (with_reducible exact ih0 _ _ _ _ _ _ _)
   | (with_reducible exact ih1 _ _ _)
   | (with_reducible exact ih2 _ _ _)
   | (with_reducible exact flonglaw17_known.mono _)
   | (with_reducible exact flongref03_Same.mono _ _ _)
   | (with_reducible exact flongref17_Erase.mono _ _)
   | (with_reducible exact flongref17_Long.mono _ _)
   | (with_reducible exact plain_Read.mono _ _)
   | (with_reducible exact plain_Rows.mono _ _)
   | (with_reducible exact plain_Safe.mono _ _)
   | (with_reducible exact plain_Write.mono _ _)
   | (with_reducible exact LeO.refl _)
   | (with_reducible exact LeO.none _)
   | (with_reducible refine LeO.ite ?_ ?_)
   | (with_reducible refine LeO.bind ?_ (fun _ => ?_))
  ·intro y0 y1 y2
   unfold flonglaw17_PlainBack.j1
   repeat' first
   | (with_reducible exact ih0 _ _ _ _ _ _ _)
   | (with_reducible exact ih1 _ _ _)
   | (with_reducible exact ih2 _ _ _)
   | (with_reducible exact flonglaw17_known.mono _)
   | (with_reducible exact flongref03_Same.mono _ _ _)
   | (with_reducible exact flongref17_Erase.mono _ _)
   | (with_reducible exact flongref17_Long.mono _ _)
   | (with_reducible exact plain_Read.mono _ _)
   | (with_reducible exact plain_Rows.mono _ _)
   | (with_reducible exact plain_Safe.mono _ _)
   | (with_reducible exact plain_Write.mono _ _)
   | (with_reducible exact LeO.refl _)
   | (with_reducible exact LeO.none _)
   | (with_reducible refine LeO.ite ?_ ?_)
   | (with_reducible refine LeO.bind ?_ (fun _ => ?_))
  ·intro y0 y1 y2
   unfold flonglaw17_PlainBack.l1
   repeat' first
   | (with_reducible exact ih0 _ _ _ _ _ _ _)
   | (with_reducible exact ih1 _ _ _)
   | (with_reducible exact ih2 _ _ _)
   | (with_reducible exact flonglaw17_known.mono _)
   | (with_reducible exact flongref03_Same.mono _ _ _)
   | (with_reducible exact flongref17_Erase.mono _ _)
   | (with_reducible exact flongref17_Long.mono _ _)
   | (with_reducible exact plain_Read.mono _ _)
   | (with_reducible exact plain_Rows.mono _ _)
   | (with_reducible exact plain_Safe.mono _ _)
   | (with_reducible exact plain_Write.mono _ _)
   | (with_reducible exact LeO.refl _)
   | (with_reducible exact LeO.none _)
   | (with_reducible refine LeO.ite ?_ ?_)
   | (with_reducible refine LeO.bind ?_ (fun _ => ?_))
theorem flonglaw17_PlainBack.mono : ∀ a0 k, LeO (flonglaw17_PlainBack.f k a0) (flonglaw17_PlainBack.f (k + 1) a0) := by
 intro a0 k
 obtain ⟨ih0, ih1, ih2⟩ := flonglaw17_PlainBack.mono_l k
 unfold flonglaw17_PlainBack.f
 repeat' first
   | (with_reducible exact ih0 _ _ _ _ _ _ _)
   | (with_reducible exact ih1 _ _ _)
   | (with_reducible exact ih2 _ _ _)
   | (with_reducible exact flonglaw17_known.mono _)
   | (with_reducible exact flongref03_Same.mono _ _ _)
   | (with_reducible exact flongref17_Erase.mono _ _)
   | (with_reducible exact flongref17_Long.mono _ _)
   | (with_reducible exact plain_Read.mono _ _)
   | (with_reducible exact plain_Rows.mono _ _)
   | (with_reducible exact plain_Safe.mono _ _)
   | (with_reducible exact plain_Write.mono _ _)
   | (with_reducible exact LeO.refl _)
   | (with_reducible exact LeO.none _)
   | (with_reducible refine LeO.ite ?_ ?_)
   | (with_reducible refine LeO.bind ?_ (fun _ => ?_))
def flonglaw17_PlainBack.T19 : Bool × List (List Nat × List Nat) := (true, [([], []), ([], []), ([0, 1], [0, 1]), ([2], [2]), ([], []), ([], []), ([4, 5], [4, 5]), ([6], [6]), ([7], [7]), ([3, 8, 8], [3, 8]), ([9], [9])])
def flonglaw17_PlainBack.B19 : List Nat := [0, 0, 3, 7, 0, 0, 48, 112, 240, 511, 1023]
theorem flonglaw17_PlainBack.tab19 : rtab .any (opsOf Tryd.f7 19) = flonglaw17_PlainBack.T19 := by kernel_rfl
theorem flonglaw17_PlainBack.bits19 : waitsOk flonglaw17_PlainBack.T19.2 flonglaw17_PlainBack.B19 = true := by kernel_rfl
theorem flonglaw17_PlainBack.calls (k : Nat) (A0 : Option Addr) (c0 : Nat) (l0 : List (S49)) (r : Bool) (w : World) (hr0 : Kd.C k49 w A0 l0.length l0) (hc0 : l0.length ≤ c0) (hG : GOK [0,1] w) (h : flonglaw17_PlainBack.f k l0 = some r) :
  Calls Tryd.prog 7 #[.slice A0 l0.length c0] w fun e w' => e = .returned (.bool r) ∧ Below w.heap.size w w' := by
 have HG := Aside0.mk hG
 clear hG
 have HR0 := Aside0.mk hr0
 have HC0 := Aside0.mk hc0
 clear hr0 hc0
 have HB := Aside0.mk (Below.refl w.heap.size w)
 have H : ((flongref17_Long.f k l0).bind fun t516 => (if t516 = true then ((flonglaw17_known.f k).bind fun t517 => (some t517)) else ((plain_Write.f k l0).bind fun t518 => ((plain_Read.f k t518).bind fun bt521 => ((plain_Rows.f k l0).bind fun t525 => (flonglaw17_PlainBack.l0 k l0 t518 bt521.1 bt521.2 t525 0 0)))))) = some r := h
 clear h
 replace H := Option.bind_eq_some_iff.mp H
 obtain ⟨t516, A20, H⟩ := H
 replace H : (if t516 = true then ((flonglaw17_known.f k).bind fun t517 => (some t517)) else ((plain_Write.f k l0).bind fun t518 => ((plain_Read.f k t518).bind fun bt521 => ((plain_Rows.f k l0).bind fun t525 => (flonglaw17_PlainBack.l0 k l0 t518 bt521.1 bt521.2 t525 0 0))))) = some r := H
 have A2 := Aside0.mk A20
 clear A20
 by_cases c3 : t516 = true
 ·subst c3
  have H1 : ((flonglaw17_known.f k).bind fun t517 => (some t517)) = some r := by rw [if_pos rfl] at H; exact H
  clear H
  have H := H1
  clear H1
  replace H := Option.bind_eq_some_iff.mp H
  obtain ⟨t517, A40, H⟩ := H
  replace H : (some t517) = some r := H
  have A4 := Aside0.mk A40
  clear A40
  obtain rfl := Option.some.inj H
  go_enter Tryd.func7, Tryd.ntmps7
  go_wp2_with (first | ((with_reducible refine gate_callee (f := 10) rfl ?_); refine goesL_ (some 11) rfl rfl Tryd.func10 (by kernel_rfl) rfl #[.slice A0 l0.length c0] rfl (by (try simp only [List.map_toArray, List.map_cons, List.map_nil]); first | done | rfl | (simp only [List.length_drop, List.length_take]; rfl)) ?_; (with_reducible refine (flongref17_Long.calls k _ _ l0 true _ ?side1 ?side2 A2.out).mono ?_); (case side1 => repeat (first | exact HR0.out | (with_reducible refine Kd.C_alloc ?_ _) | (with_reducible refine Kd.C_drewN ?_ _) | (with_reducible refine Kd.C_drew ?_))); (case side2 => exact HC0.out); rintro e w' ⟨rfl, ⟨nd, rfl⟩⟩; refine ⟨_, rfl, ?_⟩) | ((with_reducible refine gate_callee (f := 11) rfl ?_); refine goesL_ (some 12) rfl rfl Tryd.func11 (by kernel_rfl) rfl #[] rfl (by (try simp only [List.map_toArray, List.map_cons, List.map_nil]); first | done | rfl | (simp only [List.length_drop, List.length_take]; rfl)) ?_; (with_reducible refine (flonglaw17_known.calls k  t517 _ ?side1 A4.out).mono ?_); (case side1 => exact GOK.of_below (GOK.sub HG.out rfl) (by repeat (first | (with_reducible first | exact HB.out | apply below_alloc | apply pw_below_drewN | apply below_drew1) | exact HB.out))); rintro e w5 ⟨rfl, hb⟩; refine ⟨_, rfl, ?_⟩; have n0_ := Aside0.mk (below_step (by repeat (first | (with_reducible first | exact HB.out | apply below_alloc | apply pw_below_drewN | apply below_drew1) | exact HB.out)) hb); clear HB; have HB := n0_; clear n0_; (try clear hb); (try clear hb2); (try clear hk); (try clear hi)))
  go_ret
  exact ⟨by first | rfl | (simp [errW_none, errW_some] <;> rfl) | (simp [*, errW_none, errW_some] <;> rfl), by repeat (first | (with_reducible first | exact HB.out | apply below_alloc | apply pw_below_drewN | apply below_drew1) | exact HB.out)⟩
 ·replace c3 := Bool.eq_false_iff.mpr c3
  subst c3
  have H1 : ((plain_Write.f k l0).bind fun t518 => ((plain_Read.f k t518).bind fun bt521 => ((plain_Rows.f k l0).bind fun t525 => (flonglaw17_PlainBack.l0 k l0 t518 bt521.1 bt521.2 t525 0 0)))) = some r := by rw [if_neg (show ¬ (false = true) by decide)] at H; exact H
  clear H
  have H := H1
  clear H1
  replace H := Option.bind_eq_some_iff.mp H
  obtain ⟨t518, A60, H⟩ := H
  replace H : ((plain_Read.f k t518).bind fun bt521 => ((plain_Rows.f k l0).bind fun t525 => (flonglaw17_PlainBack.l0 k l0 t518 bt521.1 bt521.2 t525 0 0))) = some r := H
  have A6 := Aside0.mk A60
  clear A60
  replace H := Option.bind_eq_some_iff.mp H
  obtain ⟨⟨t521, t522⟩, A70, H⟩ := H
  replace H : ((plain_Rows.f k l0).bind fun t525 => (flonglaw17_PlainBack.l0 k l0 t518 t521 t522 t525 0 0)) = some r := H
  have A7 := Aside0.mk A70
  clear A70
  replace H := Option.bind_eq_some_iff.mp H
  obtain ⟨t525, A80, H⟩ := H
  replace H : (flonglaw17_PlainBack.l0 k l0 t518 t521 t522 t525 0 0) = some r := H
  have A8 := Aside0.mk A80
  clear A80
  have H' := Aside0.mk H
  clear H
  go_enter Tryd.func7, Tryd.ntmps7
  go_wp2_with (first | ((with_reducible refine gate_callee (f := 10) rfl ?_); refine goesL_ (some 11) rfl rfl Tryd.func10 (by kernel_rfl) rfl #[.slice A0 l0.length c0] rfl (by (try simp only [List.map_toArray, List.map_cons, List.map_nil]); first | done | rfl | (simp only [List.length_drop, List.length_take]; rfl)) ?_; (with_reducible refine (flongref17_Long.calls k _ _ l0 false _ ?side1 ?side2 A2.out).mono ?_); (case side1 => repeat (first | exact HR0.out | (with_reducible refine Kd.C_alloc ?_ _) | (with_reducible refine Kd.C_drewN ?_ _) | (with_reducible refine Kd.C_drew ?_))); (case side2 => exact HC0.out); rintro e w' ⟨rfl, ⟨nd, rfl⟩⟩; refine ⟨_, rfl, ?_⟩) | ((with_reducible refine gate_callee (f := 13) rfl ?_); refine goesL_ (some 14) rfl rfl Tryd.func13 (by kernel_rfl) rfl #[.slice A0 l0.length c0] rfl (by (try simp only [List.map_toArray, List.map_cons, List.map_nil]); first | done | rfl | (simp only [List.length_drop, List.length_take]; rfl)) ?_; (with_reducible refine (plain_Write.calls k _ _ l0 t518 _ ?side1 ?side2 ?side3 A6.out).mono ?_); (case side1 => repeat (first | exact HR0.out | (with_reducible refine Kd.C_alloc ?_ _) | (with_reducible refine Kd.C_drewN ?_ _) | (with_reducible refine Kd.C_drew ?_))); (case side2 => exact HC0.out); (case side3 => exact GOK.of_below (GOK.sub HG.out rfl) (by repeat (first | (with_reducible first | exact HB.out | apply below_alloc | apply pw_below_drewN | apply below_drew1) | exact HB.out))); rintro e w9 ⟨v519, rfl, ho0, hb⟩; refine ⟨_, rfl, ?_⟩; have n0_ := Aside0.mk (Kd.R_lower ho0 (below_size (by repeat (first | (with_reducible first | exact HB.out | apply below_alloc | apply pw_below_drewN | apply below_drew1) | exact HB.out)))); have n1_ := Aside0.mk (below_step (by repeat (first | (with_reducible first | exact HB.out | apply below_alloc | apply pw_below_drewN | apply below_drew1) | exact HB.out)) hb); clear HB; have HO520 := n0_; have HB := n1_; clear n0_ n1_; (try clear hb); (try clear hb2); (try clear hk); (try clear hi); (try clear ho0); obtain ⟨Ao10, co10, eo10⟩ := Kd.R_slice HO520.out; subst eo10) | ((with_reducible refine gate_callee (f := 27) rfl ?_); refine goesL_ (some 17) rfl rfl Tryd.func27 (by kernel_rfl) rfl #[.slice Ao10 t518.length co10] rfl (by (try simp only [List.map_toArray, List.map_cons, List.map_nil]); first | done | rfl | (simp only [List.length_drop, List.length_take]; rfl)) ?_; (with_reducible refine (plain_Read.calls k _ _ t518 t521 t522 _ ?side1 ?side2 A7.out).mono ?_); (case side1 => repeat (first | exact (Kd.R_reads' HO520.out).2.2 | (with_reducible refine Kd.C_alloc ?_ _) | (with_reducible refine Kd.C_drewN ?_ _) | (with_reducible refine Kd.C_drew ?_))); (case side2 => exact (Kd.R_reads' HO520.out).2.1); rintro e w11 ⟨v523, rfl, ho0, hb⟩; refine ⟨_, rfl, ?_⟩; have n0_ := Aside0.mk (Kd.R_below (by (with_reducible repeat (first | apply Kd.R_alloc | apply Kd.R_drewN | apply Kd.R_drew)); exact HO520.out) hb); have n1_ := Aside0.mk (Kd.S_lower ho0 (below_size (by repeat (first | (with_reducible first | exact HB.out | apply below_alloc | apply pw_below_drewN | apply below_drew1) | exact HB.out)))); have n2_ := Aside0.mk (below_step (by repeat (first | (with_reducible first | exact HB.out | apply below_alloc | apply pw_below_drewN | apply below_drew1) | exact HB.out)) hb); clear HO520; clear HB; have HO520 := n0_; have HO524 := n1_; have HB := n2_; clear n0_ n1_ n2_; (try clear hb); (try clear hb2); (try clear hk); (try clear hi); (try clear ho0)) | ((with_reducible refine gate_callee (f := 16) rfl ?_); refine goesL_ (some 21) rfl rfl Tryd.func16 (by kernel_rfl) rfl #[.slice A0 l0.length c0] rfl (by (try simp only [List.map_toArray, List.map_cons, List.map_nil]); first | done | rfl | (simp only [List.length_drop, List.length_take]; rfl)) ?_; (with_reducible refine (plain_Rows.calls k _ _ l0 t525 _ ?side1 ?side2 ?side3 A8.out).mono ?_); (case side1 => repeat (first | exact (Kd.C_below HR0.out HB.out) | (with_reducible refine Kd.C_alloc ?_ _) | (with_reducible refine Kd.C_drewN ?_ _) | (with_reducible refine Kd.C_drew ?_))); (case side2 => exact HC0.out); (case side3 => exact GOK.of_below (GOK.sub HG.out rfl) (by repeat (first | (with_reducible first | exact HB.out | apply below_alloc | apply pw_below_drewN | apply below_drew1) | exact HB.out))); rintro e w12 ⟨v526, rfl, ho0, hb⟩; refine ⟨_, rfl, ?_⟩; have n0_ := Aside0.mk (Kd.R_below (by (with_reducible repeat (first | apply Kd.R_alloc | apply Kd.R_drewN | apply Kd.R_drew)); exact HO520.out) hb); have n1_ := Aside0.mk (Kd.S_elder' (by (with_reducible repeat (first | apply Kd.S_alloc | apply Kd.S_drewN | apply Kd.S_drew)); exact HO524.out) (Kd.S_base ho0) hb); have n2_ := Aside0.mk (Kd.S_lower (Kd.S_new' ho0 (Kd.S_lt (by (with_reducible repeat (first | apply Kd.S_alloc | apply Kd.S_drewN | apply Kd.S_drew)); exact HO524.out))) (below_size (by repeat (first | (with_reducible first | exact HB.out | apply below_alloc | apply pw_below_drewN | apply below_drew1) | exact HB.out)))); have n3_ := Aside0.mk (below_step (by repeat (first | (with_reducible first | exact HB.out | apply below_alloc | apply pw_below_drewN | apply below_drew1) | exact HB.out)) hb); clear HO520; clear HO524; clear HB; have HO520 := n0_; have HO524 := n1_; have HO527 := n2_; have HB := n3_; clear n0_ n1_ n2_ n3_; (try clear hb); (try clear hb2); (try clear hk); (try clear hi); (try clear ho0)))
  go_loopg [7, 8] k (fun kq v7 v8 w' => ∃ (x7_1 : Int) (x8_1 : Int), v7 = .int .i64 x7_1 ∧ v8 = .int .i64 x8_1 ∧ Aside0 (flonglaw17_PlainBack.l0 kq l0 t518 t521 t522 t525 x7_1 x8_1 = some r) ∧ Aside0 (kq ≤ k) ∧ Aside0 (Kd.R (Kd.int .u8) 5 w' w.heap.size (fun _ => True) (.slice Ao10 t518.length co10) t518) ∧ Aside0 (Kd.S (Kd.slice 37 k37) 33 w' w.heap.size (fun k_ => some k_ ≠ (v526 : Value).ownBlock) v523 t521) ∧ Aside0 (Kd.S (Kd.slice 37 k37) 33 w' w.heap.size (fun k_ => some k_ ≠ (v523 : Value).ownBlock) v526 t525) ∧ Aside0 (Below w.heap.size w w'))
  case atStart => exact ⟨(0), (0), (by first | rfl | (simp; done) | (simp [*]; done)), (by first | rfl | (simp; done) | (simp [*]; done)), H', ⟨Nat.le_refl _⟩, ⟨by (with_reducible repeat (first | apply Kd.R_alloc | apply Kd.R_drewN | apply Kd.R_drew)); exact HO520.out⟩, ⟨by (with_reducible repeat (first | apply Kd.S_alloc | apply Kd.S_drewN | apply Kd.S_drew)); exact Kd.S_mono HO524.out (fun _ hk => hk.2)⟩, ⟨by (with_reducible repeat (first | apply Kd.S_alloc | apply Kd.S_drewN | apply Kd.S_drew)); exact Kd.S_mono HO527.out (fun _ hk => hk.2)⟩, ⟨by repeat (first | (with_reducible first | exact HB.out | apply below_alloc | apply pw_below_drewN | apply below_drew1) | exact HB.out)⟩⟩
  case round =>
   clear H'
   try clear c1
   try clear c2
   try clear p2
   try clear c3
   try clear c7
   try clear c10
   try clear c11
   obtain ⟨x7_1, x8_1, rfl, rfl, HA, HK1, HO_3, HO_4, HO_6, HB⟩ := hrel
   cases gk with
   | zero => exact absurd HA.out (by simp [flonglaw17_PlainBack.l0])
   | succ k1 =>
    have H := HA.out
    clear HA
    simp only [flonglaw17_PlainBack.l0] at H
    by_cases c13 : x8_1 < (t518.length : Int)
    ·rw [if_pos c13] at H
     have c13b0 : decide (x8_1 < (t518.length : Int)) = true := decide_eq_true c13
     clear c13
     by_cases c14 : 0 ≤ x8_1
     ·rw [if_pos c14] at H
      have c14b0 : decide (0 ≤ x8_1) = true := decide_eq_true c14
      clear c14
      by_cases c15 : (rd t518 x8_1) = 10
      ·rw [if_pos c15] at H
       have c15b0 : ((rd t518 x8_1) == 10) = true := beq_iff_eq.mpr c15
       have c15b1 : ((rd t518 x8_1) != 10) = false := bne_eq_false_iff_eq.mpr c15
       clear c15
       have H' := Aside0.mk H
       clear H
       have p528 : 0 ≤ (x8_1 : Int) := of_decide_eq_true (by first | (with_reducible assumption) | assumption)
       have q528 : x8_1 < (t518.length : Int) := of_decide_eq_true (by first | (with_reducible assumption) | assumption)
       obtain ⟨ad528, e528, hx528_0⟩ := Kd.at_int (Kd.R_reads' HO_3.out).2.2 x8_1 p528 q528
       cases e528
       replace p528 := eq_true p528
       replace q528 := eq_true q528
       go_wp2
       go_roundg k1
       case measure => have := HK1.out; omega
       case rel => exact ⟨(wrap64 (x7_1 + 1)), (wrap64 (x8_1 + 1)), (by first | rfl | (simp; done) | (simp [*]; done)), (by first | rfl | (simp; done) | (simp [*]; done)), H', ⟨by have := HK1.out; omega⟩, ⟨by (with_reducible repeat (first | apply Kd.R_alloc | apply Kd.R_drewN | apply Kd.R_drew)); exact HO_3.out⟩, ⟨by (with_reducible repeat (first | apply Kd.S_alloc | apply Kd.S_drewN | apply Kd.S_drew)); exact HO_4.out⟩, ⟨by (with_reducible repeat (first | apply Kd.S_alloc | apply Kd.S_drewN | apply Kd.S_drew)); exact HO_6.out⟩, ⟨by repeat (first | (with_reducible first | exact HB.out | apply below_alloc | apply pw_below_drewN | apply below_drew1) | exact HB.out)⟩⟩
      ·rw [if_neg c15] at H
       have c15b0 : ((rd t518 x8_1) == 10) = false := beq_eq_false_iff_ne.mpr c15
       have c15b1 : ((rd t518 x8_1) != 10) = true := bne_iff_ne.mpr c15
       by_cases c16 : (rd t518 x8_1) < 32
       ·rw [if_pos c16] at H
        have c16b0 : decide ((rd t518 x8_1) < 32) = true := decide_eq_true c16
        clear c16
        obtain rfl := Option.some.inj H
        have p528 : 0 ≤ (x8_1 : Int) := of_decide_eq_true (by first | (with_reducible assumption) | assumption)
        have q528 : x8_1 < (t518.length : Int) := of_decide_eq_true (by first | (with_reducible assumption) | assumption)
        obtain ⟨ad528, e528, hx528_0⟩ := Kd.at_int (Kd.R_reads' HO_3.out).2.2 x8_1 p528 q528
        cases e528
        replace p528 := eq_true p528
        replace q528 := eq_true q528
        have p529 : 0 ≤ (x8_1 : Int) := of_decide_eq_true (by first | (with_reducible assumption) | assumption)
        have q529 : x8_1 < (t518.length : Int) := of_decide_eq_true (by first | (with_reducible assumption) | assumption)
        obtain ⟨ad529, e529, hx529_0⟩ := Kd.at_int (Kd.R_reads' HO_3.out).2.2 x8_1 p529 q529
        obtain rfl : ad528 = ad529 := (by injection e529)
        replace p529 := eq_true p529
        replace q529 := eq_true q529
        go_wp2
        go_ret
        exact ⟨by first | rfl | (simp [errW_none, errW_some] <;> rfl) | (simp [*, errW_none, errW_some] <;> rfl), by repeat (first | (with_reducible first | exact HB.out | apply below_alloc | apply pw_below_drewN | apply below_drew1) | exact HB.out)⟩
       ·rw [if_neg c16] at H
        have c16b0 : decide ((rd t518 x8_1) < 32) = false := decide_eq_false c16
        clear c16
        by_cases c17 : (rd t518 x8_1) = 127
        ·rw [if_pos c17] at H
         have c17b0 : ((rd t518 x8_1) == 127) = true := beq_iff_eq.mpr c17
         have c17b1 : ((rd t518 x8_1) != 127) = false := bne_eq_false_iff_eq.mpr c17
         clear c17
         obtain rfl := Option.some.inj H
         have p528 : 0 ≤ (x8_1 : Int) := of_decide_eq_true (by first | (with_reducible assumption) | assumption)
         have q528 : x8_1 < (t518.length : Int) := of_decide_eq_true (by first | (with_reducible assumption) | assumption)
         obtain ⟨ad528, e528, hx528_0⟩ := Kd.at_int (Kd.R_reads' HO_3.out).2.2 x8_1 p528 q528
         cases e528
         replace p528 := eq_true p528
         replace q528 := eq_true q528
         have p529 : 0 ≤ (x8_1 : Int) := of_decide_eq_true (by first | (with_reducible assumption) | assumption)
         have q529 : x8_1 < (t518.length : Int) := of_decide_eq_true (by first | (with_reducible assumption) | assumption)
         obtain ⟨ad529, e529, hx529_0⟩ := Kd.at_int (Kd.R_reads' HO_3.out).2.2 x8_1 p529 q529
         obtain rfl : ad528 = ad529 := (by injection e529)
         replace p529 := eq_true p529
         replace q529 := eq_true q529
         have p530 : 0 ≤ (x8_1 : Int) := of_decide_eq_true (by first | (with_reducible assumption) | assumption)
         have q530 : x8_1 < (t518.length : Int) := of_decide_eq_true (by first | (with_reducible assumption) | assumption)
         obtain ⟨ad530, e530, hx530_0⟩ := Kd.at_int (Kd.R_reads' HO_3.out).2.2 x8_1 p530 q530
         obtain rfl : ad528 = ad530 := (by injection e530)
         replace p530 := eq_true p530
         replace q530 := eq_true q530
         go_wp2
         go_ret
         exact ⟨by first | rfl | (simp [errW_none, errW_some] <;> rfl) | (simp [*, errW_none, errW_some] <;> rfl), by repeat (first | (with_reducible first | exact HB.out | apply below_alloc | apply pw_below_drewN | apply below_drew1) | exact HB.out)⟩
        ·rw [if_neg c17] at H
         have c17b0 : ((rd t518 x8_1) == 127) = false := beq_eq_false_iff_ne.mpr c17
         have c17b1 : ((rd t518 x8_1) != 127) = true := bne_iff_ne.mpr c17
         have H' := Aside0.mk H
         clear H
         have p528 : 0 ≤ (x8_1 : Int) := of_decide_eq_true (by first | (with_reducible assumption) | assumption)
         have q528 : x8_1 < (t518.length : Int) := of_decide_eq_true (by first | (with_reducible assumption) | assumption)
         obtain ⟨ad528, e528, hx528_0⟩ := Kd.at_int (Kd.R_reads' HO_3.out).2.2 x8_1 p528 q528
         cases e528
         replace p528 := eq_true p528
         replace q528 := eq_true q528
         have p529 : 0 ≤ (x8_1 : Int) := of_decide_eq_true (by first | (with_reducible assumption) | assumption)
         have q529 : x8_1 < (t518.length : Int) := of_decide_eq_true (by first | (with_reducible assumption) | assumption)
         obtain ⟨ad529, e529, hx529_0⟩ := Kd.at_int (Kd.R_reads' HO_3.out).2.2 x8_1 p529 q529
         obtain rfl : ad528 = ad529 := (by injection e529)
         replace p529 := eq_true p529
         replace q529 := eq_true q529
         have p530 : 0 ≤ (x8_1 : Int) := of_decide_eq_true (by first | (with_reducible assumption) | assumption)
         have q530 : x8_1 < (t518.length : Int) := of_decide_eq_true (by first | (with_reducible assumption) | assumption)
         obtain ⟨ad530, e530, hx530_0⟩ := Kd.at_int (Kd.R_reads' HO_3.out).2.2 x8_1 p530 q530
         obtain rfl : ad528 = ad530 := (by injection e530)
         replace p530 := eq_true p530
         replace q530 := eq_true q530
         go_wp2
         go_roundg k1
         case measure => have := HK1.out; omega
         case rel => exact ⟨(x7_1), (wrap64 (x8_1 + 1)), (by first | rfl | (simp; done) | (simp [*]; done)), (by first | rfl | (simp; done) | (simp [*]; done)), H', ⟨by have := HK1.out; omega⟩, ⟨by (with_reducible repeat (first | apply Kd.R_alloc | apply Kd.R_drewN | apply Kd.R_drew)); exact HO_3.out⟩, ⟨by (with_reducible repeat (first | apply Kd.S_alloc | apply Kd.S_drewN | apply Kd.S_drew)); exact HO_4.out⟩, ⟨by (with_reducible repeat (first | apply Kd.S_alloc | apply Kd.S_drewN | apply Kd.S_drew)); exact HO_6.out⟩, ⟨by repeat (first | (with_reducible first | exact HB.out | apply below_alloc | apply pw_below_drewN | apply below_drew1) | exact HB.out)⟩⟩
     ·rw [if_neg c14] at H
      exact absurd H (by simp)
    ·rw [if_neg c13] at H
     have c13b0 : decide (x8_1 < (t518.length : Int)) = false := decide_eq_false c13
     clear c13
     have HC18 := Aside0.mk H
     clear H
     go_upto_region 14 with (fail)
     go_cut [73] (fun v73 wc => ∃ (kq : Nat) (x73_17 : Bool), v73 = .bool x73_17 ∧ Aside0 (flonglaw17_PlainBack.j1 kq t521 t525 x73_17 = some r) ∧ Aside0 (kq ≤ k1) ∧ Aside0 (Kd.S (Kd.slice 37 k37) 33 wc w.heap.size (fun k_ => some k_ ≠ (v526 : Value).ownBlock) v523 t521) ∧ Aside0 (Kd.S (Kd.slice 37 k37) 33 wc w.heap.size (fun k_ => some k_ ≠ (v523 : Value).ownBlock) v526 t525) ∧ Aside0 (Below w.heap.size w wc))
     case first =>
      have H := HC18.out
      clear HC18
      by_cases c19 : t522 = 0
      ·rw [if_pos c19] at H
       have c19b0 : (t522 == 0) = true := beq_iff_eq.mpr c19
       have c19b1 : (t522 != 0) = false := bne_eq_false_iff_eq.mpr c19
       clear c19
       (first | rw [c19b0] | (simp only [i64_w, i32_w]; rw [c19b0]) | skip)
       by_cases c20 : x7_1 = (l0.length : Int)
       ·rw [if_pos c20] at H
        have c20b0 : (x7_1 == (l0.length : Int)) = true := beq_iff_eq.mpr c20
        have c20b1 : (x7_1 != (l0.length : Int)) = false := bne_eq_false_iff_eq.mpr c20
        clear c20
        by_cases c21 : (t521.length : Int) = (l0.length : Int)
        ·rw [if_pos c21] at H
         have c21b0 : ((t521.length : Int) == (l0.length : Int)) = true := beq_iff_eq.mpr c21
         have c21b1 : ((t521.length : Int) != (l0.length : Int)) = false := bne_eq_false_iff_eq.mpr c21
         have c21b2 : (t521.length == l0.length) = true := by first | simpa using c21 | (simp at c21 ⊢; omega)
         clear c21
         by_cases c22 : (t525.length : Int) = (l0.length : Int)
         ·rw [if_pos c22] at H
          have c22b0 : ((t525.length : Int) == (l0.length : Int)) = true := beq_iff_eq.mpr c22
          have c22b1 : ((t525.length : Int) != (l0.length : Int)) = false := bne_eq_false_iff_eq.mpr c22
          have c22b2 : (t525.length == l0.length) = true := by first | simpa using c22 | (simp at c22 ⊢; omega)
          clear c22
          replace H := Option.bind_eq_some_iff.mp H
          obtain ⟨t531, A230, H⟩ := H
          replace H : (flonglaw17_PlainBack.j1 k1 t521 t525 (!t531)) = some r := H
          have A23 := Aside0.mk A230
          clear A230
          have H' := Aside0.mk H
          clear H
          obtain ⟨Ao24, co24, eo24⟩ := Kd.S_slice HO_4.out
          subst eo24
          obtain ⟨Ao25, co25, eo25⟩ := Kd.S_slice HO_6.out
          subst eo25
          go_wp2_with (first | (go_at_call 26; (with_reducible refine (plain_Safe.calls k1 _ _ t518 t531 _ ?side1 ?side2 A23.out).mono ?_); (case side1 => repeat (first | exact (Kd.R_reads' HO_3.out).2.2 | (with_reducible refine Kd.C_alloc ?_ _) | (with_reducible refine Kd.C_drewN ?_ _) | (with_reducible refine Kd.C_drew ?_))); (case side2 => exact (Kd.R_reads' HO_3.out).2.1); rintro e w26 ⟨rfl, hb⟩; have n0_ := Aside0.mk (Kd.R_below (by (with_reducible repeat (first | apply Kd.R_alloc | apply Kd.R_drewN | apply Kd.R_drew)); exact HO_3.out) hb); have n1_ := Aside0.mk (Kd.S_below (by (with_reducible repeat (first | apply Kd.S_alloc | apply Kd.S_drewN | apply Kd.S_drew)); exact HO_4.out) hb); have n2_ := Aside0.mk (Kd.S_below (by (with_reducible repeat (first | apply Kd.S_alloc | apply Kd.S_drewN | apply Kd.S_drew)); exact HO_6.out) hb); have n3_ := Aside0.mk (below_step (by repeat (first | (with_reducible first | exact HB.out | apply below_alloc | apply pw_below_drewN | apply below_drew1) | exact HB.out)) hb); clear HO_3; clear HO_4; clear HO_6; clear HB; have HO_3 := n0_; have HO_4 := n1_; have HO_6 := n2_; have HB := n3_; clear n0_ n1_ n2_ n3_; (try clear hb); (try clear hb2); (try clear hk); (try clear hi)))
          go_meet
          case rel => exact ⟨_, (!t531), (by first | rfl | (simp; done) | (simp [*]; done)), H', ⟨by have := HK1.out; first | omega | exact Nat.le_refl _⟩, ⟨by (with_reducible repeat (first | apply Kd.S_alloc | apply Kd.S_drewN | apply Kd.S_drew)); exact HO_4.out⟩, ⟨by (with_reducible repeat (first | apply Kd.S_alloc | apply Kd.S_drewN | apply Kd.S_drew)); exact HO_6.out⟩, ⟨by repeat (first | (with_reducible first | exact HB.out | apply below_alloc | apply pw_below_drewN | apply below_drew1) | exact HB.out)⟩⟩
         ·rw [if_neg c22] at H
          have c22b0 : ((t525.length : Int) == (l0.length : Int)) = false := beq_eq_false_iff_ne.mpr c22
          have c22b1 : ((t525.length : Int) != (l0.length : Int)) = true := bne_iff_ne.mpr c22
          have c22b2 : (t525.length == l0.length) = false := by first | simpa using c22 | (simp at c22 ⊢; omega)
          have H' := Aside0.mk H
          clear H
          obtain ⟨Ao27, co27, eo27⟩ := Kd.S_slice HO_4.out
          subst eo27
          obtain ⟨Ao28, co28, eo28⟩ := Kd.S_slice HO_6.out
          subst eo28
          go_wp2
          go_meet
          case rel => exact ⟨_, (true), (by first | rfl | (simp; done) | (simp [*]; done)), H', ⟨by have := HK1.out; first | omega | exact Nat.le_refl _⟩, ⟨by (with_reducible repeat (first | apply Kd.S_alloc | apply Kd.S_drewN | apply Kd.S_drew)); exact HO_4.out⟩, ⟨by (with_reducible repeat (first | apply Kd.S_alloc | apply Kd.S_drewN | apply Kd.S_drew)); exact HO_6.out⟩, ⟨by repeat (first | (with_reducible first | exact HB.out | apply below_alloc | apply pw_below_drewN | apply below_drew1) | exact HB.out)⟩⟩
        ·rw [if_neg c21] at H
         have c21b0 : ((t521.length : Int) == (l0.length : Int)) = false := beq_eq_false_iff_ne.mpr c21
         have c21b1 : ((t521.length : Int) != (l0.length : Int)) = true := bne_iff_ne.mpr c21
         have c21b2 : (t521.length == l0.length) = false := by first | simpa using c21 | (simp at c21 ⊢; omega)
         have H' := Aside0.mk H
         clear H
         obtain ⟨Ao29, co29, eo29⟩ := Kd.S_slice HO_4.out
         subst eo29
         go_wp2
         go_meet
         case rel => exact ⟨_, (true), (by first | rfl | (simp; done) | (simp [*]; done)), H', ⟨by have := HK1.out; first | omega | exact Nat.le_refl _⟩, ⟨by (with_reducible repeat (first | apply Kd.S_alloc | apply Kd.S_drewN | apply Kd.S_drew)); exact HO_4.out⟩, ⟨by (with_reducible repeat (first | apply Kd.S_alloc | apply Kd.S_drewN | apply Kd.S_drew)); exact HO_6.out⟩, ⟨by repeat (first | (with_reducible first | exact HB.out | apply below_alloc | apply pw_below_drewN | apply below_drew1) | exact HB.out)⟩⟩
       ·rw [if_neg c20] at H
        have c20b0 : (x7_1 == (l0.length : Int)) = false := beq_eq_false_iff_ne.mpr c20
        have c20b1 : (x7_1 != (l0.length : Int)) = true := bne_iff_ne.mpr c20
        have H' := Aside0.mk H
        clear H
        go_wp2
        go_meet
        case rel => exact ⟨_, (true), (by first | rfl | (simp; done) | (simp [*]; done)), H', ⟨by have := HK1.out; first | omega | exact Nat.le_refl _⟩, ⟨by (with_reducible repeat (first | apply Kd.S_alloc | apply Kd.S_drewN | apply Kd.S_drew)); exact HO_4.out⟩, ⟨by (with_reducible repeat (first | apply Kd.S_alloc | apply Kd.S_drewN | apply Kd.S_drew)); exact HO_6.out⟩, ⟨by repeat (first | (with_reducible first | exact HB.out | apply below_alloc | apply pw_below_drewN | apply below_drew1) | exact HB.out)⟩⟩
      ·rw [if_neg c19] at H
       have c19b0 : (t522 == 0) = false := beq_eq_false_iff_ne.mpr c19
       have c19b1 : (t522 != 0) = true := bne_iff_ne.mpr c19
       (first | rw [c19b0] | (simp only [i64_w, i32_w]; rw [c19b0]) | skip)
       have H' := Aside0.mk H
       clear H
       go_wp2
       go_meet
       case rel => exact ⟨_, (true), (by first | rfl | (simp; done) | (simp [*]; done)), H', ⟨by have := HK1.out; first | omega | exact Nat.le_refl _⟩, ⟨by (with_reducible repeat (first | apply Kd.S_alloc | apply Kd.S_drewN | apply Kd.S_drew)); exact HO_4.out⟩, ⟨by (with_reducible repeat (first | apply Kd.S_alloc | apply Kd.S_drewN | apply Kd.S_drew)); exact HO_6.out⟩, ⟨by repeat (first | (with_reducible first | exact HB.out | apply below_alloc | apply pw_below_drewN | apply below_drew1) | exact HB.out)⟩⟩
     case rest =>
      clear HC18
      try clear c1
      try clear c2
      try clear p2
      try clear c3
      try clear p5
      try clear q5
      try clear hx5
      try clear p6
      try clear c7
      try clear c10
      try clear c11
      try clear c13
      try clear c13b0
      try clear c14
      try clear c14b0
      try clear c15
      try clear c15b0
      try clear c15b1
      try clear c16
      try clear c16b0
      try clear c17
      try clear c17b0
      try clear c17b1
      try clear c19
      try clear c19b0
      try clear c19b1
      try clear c20
      try clear c20b0
      try clear c20b1
      try clear c21
      try clear c21b0
      try clear c21b1
      try clear c21b2
      try clear c22
      try clear c22b0
      try clear c22b1
      try clear c22b2
      try clear c27
      try clear hx528_0
      try clear hx529_0
      try clear hx530_0
      try clear p2
      try clear p528
      try clear p529
      try clear p530
      try clear q528
      try clear q529
      try clear q530
      obtain ⟨kq, x73_17, rfl, HA, HJ17, HO_4, HO_6, HB⟩ := hcut
      cases kq with
      | zero => exact absurd HA.out (by simp [flonglaw17_PlainBack.j1])
      | succ kj17 =>
       have H := HA.out
       clear HA
       simp only [flonglaw17_PlainBack.j1] at H
       by_cases c30 : x73_17 = true
       ·subst c30
        have H1 : (some false) = some r := by rw [if_pos rfl] at H; exact H
        clear H
        have H := H1
        clear H1
        obtain rfl := Option.some.inj H
        go_wp2
        go_ret
        exact ⟨by first | rfl | (simp [errW_none, errW_some] <;> rfl) | (simp [*, errW_none, errW_some] <;> rfl), by repeat (first | (with_reducible first | exact HB.out | apply below_alloc | apply pw_below_drewN | apply below_drew1) | exact HB.out)⟩
       ·replace c30 := Bool.eq_false_iff.mpr c30
        subst c30
        have H1 : (flonglaw17_PlainBack.l1 kj17 t521 t525 0) = some r := by rw [if_neg (show ¬ (false = true) by decide)] at H; exact H
        clear H
        have H := H1
        clear H1
        have H' := Aside0.mk H
        clear H
        go_wp2
        go_loopg [9] kj17 (fun kq v9 w' => ∃ (x9_3 : Int), v9 = .int .i64 x9_3 ∧ Aside0 (flonglaw17_PlainBack.l1 kq t521 t525 x9_3 = some r) ∧ Aside0 (kq ≤ kj17) ∧ Aside0 (Kd.S (Kd.slice 37 k37) 33 w' w.heap.size (fun k_ => some k_ ≠ (v526 : Value).ownBlock) v523 t521) ∧ Aside0 (Kd.S (Kd.slice 37 k37) 33 w' w.heap.size (fun k_ => some k_ ≠ (v523 : Value).ownBlock) v526 t525) ∧ Aside0 (Below w.heap.size w w'))
        case atStart => exact ⟨(0), (by first | rfl | (simp; done) | (simp [*]; done)), H', ⟨Nat.le_refl _⟩, ⟨by (with_reducible repeat (first | apply Kd.S_alloc | apply Kd.S_drewN | apply Kd.S_drew)); exact HO_4.out⟩, ⟨by (with_reducible repeat (first | apply Kd.S_alloc | apply Kd.S_drewN | apply Kd.S_drew)); exact HO_6.out⟩, ⟨by repeat (first | (with_reducible first | exact HB.out | apply below_alloc | apply pw_below_drewN | apply below_drew1) | exact HB.out)⟩⟩
        case round =>
         clear H'
         try clear c1
         try clear c2
         try clear p2
         try clear c3
         try clear p5
         try clear q5
         try clear hx5
         try clear p6
         try clear c7
         try clear c10
         try clear c11
         try clear c13
         try clear c13b0
         try clear c14
         try clear c14b0
         try clear c15
         try clear c15b0
         try clear c15b1
         try clear c16
         try clear c16b0
         try clear c17
         try clear c17b0
         try clear c17b1
         try clear c19
         try clear c19b0
         try clear c19b1
         try clear c20
         try clear c20b0
         try clear c20b1
         try clear c21
         try clear c21b0
         try clear c21b1
         try clear c21b2
         try clear c22
         try clear c22b0
         try clear c22b1
         try clear c22b2
         try clear c27
         try clear c30
         try clear hx528_0
         try clear hx529_0
         try clear hx530_0
         try clear p2
         try clear p5
         try clear p528
         try clear p529
         try clear p530
         try clear p6
         try clear q5
         try clear q528
         try clear q529
         try clear q530
         obtain ⟨x9_3, rfl, HA, HK3, HO_4, HO_6, HB⟩ := hrel
         cases gk with
         | zero => exact absurd HA.out (by simp [flonglaw17_PlainBack.l1])
         | succ k3 =>
          have H := HA.out
          clear HA
          simp only [flonglaw17_PlainBack.l1] at H
          by_cases c31 : x9_3 < (t521.length : Int)
          ·rw [if_pos c31] at H
           have c31b0 : decide (x9_3 < (t521.length : Int)) = true := decide_eq_true c31
           clear c31
           by_cases c32 : 0 ≤ x9_3
           ·rw [if_pos c32] at H
            have c32b0 : decide (0 ≤ x9_3) = true := decide_eq_true c32
            clear c32
            by_cases c33 : x9_3 < (t525.length : Int)
            ·rw [if_pos c33] at H
             have c33b0 : decide (x9_3 < (t525.length : Int)) = true := decide_eq_true c33
             clear c33
             replace H := Option.bind_eq_some_iff.mp H
             obtain ⟨t535, A340, H⟩ := H
             replace H : ((flongref03_Same.f k3 (rd_L6 t521 x9_3) t535).bind fun t538 => (if t538 = true then (flonglaw17_PlainBack.l1 k3 t521 t525 (wrap64 (x9_3 + 1))) else (some false))) = some r := H
             have A34 := Aside0.mk A340
             clear A340
             replace H := Option.bind_eq_some_iff.mp H
             obtain ⟨t538, A350, H⟩ := H
             replace H : (if t538 = true then (flonglaw17_PlainBack.l1 k3 t521 t525 (wrap64 (x9_3 + 1))) else (some false)) = some r := H
             have A35 := Aside0.mk A350
             clear A350
             by_cases c36 : t538 = true
             ·subst c36
              have H1 : (flonglaw17_PlainBack.l1 k3 t521 t525 (wrap64 (x9_3 + 1))) = some r := by rw [if_pos rfl] at H; exact H
              clear H
              have H := H1
              clear H1
              have H' := Aside0.mk H
              clear H
              obtain ⟨Ao37, co37, eo37⟩ := Kd.S_slice HO_4.out
              subst eo37
              try go_wp2
              have n0_ := Aside0.mk (Kd.S_drew HO_4.out)
              have n1_ := Aside0.mk (Kd.S_drew HO_6.out)
              have n2_ := Aside0.mk (below_drew1 HB.out)
              clear HO_4
              clear HO_6
              clear HB
              have HO_4 := n0_
              have HO_6 := n1_
              have HB := n2_
              clear n0_ n1_ n2_
              have p533 : 0 ≤ (x9_3 : Int) := of_decide_eq_true (by first | (with_reducible assumption) | assumption)
              have q533 : x9_3 < (t521.length : Int) := of_decide_eq_true (by first | (with_reducible assumption) | assumption)
              obtain ⟨ad533, A533_0, c533_0, e533, hx533_0, hl533_0, hi533_0⟩ := at_L6 (Kd.S_reads' HO_4.out).2.2 x9_3 p533 q533
              cases e533
              obtain ⟨ce533, hce533, hMe533, hcc533⟩ := Kd.S_get HO_4.out [] x9_3 p533 (by first | exact q533 | exact of_decide_eq_true (by first | (with_reducible assumption) | assumption) | (have e_ := (Kd.S_reads' HO_4.out).1; omega))
              obtain ⟨ve533_0, rfl, ge533_0⟩ := hMe533
              have hv533_0 := hcc533 0 _ rfl
              rw [Nat.add_zero, show ((Kd.slice 37 k37)).sz = 1 from rfl, Nat.mul_one] at hv533_0
              replace hv533_0 := Option.some.inj (hv533_0.symm.trans hx533_0)
              rw [hv533_0] at ge533_0
              have HL533_0 := Aside0.mk (show Kd.R k37 37 _ _ _ _ (rd_L6 t521 x9_3) from ge533_0)
              clear hv533_0 ge533_0
              clear hcc533 hce533
              have HR533_0 := Aside0.mk hi533_0
              have HC533_0 := Aside0.mk hl533_0
              clear hi533_0 hl533_0
              replace p533 := eq_true p533
              replace q533 := eq_true q533
              obtain ⟨Ao39, co39, eo39⟩ := Kd.S_slice HO_6.out
              (first | subst eo39 | (injection eo39 with f1_ f2_ f3_; have f4_ := f1_.symm; have f5_ := f3_.symm; clear f1_ f2_ f3_; subst f4_; subst f5_))
              have p534 : 0 ≤ (x9_3 : Int) := of_decide_eq_true (by first | (with_reducible assumption) | assumption)
              have q534 : x9_3 < (t525.length : Int) := of_decide_eq_true (by first | (with_reducible assumption) | assumption)
              obtain ⟨ad534, A534_0, c534_0, e534, hx534_0, hl534_0, hi534_0⟩ := at_L6 (Kd.S_reads' HO_6.out).2.2 x9_3 p534 q534
              cases e534
              obtain ⟨ce534, hce534, hMe534, hcc534⟩ := Kd.S_get HO_6.out [] x9_3 p534 (by first | exact q534 | exact of_decide_eq_true (by first | (with_reducible assumption) | assumption) | (have e_ := (Kd.S_reads' HO_6.out).1; omega))
              obtain ⟨ve534_0, rfl, ge534_0⟩ := hMe534
              have hv534_0 := hcc534 0 _ rfl
              rw [Nat.add_zero, show ((Kd.slice 37 k37)).sz = 1 from rfl, Nat.mul_one] at hv534_0
              replace hv534_0 := Option.some.inj (hv534_0.symm.trans hx534_0)
              rw [hv534_0] at ge534_0
              have HL534_0 := Aside0.mk (show Kd.R k37 37 _ _ _ _ (rd_L6 t525 x9_3) from ge534_0)
              clear hv534_0 ge534_0
              clear hcc534 hce534
              have HR534_0 := Aside0.mk hi534_0
              have HC534_0 := Aside0.mk hl534_0
              clear hi534_0 hl534_0
              replace p534 := eq_true p534
              replace q534 := eq_true q534
              refine start_ (n := 11) (S := fun w' => w'.cell? (ad533.add (x9_3).toNat) = some (.slice A533_0 (rd_L6 t521 x9_3).length c533_0) ∧ w'.cell? (ad534.add (x9_3).toNat) = some (.slice A534_0 (rd_L6 t525 x9_3).length c534_0)) (ds := []) #[false, false, false, false, false, false, false, false, false, false, false] (by kernel_rfl) rfl rfl ⟨hx533_0, hx534_0⟩ (fun hHeld => ?_); refine with_tabW flonglaw17_PlainBack.tab19 flonglaw17_PlainBack.bits19 (fun HT_ HW_ => ?_)
              generalize wr.drew = w38 at HO_4 HO_6 HB HL533_0 HL534_0 HR533_0 HR534_0 hx533_0 hx534_0 hHeld ⊢
              refine pure_ (i := 0) (N := some 80) (v := ?_) (a' := ?_) #[true, false, false, false, false, false, false, false, false, false, false] rfl rfl (any_of HT_.out (by kernel_rfl)) (fun _ _ _ h => h) (Or.inl ⟨by rfl, ?_⟩) ?_ ?_
              rotate_left
              ·intro w'
               go_simp
               with_reducible rfl
              rotate_left
              ·simp only [Act.put, List.setIfInBounds_toArray, List.set_cons_zero, List.set_cons_succ, i64_w, i32_w]
               rfl
              refine pure_ (i := 1) (N := some 81) (v := ?_) (a' := ?_) #[true, true, false, false, false, false, false, false, false, false, false] rfl rfl (any_of HT_.out (by kernel_rfl)) (fun _ _ _ h => h) (Or.inl ⟨by rfl, ?_⟩) ?_ ?_
              rotate_left
              ·intro w'
               go_simp
               with_reducible rfl
              rotate_left
              ·simp only [Act.put, List.setIfInBounds_toArray, List.set_cons_zero, List.set_cons_succ, i64_w, i32_w]
               rfl
              refine pure_ (i := 2) (N := some 82) (v := ?_) (a' := ?_) #[true, true, true, false, false, false, false, false, false, false, false] rfl rfl (any_of HT_.out (by kernel_rfl)) (fun _ _ _ h => h) (Or.inl ⟨by rfl, ?_⟩) ?_ ?_
              rotate_left
              ·intro w'
               go_simp
               with_reducible rfl
              rotate_left
              ·simp only [Act.put, List.setIfInBounds_toArray, List.set_cons_zero, List.set_cons_succ, i64_w, i32_w]
               rfl
              refine pure_ (i := 4) (N := some 84) (v := ?_) (a' := ?_) #[true, true, true, false, true, false, false, false, false, false, false] rfl rfl (any_of HT_.out (by kernel_rfl)) (fun _ _ _ h => h) (Or.inl ⟨by rfl, ?_⟩) ?_ ?_
              rotate_left
              ·intro w'
               go_simp
               with_reducible rfl
              rotate_left
              ·simp only [Act.put, List.setIfInBounds_toArray, List.set_cons_zero, List.set_cons_succ, i64_w, i32_w]
               rfl
              refine pure_ (i := 5) (N := some 85) (v := ?_) (a' := ?_) #[true, true, true, false, true, true, false, false, false, false, false] rfl rfl (any_of HT_.out (by kernel_rfl)) (fun _ _ _ h => h) (Or.inl ⟨by rfl, ?_⟩) ?_ ?_
              rotate_left
              ·intro w'
               go_simp
               with_reducible rfl
              rotate_left
              ·simp only [Act.put, List.setIfInBounds_toArray, List.set_cons_zero, List.set_cons_succ, i64_w, i32_w]
               rfl
              refine pure_ (i := 6) (N := some 86) (v := ?_) (a' := ?_) #[true, true, true, false, true, true, true, false, false, false, false] rfl rfl (any_of HT_.out (by kernel_rfl)) (fun _ _ _ h => h) (Or.inl ⟨by rfl, ?_⟩) ?_ ?_
              rotate_left
              ·intro w'
               go_simp
               with_reducible rfl
              rotate_left
              ·simp only [Act.put, List.setIfInBounds_toArray, List.set_cons_zero, List.set_cons_succ, i64_w, i32_w]
               rfl
              refine take_ (i := 3) (N := some 83) (v := ?_) (a' := ?_) #[true, true, true, true, true, true, true, false, false, false, false] rfl rfl (take_ofW HT_.out HW_.out (by kernel_rfl)) (fun _ _ _ h => h) (Or.inl ⟨by rfl, ?_⟩) hHeld ?_ ?_
              rotate_left
              ·rintro w' ⟨s0, s1⟩
               go_simp
               with_reducible rfl
              rotate_left
              ·simp only [Act.put, List.setIfInBounds_toArray, List.set_cons_zero, List.set_cons_succ, i64_w, i32_w]
               rfl
              refine take_ (i := 7) (N := some 87) (v := ?_) (a' := ?_) #[true, true, true, true, true, true, true, true, false, false, false] rfl rfl (take_ofW HT_.out HW_.out (by kernel_rfl)) (fun _ _ _ h => h) (Or.inl ⟨by rfl, ?_⟩) hHeld ?_ ?_
              rotate_left
              ·rintro w' ⟨s0, s1⟩
               go_simp
               with_reducible rfl
              rotate_left
              ·simp only [Act.put, List.setIfInBounds_toArray, List.set_cons_zero, List.set_cons_succ, i64_w, i32_w]
               rfl
              refine one_ (i := 8) (N := some 88) #[true, true, true, true, true, true, true, true, true, false, false] rfl rfl (one_of HT_.out (by kernel_rfl)) (by decide) (fun K hK => ?_)
              refine goes_ Tryd.func28 (by kernel_rfl) rfl #[.slice A534_0 (rd_L6 t525 x9_3).length c534_0] (by rfl) rfl rfl (by (try simp only [List.map_toArray, List.map_cons, List.map_nil]); first | done | rfl | (simp only [List.length_drop, List.length_take]; rfl)) ?_
              with_reducible refine (flongref17_Erase.calls k3 _ _ (rd_L6 t525 x9_3) t535 _ ?side1 ?side2 A34.out).mono ?_
              (case side1 => repeat (first | exact (by repeat (first | (with_reducible exact HR534_0.out) | (with_reducible refine Kd.C_alloc ?_ _) | (with_reducible refine Kd.C_drewN ?_ _) | (with_reducible refine Kd.C_drew ?_) | exact HR534_0.out)) | (with_reducible refine Kd.C_alloc ?_ _) | (with_reducible refine Kd.C_drewN ?_ _) | (with_reducible refine Kd.C_drew ?_)))
              (case side2 => exact HC534_0.out)
              rintro e w40 ⟨v536, rfl, ho0, hb⟩
              have HS0_ := (hb.cell (World.block_lt_of_cell? _ _ (hHeld.1))).trans (hHeld.1)
              have HS1_ := (hb.cell (World.block_lt_of_cell? _ _ (hHeld.2))).trans (hHeld.2)
              refine ⟨_, rfl, ?_⟩
              have n0_ := Aside0.mk (Kd.S_elder' (by (with_reducible repeat (first | apply Kd.S_alloc | apply Kd.S_drewN | apply Kd.S_drew)); exact HO_4.out) (Kd.R_base ho0) hb)
              have n1_ := Aside0.mk (Kd.S_elder' (by (with_reducible repeat (first | apply Kd.S_alloc | apply Kd.S_drewN | apply Kd.S_drew)); exact HO_6.out) (Kd.R_base ho0) hb)
              have n2_ := Aside0.mk (Kd.R_elder' (by (with_reducible repeat (first | apply Kd.R_alloc | apply Kd.R_drewN | apply Kd.R_drew)); exact HL533_0.out) (Kd.R_base ho0) hb)
              have n3_ := Aside0.mk (Kd.R_elder' (by (with_reducible repeat (first | apply Kd.R_alloc | apply Kd.R_drewN | apply Kd.R_drew)); exact HL534_0.out) (Kd.R_base ho0) hb)
              have n4_ := Aside0.mk (Kd.R_lower (Kd.R_new' (Kd.R_new' ho0 (Kd.R_lt (by (with_reducible repeat (first | apply Kd.R_alloc | apply Kd.R_drewN | apply Kd.R_drew)); exact HL533_0.out))) (Kd.R_lt (by (with_reducible repeat (first | apply Kd.R_alloc | apply Kd.R_drewN | apply Kd.R_drew)); exact HL534_0.out))) (below_size (by repeat (first | (with_reducible first | exact HB.out | apply below_alloc | apply pw_below_drewN | apply below_drew1) | exact HB.out))))
              have n5_ := Aside0.mk (Kd.C_below (by repeat (first | (with_reducible exact HR533_0.out) | (with_reducible refine Kd.C_alloc ?_ _) | (with_reducible refine Kd.C_drewN ?_ _) | (with_reducible refine Kd.C_drew ?_) | exact HR533_0.out)) hb)
              have n6_ := Aside0.mk (Kd.C_below (by repeat (first | (with_reducible exact HR534_0.out) | (with_reducible refine Kd.C_alloc ?_ _) | (with_reducible refine Kd.C_drewN ?_ _) | (with_reducible refine Kd.C_drew ?_) | exact HR534_0.out)) hb)
              have n7_ := Aside0.mk (below_step (by repeat (first | (with_reducible first | exact HB.out | apply below_alloc | apply pw_below_drewN | apply below_drew1) | exact HB.out)) hb)
              clear HO_4
              clear HO_6
              clear HL533_0
              clear HL534_0
              clear HR533_0
              clear HR534_0
              clear HB
              have HO_4 := n0_
              have HO_6 := n1_
              have HL533_0 := n2_
              have HL534_0 := n3_
              have HO537 := n4_
              have HR533_0 := n5_
              have HR534_0 := n6_
              have HB := n7_
              clear n0_ n1_ n2_ n3_ n4_ n5_ n6_ n7_
              (try clear hb)
              (try clear hb2)
              (try clear hk)
              (try clear hi)
              (try clear ho0)
              obtain ⟨Ao41, co41, eo41⟩ := Kd.R_slice HO537.out
              (first | subst eo41 | (injection eo41 with f1_ f2_ f3_; have f4_ := f1_.symm; have f5_ := f3_.symm; clear f1_ f2_ f3_; subst f4_; subst f5_))
              refine hK.out _ _ ⟨HS0_, HS1_⟩ (fun hHeld => ?_)
              clear hK K
              refine norm_ (a' := ?_) ?_ ?_
              rotate_left
              ·show Act.put _ (some 88) _ = _
               simp only [Act.put, List.setIfInBounds_toArray, List.set_cons_zero, List.set_cons_succ, i64_w, i32_w]
               rfl
              refine one_ (i := 9) (N := some 89) #[true, true, true, true, true, true, true, true, true, true, false] rfl rfl (one_of HT_.out (by kernel_rfl)) (by decide) (fun K hK => ?_)
              refine goes_ Tryd.func19 (by kernel_rfl) rfl #[.slice A533_0 (rd_L6 t521 x9_3).length c533_0, .slice Ao41 t535.length co41] (by rfl) rfl rfl (by (try simp only [List.map_toArray, List.map_cons, List.map_nil]); first | done | rfl | (simp only [List.length_drop, List.length_take]; rfl)) ?_
              with_reducible refine (flongref03_Same.calls k3 _ _ (rd_L6 t521 x9_3) _ _ t535 true _ ?side1 ?side2 ?side3 ?side4 A35.out).mono ?_
              (case side1 => repeat (first | exact (by repeat (first | (with_reducible exact HR533_0.out) | (with_reducible refine Kd.C_alloc ?_ _) | (with_reducible refine Kd.C_drewN ?_ _) | (with_reducible refine Kd.C_drew ?_) | exact HR533_0.out)) | (with_reducible refine Kd.C_alloc ?_ _) | (with_reducible refine Kd.C_drewN ?_ _) | (with_reducible refine Kd.C_drew ?_)))
              (case side2 => exact HC533_0.out)
              (case side3 => repeat (first | exact (Kd.R_reads' HO537.out).2.2 | (with_reducible refine Kd.C_alloc ?_ _) | (with_reducible refine Kd.C_drewN ?_ _) | (with_reducible refine Kd.C_drew ?_)))
              (case side4 => exact (Kd.R_reads' HO537.out).2.1)
              rintro e w' ⟨rfl, ⟨nd, rfl⟩⟩
              refine ⟨_, rfl, ?_⟩
              refine hK.out _ _ ⟨hHeld.1, hHeld.2⟩ (fun hHeld => ?_)
              clear hK K
              refine norm_ (a' := ?_) ?_ ?_
              rotate_left
              ·show Act.put _ (some 89) _ = _
               simp only [Act.put, List.setIfInBounds_toArray, List.set_cons_zero, List.set_cons_succ, i64_w, i32_w]
               rfl
              refine pure_ (i := 10) (N := some 90) (v := ?_) (a' := ?_) #[true, true, true, true, true, true, true, true, true, true, true] rfl rfl (any_of HT_.out (by kernel_rfl)) (fun _ _ _ h => h) (Or.inl ⟨by rfl, ?_⟩) ?_ ?_
              rotate_left
              ·intro w'
               go_simp
               with_reducible rfl
              rotate_left
              ·simp only [Act.put, List.setIfInBounds_toArray, List.set_cons_zero, List.set_cons_succ, i64_w, i32_w]
               rfl
              refine done_ (done_of HT_.out (by kernel_rfl)) ?_
              try go_wp2
              go_roundg k3
              case measure => have := HK1.out; have := HJ17.out; have := HK3.out; omega
              case rel => exact ⟨(wrap64 (x9_3 + 1)), (by first | rfl | (simp; done) | (simp [*]; done)), H', ⟨by have := HK1.out; have := HJ17.out; have := HK3.out; omega⟩, ⟨by (with_reducible repeat (first | apply Kd.S_alloc | apply Kd.S_drewN | apply Kd.S_drew)); exact Kd.S_mono HO_4.out (fun _ hk => hk.1)⟩, ⟨by (with_reducible repeat (first | apply Kd.S_alloc | apply Kd.S_drewN | apply Kd.S_drew)); exact Kd.S_mono HO_6.out (fun _ hk => hk.1)⟩, ⟨by repeat (first | (with_reducible first | exact HB.out | apply below_alloc | apply pw_below_drewN | apply below_drew1) | exact HB.out)⟩⟩
             ·replace c36 := Bool.eq_false_iff.mpr c36
              subst c36
              have H1 : (some false) = some r := by rw [if_neg (show ¬ (false = true) by decide)] at H; exact H
              clear H
              have H := H1
              clear H1
              obtain rfl := Option.some.inj H
              obtain ⟨Ao42, co42, eo42⟩ := Kd.S_slice HO_4.out
              subst eo42
              try go_wp2
              have n0_ := Aside0.mk (Kd.S_drew HO_4.out)
              have n1_ := Aside0.mk (Kd.S_drew HO_6.out)
              have n2_ := Aside0.mk (below_drew1 HB.out)
              clear HO_4
              clear HO_6
              clear HB
              have HO_4 := n0_
              have HO_6 := n1_
              have HB := n2_
              clear n0_ n1_ n2_
              have p533 : 0 ≤ (x9_3 : Int) := of_decide_eq_true (by first | (with_reducible assumption) | assumption)
              have q533 : x9_3 < (t521.length : Int) := of_decide_eq_true (by first | (with_reducible assumption) | assumption)
              obtain ⟨ad533, A533_0, c533_0, e533, hx533_0, hl533_0, hi533_0⟩ := at_L6 (Kd.S_reads' HO_4.out).2.2 x9_3 p533 q533
              cases e533
              obtain ⟨ce533, hce533, hMe533, hcc533⟩ := Kd.S_get HO_4.out [] x9_3 p533 (by first | exact q533 | exact of_decide_eq_true (by first | (with_reducible assumption) | assumption) | (have e_ := (Kd.S_reads' HO_4.out).1; omega))
              obtain ⟨ve533_0, rfl, ge533_0⟩ := hMe533
              have hv533_0 := hcc533 0 _ rfl
              rw [Nat.add_zero, show ((Kd.slice 37 k37)).sz = 1 from rfl, Nat.mul_one] at hv533_0
              replace hv533_0 := Option.some.inj (hv533_0.symm.trans hx533_0)
              rw [hv533_0] at ge533_0
              have HL533_0 := Aside0.mk (show Kd.R k37 37 _ _ _ _ (rd_L6 t521 x9_3) from ge533_0)
              clear hv533_0 ge533_0
              clear hcc533 hce533
              have HR533_0 := Aside0.mk hi533_0
              have HC533_0 := Aside0.mk hl533_0
              clear hi533_0 hl533_0
              replace p533 := eq_true p533
              replace q533 := eq_true q533
              obtain ⟨Ao44, co44, eo44⟩ := Kd.S_slice HO_6.out
              (first | subst eo44 | (injection eo44 with f1_ f2_ f3_; have f4_ := f1_.symm; have f5_ := f3_.symm; clear f1_ f2_ f3_; subst f4_; subst f5_))
              have p534 : 0 ≤ (x9_3 : Int) := of_decide_eq_true (by first | (with_reducible assumption) | assumption)
              have q534 : x9_3 < (t525.length : Int) := of_decide_eq_true (by first | (with_reducible assumption) | assumption)
              obtain ⟨ad534, A534_0, c534_0, e534, hx534_0, hl534_0, hi534_0⟩ := at_L6 (Kd.S_reads' HO_6.out).2.2 x9_3 p534 q534
              cases e534
              obtain ⟨ce534, hce534, hMe534, hcc534⟩ := Kd.S_get HO_6.out [] x9_3 p534 (by first | exact q534 | exact of_decide_eq_true (by first | (with_reducible assumption) | assumption) | (have e_ := (Kd.S_reads' HO_6.out).1; omega))
              obtain ⟨ve534_0, rfl, ge534_0⟩ := hMe534
              have hv534_0 := hcc534 0 _ rfl
              rw [Nat.add_zero, show ((Kd.slice 37 k37)).sz = 1 from rfl, Nat.mul_one] at hv534_0
              replace hv534_0 := Option.some.inj (hv534_0.symm.trans hx534_0)
              rw [hv534_0] at ge534_0
              have HL534_0 := Aside0.mk (show Kd.R k37 37 _ _ _ _ (rd_L6 t525 x9_3) from ge534_0)
              clear hv534_0 ge534_0
              clear hcc534 hce534
              have HR534_0 := Aside0.mk hi534_0
              have HC534_0 := Aside0.mk hl534_0
              clear hi534_0 hl534_0
              replace p534 := eq_true p534
              replace q534 := eq_true q534
              refine start_ (n := 11) (S := fun w' => w'.cell? (ad533.add (x9_3).toNat) = some (.slice A533_0 (rd_L6 t521 x9_3).length c533_0) ∧ w'.cell? (ad534.add (x9_3).toNat) = some (.slice A534_0 (rd_L6 t525 x9_3).length c534_0)) (ds := []) #[false, false, false, false, false, false, false, false, false, false, false] (by kernel_rfl) rfl rfl ⟨hx533_0, hx534_0⟩ (fun hHeld => ?_); refine with_tabW flonglaw17_PlainBack.tab19 flonglaw17_PlainBack.bits19 (fun HT_ HW_ => ?_)
              generalize wr.drew = w43 at HO_4 HO_6 HB HL533_0 HL534_0 HR533_0 HR534_0 hx533_0 hx534_0 hHeld ⊢
              refine pure_ (i := 0) (N := some 80) (v := ?_) (a' := ?_) #[true, false, false, false, false, false, false, false, false, false, false] rfl rfl (any_of HT_.out (by kernel_rfl)) (fun _ _ _ h => h) (Or.inl ⟨by rfl, ?_⟩) ?_ ?_
              rotate_left
              ·intro w'
               go_simp
               with_reducible rfl
              rotate_left
              ·simp only [Act.put, List.setIfInBounds_toArray, List.set_cons_zero, List.set_cons_succ, i64_w, i32_w]
               rfl
              refine pure_ (i := 1) (N := some 81) (v := ?_) (a' := ?_) #[true, true, false, false, false, false, false, false, false, false, false] rfl rfl (any_of HT_.out (by kernel_rfl)) (fun _ _ _ h => h) (Or.inl ⟨by rfl, ?_⟩) ?_ ?_
              rotate_left
              ·intro w'
               go_simp
               with_reducible rfl
              rotate_left
              ·simp only [Act.put, List.setIfInBounds_toArray, List.set_cons_zero, List.set_cons_succ, i64_w, i32_w]
               rfl
              refine pure_ (i := 2) (N := some 82) (v := ?_) (a' := ?_) #[true, true, true, false, false, false, false, false, false, false, false] rfl rfl (any_of HT_.out (by kernel_rfl)) (fun _ _ _ h => h) (Or.inl ⟨by rfl, ?_⟩) ?_ ?_
              rotate_left
              ·intro w'
               go_simp
               with_reducible rfl
              rotate_left
              ·simp only [Act.put, List.setIfInBounds_toArray, List.set_cons_zero, List.set_cons_succ, i64_w, i32_w]
               rfl
              refine pure_ (i := 4) (N := some 84) (v := ?_) (a' := ?_) #[true, true, true, false, true, false, false, false, false, false, false] rfl rfl (any_of HT_.out (by kernel_rfl)) (fun _ _ _ h => h) (Or.inl ⟨by rfl, ?_⟩) ?_ ?_
              rotate_left
              ·intro w'
               go_simp
               with_reducible rfl
              rotate_left
              ·simp only [Act.put, List.setIfInBounds_toArray, List.set_cons_zero, List.set_cons_succ, i64_w, i32_w]
               rfl
              refine pure_ (i := 5) (N := some 85) (v := ?_) (a' := ?_) #[true, true, true, false, true, true, false, false, false, false, false] rfl rfl (any_of HT_.out (by kernel_rfl)) (fun _ _ _ h => h) (Or.inl ⟨by rfl, ?_⟩) ?_ ?_
              rotate_left
              ·intro w'
               go_simp
               with_reducible rfl
              rotate_left
              ·simp only [Act.put, List.setIfInBounds_toArray, List.set_cons_zero, List.set_cons_succ, i64_w, i32_w]
               rfl
              refine pure_ (i := 6) (N := some 86) (v := ?_) (a' := ?_) #[true, true, true, false, true, true, true, false, false, false, false] rfl rfl (any_of HT_.out (by kernel_rfl)) (fun _ _ _ h => h) (Or.inl ⟨by rfl, ?_⟩) ?_ ?_
              rotate_left
              ·intro w'
               go_simp
               with_reducible rfl
              rotate_left
              ·simp only [Act.put, List.setIfInBounds_toArray, List.set_cons_zero, List.set_cons_succ, i64_w, i32_w]
               rfl
              refine take_ (i := 3) (N := some 83) (v := ?_) (a' := ?_) #[true, true, true, true, true, true, true, false, false, false, false] rfl rfl (take_ofW HT_.out HW_.out (by kernel_rfl)) (fun _ _ _ h => h) (Or.inl ⟨by rfl, ?_⟩) hHeld ?_ ?_
              rotate_left
              ·rintro w' ⟨s0, s1⟩
               go_simp
               with_reducible rfl
              rotate_left
              ·simp only [Act.put, List.setIfInBounds_toArray, List.set_cons_zero, List.set_cons_succ, i64_w, i32_w]
               rfl
              refine take_ (i := 7) (N := some 87) (v := ?_) (a' := ?_) #[true, true, true, true, true, true, true, true, false, false, false] rfl rfl (take_ofW HT_.out HW_.out (by kernel_rfl)) (fun _ _ _ h => h) (Or.inl ⟨by rfl, ?_⟩) hHeld ?_ ?_
              rotate_left
              ·rintro w' ⟨s0, s1⟩
               go_simp
               with_reducible rfl
              rotate_left
              ·simp only [Act.put, List.setIfInBounds_toArray, List.set_cons_zero, List.set_cons_succ, i64_w, i32_w]
               rfl
              refine one_ (i := 8) (N := some 88) #[true, true, true, true, true, true, true, true, true, false, false] rfl rfl (one_of HT_.out (by kernel_rfl)) (by decide) (fun K hK => ?_)
              refine goes_ Tryd.func28 (by kernel_rfl) rfl #[.slice A534_0 (rd_L6 t525 x9_3).length c534_0] (by rfl) rfl rfl (by (try simp only [List.map_toArray, List.map_cons, List.map_nil]); first | done | rfl | (simp only [List.length_drop, List.length_take]; rfl)) ?_
              with_reducible refine (flongref17_Erase.calls k3 _ _ (rd_L6 t525 x9_3) t535 _ ?side1 ?side2 A34.out).mono ?_
              (case side1 => repeat (first | exact (by repeat (first | (with_reducible exact HR534_0.out) | (with_reducible refine Kd.C_alloc ?_ _) | (with_reducible refine Kd.C_drewN ?_ _) | (with_reducible refine Kd.C_drew ?_) | exact HR534_0.out)) | (with_reducible refine Kd.C_alloc ?_ _) | (with_reducible refine Kd.C_drewN ?_ _) | (with_reducible refine Kd.C_drew ?_)))
              (case side2 => exact HC534_0.out)
              rintro e w45 ⟨v536, rfl, ho0, hb⟩
              have HS0_ := (hb.cell (World.block_lt_of_cell? _ _ (hHeld.1))).trans (hHeld.1)
              have HS1_ := (hb.cell (World.block_lt_of_cell? _ _ (hHeld.2))).trans (hHeld.2)
              refine ⟨_, rfl, ?_⟩
              have n0_ := Aside0.mk (Kd.S_elder' (by (with_reducible repeat (first | apply Kd.S_alloc | apply Kd.S_drewN | apply Kd.S_drew)); exact HO_4.out) (Kd.R_base ho0) hb)
              have n1_ := Aside0.mk (Kd.S_elder' (by (with_reducible repeat (first | apply Kd.S_alloc | apply Kd.S_drewN | apply Kd.S_drew)); exact HO_6.out) (Kd.R_base ho0) hb)
              have n2_ := Aside0.mk (Kd.R_elder' (by (with_reducible repeat (first | apply Kd.R_alloc | apply Kd.R_drewN | apply Kd.R_drew)); exact HL533_0.out) (Kd.R_base ho0) hb)
              have n3_ := Aside0.mk (Kd.R_elder' (by (with_reducible repeat (first | apply Kd.R_alloc | apply Kd.R_drewN | apply Kd.R_drew)); exact HL534_0.out) (Kd.R_base ho0) hb)
              have n4_ := Aside0.mk (Kd.R_lower (Kd.R_new' (Kd.R_new' ho0 (Kd.R_lt (by (with_reducible repeat (first | apply Kd.R_alloc | apply Kd.R_drewN | apply Kd.R_drew)); exact HL533_0.out))) (Kd.R_lt (by (with_reducible repeat (first | apply Kd.R_alloc | apply Kd.R_drewN | apply Kd.R_drew)); exact HL534_0.out))) (below_size (by repeat (first | (with_reducible first | exact HB.out | apply below_alloc | apply pw_below_drewN | apply below_drew1) | exact HB.out))))
              have n5_ := Aside0.mk (Kd.C_below (by repeat (first | (with_reducible exact HR533_0.out) | (with_reducible refine Kd.C_alloc ?_ _) | (with_reducible refine Kd.C_drewN ?_ _) | (with_reducible refine Kd.C_drew ?_) | exact HR533_0.out)) hb)
              have n6_ := Aside0.mk (Kd.C_below (by repeat (first | (with_reducible exact HR534_0.out) | (with_reducible refine Kd.C_alloc ?_ _) | (with_reducible refine Kd.C_drewN ?_ _) | (with_reducible refine Kd.C_drew ?_) | exact HR534_0.out)) hb)
              have n7_ := Aside0.mk (below_step (by repeat (first | (with_reducible first | exact HB.out | apply below_alloc | apply pw_below_drewN | apply below_drew1) | exact HB.out)) hb)
              clear HO_4
              clear HO_6
              clear HL533_0
              clear HL534_0
              clear HR533_0
              clear HR534_0
              clear HB
              have HO_4 := n0_
              have HO_6 := n1_
              have HL533_0 := n2_
              have HL534_0 := n3_
              have HO537 := n4_
              have HR533_0 := n5_
              have HR534_0 := n6_
              have HB := n7_
              clear n0_ n1_ n2_ n3_ n4_ n5_ n6_ n7_
              (try clear hb)
              (try clear hb2)
              (try clear hk)
              (try clear hi)
              (try clear ho0)
              obtain ⟨Ao46, co46, eo46⟩ := Kd.R_slice HO537.out
              (first | subst eo46 | (injection eo46 with f1_ f2_ f3_; have f4_ := f1_.symm; have f5_ := f3_.symm; clear f1_ f2_ f3_; subst f4_; subst f5_))
              refine hK.out _ _ ⟨HS0_, HS1_⟩ (fun hHeld => ?_)
              clear hK K
              refine norm_ (a' := ?_) ?_ ?_
              rotate_left
              ·show Act.put _ (some 88) _ = _
               simp only [Act.put, List.setIfInBounds_toArray, List.set_cons_zero, List.set_cons_succ, i64_w, i32_w]
               rfl
              refine one_ (i := 9) (N := some 89) #[true, true, true, true, true, true, true, true, true, true, false] rfl rfl (one_of HT_.out (by kernel_rfl)) (by decide) (fun K hK => ?_)
              refine goes_ Tryd.func19 (by kernel_rfl) rfl #[.slice A533_0 (rd_L6 t521 x9_3).length c533_0, .slice Ao46 t535.length co46] (by rfl) rfl rfl (by (try simp only [List.map_toArray, List.map_cons, List.map_nil]); first | done | rfl | (simp only [List.length_drop, List.length_take]; rfl)) ?_
              with_reducible refine (flongref03_Same.calls k3 _ _ (rd_L6 t521 x9_3) _ _ t535 false _ ?side1 ?side2 ?side3 ?side4 A35.out).mono ?_
              (case side1 => repeat (first | exact (by repeat (first | (with_reducible exact HR533_0.out) | (with_reducible refine Kd.C_alloc ?_ _) | (with_reducible refine Kd.C_drewN ?_ _) | (with_reducible refine Kd.C_drew ?_) | exact HR533_0.out)) | (with_reducible refine Kd.C_alloc ?_ _) | (with_reducible refine Kd.C_drewN ?_ _) | (with_reducible refine Kd.C_drew ?_)))
              (case side2 => exact HC533_0.out)
              (case side3 => repeat (first | exact (Kd.R_reads' HO537.out).2.2 | (with_reducible refine Kd.C_alloc ?_ _) | (with_reducible refine Kd.C_drewN ?_ _) | (with_reducible refine Kd.C_drew ?_)))
              (case side4 => exact (Kd.R_reads' HO537.out).2.1)
              rintro e w' ⟨rfl, ⟨nd, rfl⟩⟩
              refine ⟨_, rfl, ?_⟩
              refine hK.out _ _ ⟨hHeld.1, hHeld.2⟩ (fun hHeld => ?_)
              clear hK K
              refine norm_ (a' := ?_) ?_ ?_
              rotate_left
              ·show Act.put _ (some 89) _ = _
               simp only [Act.put, List.setIfInBounds_toArray, List.set_cons_zero, List.set_cons_succ, i64_w, i32_w]
               rfl
              refine pure_ (i := 10) (N := some 90) (v := ?_) (a' := ?_) #[true, true, true, true, true, true, true, true, true, true, true] rfl rfl (any_of HT_.out (by kernel_rfl)) (fun _ _ _ h => h) (Or.inl ⟨by rfl, ?_⟩) ?_ ?_
              rotate_left
              ·intro w'
               go_simp
               with_reducible rfl
              rotate_left
              ·simp only [Act.put, List.setIfInBounds_toArray, List.set_cons_zero, List.set_cons_succ, i64_w, i32_w]
               rfl
              refine done_ (done_of HT_.out (by kernel_rfl)) ?_
              try go_wp2
              go_ret
              exact ⟨by first | rfl | (simp [errW_none, errW_some] <;> rfl) | (simp [*, errW_none, errW_some] <;> rfl), by repeat (first | (with_reducible first | exact HB.out | apply below_alloc | apply pw_below_drewN | apply below_drew1) | exact HB.out)⟩
            ·rw [if_neg c33] at H
             exact absurd H (by simp)
           ·rw [if_neg c32] at H
            exact absurd H (by simp)
          ·rw [if_neg c31] at H
           have c31b0 : decide (x9_3 < (t521.length : Int)) = false := decide_eq_false c31
           clear c31
           replace H := Option.bind_eq_some_iff.mp H
           obtain ⟨t532, A470, H⟩ := H
           replace H : (some t532) = some r := H
           have A47 := Aside0.mk A470
           clear A470
           obtain rfl := Option.some.inj H
           obtain ⟨Ao48, co48, eo48⟩ := Kd.S_slice HO_4.out
           subst eo48
           go_wp2_with (first | ((with_reducible refine gate_callee (f := 11) rfl ?_); refine goesL_ (some 91) rfl rfl Tryd.func11 (by kernel_rfl) rfl #[] rfl (by (try simp only [List.map_toArray, List.map_cons, List.map_nil]); first | done | rfl | (simp only [List.length_drop, List.length_take]; rfl)) ?_; (with_reducible refine (flonglaw17_known.calls k3  t532 _ ?side1 A47.out).mono ?_); (case side1 => exact GOK.of_below (GOK.sub HG.out rfl) (by repeat (first | (with_reducible first | exact HB.out | apply below_alloc | apply pw_below_drewN | apply below_drew1) | exact HB.out))); rintro e w49 ⟨rfl, hb⟩; refine ⟨_, rfl, ?_⟩; have n0_ := Aside0.mk (Kd.S_below (by (with_reducible repeat (first | apply Kd.S_alloc | apply Kd.S_drewN | apply Kd.S_drew)); exact HO_4.out) hb); have n1_ := Aside0.mk (Kd.S_below (by (with_reducible repeat (first | apply Kd.S_alloc | apply Kd.S_drewN | apply Kd.S_drew)); exact HO_6.out) hb); have n2_ := Aside0.mk (below_step (by repeat (first | (with_reducible first | exact HB.out | apply below_alloc | apply pw_below_drewN | apply below_drew1) | exact HB.out)) hb); clear HO_4; clear HO_6; clear HB; have HO_4 := n0_; have HO_6 := n1_; have HB := n2_; clear n0_ n1_ n2_; (try clear hb); (try clear hb2); (try clear hk); (try clear hi)))
           go_ret
           exact ⟨by first | rfl | (simp [errW_none, errW_some] <;> rfl) | (simp [*, errW_none, errW_some] <;> rfl), by repeat (first | (with_reducible first | exact HB.out | apply below_alloc | apply pw_below_drewN | apply below_drew1) | exact HB.out)⟩

end Go.Proofs.YtadejblahbebdaaDoor.X
