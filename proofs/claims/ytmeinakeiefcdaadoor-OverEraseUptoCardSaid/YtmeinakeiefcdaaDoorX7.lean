-- Written by this session's xprint.py (a variant of the kit's printer). Not trusted: Lean checks it.
import Derived.Test.YtmeinakeiefcdaaDoorX0
import Derived.Test.YtmeinakeiefcdaaDoorSlim
import Derived.Test.YtmeinakeiefcdaaDoorX3
import Derived.Test.YtmeinakeiefcdaaDoorX6
import Derived.Test.YtmeinakeiefcdaaDoorHandA
namespace Go.Proofs.YtmeinakeiefcdaaDoor.X
open Go.Proofs.YtmeinakeiefcdaaDoor.Hand
open Go.RowKit Go.Proofs.YtmeinakeiefcdaaDoorW.PrintWords Go.Proofs.YtmeinakeiefcdaaDoorW.PrintLast Go.Proofs.YtmeinakeiefcdaaDoorW.PrintMore
attribute [local go_sem] max2_int min2_int max_two min_two max_three min_three max_four min_four   -- for this text's walks alone
set_option linter.unusedVariables false
set_option maxHeartbeats 8000000
set_option maxRecDepth 100000
set_option linter.unusedSimpArgs false

/-! ### flongref17_Normal: function 14 -/
mutual
def flongref17_Normal.l0 : Nat → List (S35) → List (S35) → Int → Option ((List (S35)))
 | 0, _, _, _ => none
 | k + 1, x3, x4, x5 => if x5 < (x3.length : Int) then (if 0 ≤ x5 then (if x5 > 0 then ((flongref02_Width.f k ((rd_T35 x3 x5).f0)).bind fun t414 => (flongref17_Normal.j1 k x3 x4 x5 (t414 == 0) ((rd_T35 x3 x5).f0) ((rd_T35 x3 x5).f1))) else (flongref17_Normal.j1 k x3 x4 x5 false ((rd_T35 x3 x5).f0) ((rd_T35 x3 x5).f1))) else (none)) else (some x4)
def flongref17_Normal.j1 : Nat → List (S35) → List (S35) → Int → Bool → Int → Int → Option ((List (S35)))
 | 0, _, _, _, _, _, _ => none
 | k + 1, x3, x4, x5, x27, x414000, x414001 => if x27 = true then (if 0 ≤ (wrap64 (x5 - 1)) then (if (wrap64 (x5 - 1)) < (x4.length : Int) then (if x414000 = 32 then (if x4.length < 17592186044416 then (flongref17_Normal.l0 k x3 (x4 ++ [(⟨x414000, 0⟩ : S35)]) (wrap64 (x5 + 1))) else (none)) else (if x4.length < 17592186044416 then (flongref17_Normal.l0 k x3 (x4 ++ [(⟨x414000, (rd_T35 x4 (wrap64 (x5 - 1))).f1⟩ : S35)]) (wrap64 (x5 + 1))) else (none))) else (none)) else (none)) else (if x414000 = 32 then (if x4.length < 17592186044416 then (flongref17_Normal.l0 k x3 (x4 ++ [(⟨x414000, 0⟩ : S35)]) (wrap64 (x5 + 1))) else (none)) else (if x4.length < 17592186044416 then (flongref17_Normal.l0 k x3 (x4 ++ [(⟨x414000, x414001⟩ : S35)]) (wrap64 (x5 + 1))) else (none)))
end
def flongref17_Normal.f (k : Nat) (l0 : List (S35)) : Option ((List (S35))) := (flongref03_Clean.f k l0).bind fun t406 => ((flongref03_Trim.f k t406).bind fun t409 => (flongref17_Normal.l0 k t409 ([] : List (S35)) 0))
theorem flongref17_Normal.mono_l : ∀ k, (∀ y0 y1 y2, LeO (flongref17_Normal.l0 k y0 y1 y2) (flongref17_Normal.l0 (k + 1) y0 y1 y2)) ∧ (∀ y0 y1 y2 y3 y4 y5, LeO (flongref17_Normal.j1 k y0 y1 y2 y3 y4 y5) (flongref17_Normal.j1 (k + 1) y0 y1 y2 y3 y4 y5))
 | 0 => ⟨fun _ _ _ r h => by simp [flongref17_Normal.l0] at h, fun _ _ _ _ _ _ r h => by simp [flongref17_Normal.j1] at h⟩
 | k + 1 => by
  obtain ⟨ih0, ih1⟩ := flongref17_Normal.mono_l k
  refine ⟨?_, ?_⟩
  ·intro y0 y1 y2
   unfold flongref17_Normal.l0
   repeat' first
   | (with_reducible exact ih0 _ _ _)
   | (with_reducible exact ih1 _ _ _ _ _ _)
   | (with_reducible exact flongref02_Width.mono _ _)
   | (with_reducible exact flongref03_Clean.mono _ _)
   | (with_reducible exact flongref03_Trim.mono _ _)
   | (with_reducible exact LeO.refl _)
   | (with_reducible exact LeO.none _)
   | (with_reducible refine LeO.ite ?_ ?_)
   | (with_reducible refine LeO.bind ?_ (fun _ => ?_))
  ·intro y0 y1 y2 y3 y4 y5
   unfold flongref17_Normal.j1
   repeat' first
   | (with_reducible exact ih0 _ _ _)
   | (with_reducible exact ih1 _ _ _ _ _ _)
   | (with_reducible exact flongref02_Width.mono _ _)
   | (with_reducible exact flongref03_Clean.mono _ _)
   | (with_reducible exact flongref03_Trim.mono _ _)
   | (with_reducible exact LeO.refl _)
   | (with_reducible exact LeO.none _)
   | (with_reducible refine LeO.ite ?_ ?_)
   | (with_reducible refine LeO.bind ?_ (fun _ => ?_))
theorem flongref17_Normal.mono : ∀ a0 k, LeO (flongref17_Normal.f k a0) (flongref17_Normal.f (k + 1) a0) := by
 intro a0 k
 obtain ⟨ih0, ih1⟩ := flongref17_Normal.mono_l k
 unfold flongref17_Normal.f
 repeat' first
   | (with_reducible exact ih0 _ _ _)
   | (with_reducible exact ih1 _ _ _ _ _ _)
   | (with_reducible exact flongref02_Width.mono _ _)
   | (with_reducible exact flongref03_Clean.mono _ _)
   | (with_reducible exact flongref03_Trim.mono _ _)
   | (with_reducible exact LeO.refl _)
   | (with_reducible exact LeO.none _)
   | (with_reducible refine LeO.ite ?_ ?_)
   | (with_reducible refine LeO.bind ?_ (fun _ => ?_))
theorem flongref17_Normal.calls (k : Nat) (A0 : Option Addr) (c0 : Nat) (l0 : List (S35)) (r : List (S35)) (w : World) (hr0 : Kd.C k35 w A0 l0.length l0) (hc0 : l0.length ≤ c0) (h : flongref17_Normal.f k l0 = some r) :
  Calls Tryd.prog 14 #[.slice A0 l0.length c0] w fun e w' => ∃ v0_ : Value, e = .returned (v0_) ∧ Kd.R k35 35 w' w.heap.size (fun _ => True) v0_ r ∧ Below w.heap.size w w' := by
 have hu35 := Tryd.underlying35
 have HR0 := Aside0.mk hr0
 have HC0 := Aside0.mk hc0
 clear hr0 hc0
 have HB := Aside0.mk (Below.refl w.heap.size w)
 have H : ((flongref03_Clean.f k l0).bind fun t406 => ((flongref03_Trim.f k t406).bind fun t409 => (flongref17_Normal.l0 k t409 ([] : List (S35)) 0))) = some r := h
 clear h
 replace H := Option.bind_eq_some_iff.mp H
 obtain ⟨t406, A20, H⟩ := H
 replace H : ((flongref03_Trim.f k t406).bind fun t409 => (flongref17_Normal.l0 k t409 ([] : List (S35)) 0)) = some r := H
 have A2 := Aside0.mk A20
 clear A20
 replace H := Option.bind_eq_some_iff.mp H
 obtain ⟨t409, A30, H⟩ := H
 replace H : (flongref17_Normal.l0 k t409 ([] : List (S35)) 0) = some r := H
 have A3 := Aside0.mk A30
 clear A30
 have H' := Aside0.mk H
 clear H
 go_enter Tryd.func14, Tryd.ntmps14
 go_wp2_with (first | ((with_reducible refine gate_callee (f := 30) rfl ?_); refine goesL_ (some 8) rfl rfl Tryd.func30 (by kernel_rfl) rfl #[.slice A0 l0.length c0] rfl aP ?_; (with_reducible refine (flongref03_Clean.calls k _ _ l0 t406 _ ?side1 ?side2 A2.out).mono ?_); (case side1 => repeat (first | exact HR0.out | (with_reducible refine Kd.C_alloc ?_ _) | (with_reducible refine Kd.C_drewN ?_ _) | (with_reducible refine Kd.C_drew ?_))); (case side2 => exact HC0.out); rintro e w4 ⟨v407, rfl, ho0, hb⟩; refine ⟨_, rfl, ?_⟩; have HO408 := Aside0.mk (Kd.R_lower ho0 (below_size bA)); replace HB := Aside0.mk (below_step bA hb); (try clear hb); (try clear hb2); (try clear hk); (try clear hi); (try clear ho0); obtain ⟨Ao5, co5, eo5⟩ := Kd.R_slice HO408.out; subst eo5) | ((with_reducible refine gate_callee (f := 29) rfl ?_); refine goesL_ (some 9) rfl rfl Tryd.func29 (by kernel_rfl) rfl #[.slice Ao5 t406.length co5] rfl aP ?_; (with_reducible refine (flongref03_Trim.calls k (fun k_ => some k_ = (.slice Ao5 t406.length co5 : Value).ownBlock) _ _ t406 t409 _ ?side1 A3.out).mono ?_); (case side1 => exact Kd.R_V (Kd.R_tight rfl (HO408.out))); rintro e w6 ⟨v410, rfl, ho0, hb⟩; refine ⟨_, rfl, ?_⟩; replace HO408 := Aside0.mk (Kd.R_below (kR HO408) hb); have HO411 := Aside0.mk (Kd.V_lower (Kd.V_mono (ok' := fun k_ => True) ho0 (fun k_ hk_ => trivial)) (below_size bA)); replace HB := Aside0.mk (below_step bA hb); (try clear hb); (try clear hb2); (try clear hk); (try clear hi); (try clear ho0)))
 go_loopg [4, 5] k (fun kq v4 v5 w' => ∃ (x4_1 : List (S35)) (x5_1 : Int), v5 = .int .i64 x5_1 ∧ Aside0 (flongref17_Normal.l0 kq t409 x4_1 x5_1 = some r) ∧ Aside0 (kq ≤ k) ∧ Aside0 (Kd.V k35 35 w' w.heap.size (fun k_ => some k_ ≠ (v4 : Value).ownBlock) v410 t409) ∧ Aside0 (Kd.R k35 35 w' w.heap.size (fun _ => True) v4 x4_1) ∧ Aside0 (Below w.heap.size w w'))
 case atStart => exact ⟨(([] : List (S35))), (0), sA, H', ⟨Nat.le_refl _⟩, ⟨by (with_reducible repeat (first | apply Kd.V_alloc | apply Kd.V_drewN | apply Kd.V_drew)); exact Kd.V_mono HO411.out (fun _ hk => (by simp [Value.ownBlock]))⟩, ⟨by first | exact Kd.R_nil _ _ _ _ _ | exact Kd.N_nil _ _ _ _ _ | exact Kd.V_nil _ _ _ _ _ | exact Kd.Q_nil _ _ _ _ _ | exact Kd.S_nil _ _ _ _ _⟩, ⟨bA⟩⟩
 case round =>
  clear H'
  try clear c1
  try clear c2
  try clear p2
  try clear c3
  obtain ⟨x4_1, x5_1, rfl, HA, HK1, HO_3, HO_4, HB⟩ := hrel
  cases gk with
  | zero => exact absurd HA.out (by simp [flongref17_Normal.l0])
  | succ k1 =>
   have H := HA.out
   clear HA
   simp only [flongref17_Normal.l0] at H
   by_cases c7 : x5_1 < (t409.length : Int)
   ·rw [if_pos c7] at H
    have c7b0 : decide (x5_1 < (t409.length : Int)) = true := decide_eq_true c7
    clear c7
    by_cases c8 : 0 ≤ x5_1
    ·rw [if_pos c8] at H
     have c8b0 : decide (0 ≤ x5_1) = true := decide_eq_true c8
     clear c8
     have HC9 := Aside0.mk H
     clear H
     obtain ⟨Ao10, co10, eo10⟩ := Kd.V_slice HO_3.out
     subst eo10
     have p412 : 0 ≤ (x5_1 : Int) := of_decide_eq_true asA
     have q412 : x5_1 < (t409.length : Int) := of_decide_eq_true asA
     obtain ⟨ad412, e412, hx412_0, hx412_1⟩ := at_T35 (Kd.V_reads' HO_3.out).2.2 x5_1 p412 q412
     cases e412
     replace p412 := eq_true p412
     replace q412 := eq_true q412
     go_upto_region 7 with (first | ((with_reducible refine gate_dst (N := 6) rfl ?_); refine box_event ?hg (N := 6) ?hd (cs := #[.int .i32 0, .int .u8 0]) (t := 35) ?hr ?_; (case hd => rfl); (case hg => rfl); (case hr => first | (go_simp; done) | (go_simp; rfl)); intro gb413 hg w11 hbox hb; replace HO_3 := Aside0.mk (Kd.V_below (Kd.V_elderB (kV HO_3) gb413 (Nat.le_of_eq hg.symm)) hb); replace HO_4 := Aside0.mk (Kd.R_below (Kd.R_elderB (kR HO_4) gb413 (Nat.le_of_eq hg.symm)) hb); have BK413 := Aside0.mk (hbox); have GW413 := Aside0.mk ((geA hg : w.heap.size ≤ gb413)); have GE413 := Aside0.mk ((geA hg : w.heap.size ≤ gb413)); replace HB := Aside0.mk (below_step bA hb); clear hb hbox hg; have hcz12_0 : w11.cell? ⟨gb413, 0, none⟩ = some (.int .i32 0) := (blk_cell BK413.out 0).trans rfl; have hcz12_1 : w11.cell? ⟨gb413, 1, none⟩ = some (.int .u8 0) := (blk_cell BK413.out 1).trans rfl; have hfz12_0 := blk_frozen BK413.out 0; have hfz12_1 := blk_frozen BK413.out 1))
     (try simp only [Act.put, List.setIfInBounds_toArray, List.set_cons_zero, List.set_cons_succ])
     go_cut [27] (fun v27 wc => ∃ (kq : Nat) (x27_8 : Bool), v27 = .bool x27_8 ∧ Aside0 (flongref17_Normal.j1 kq t409 x4_1 x5_1 x27_8 ((rd_T35 t409 x5_1).f0) ((rd_T35 t409 x5_1).f1) = some r) ∧ Aside0 (kq ≤ k1) ∧ Aside0 (Kd.V k35 35 wc w.heap.size (fun k_ => some k_ ≠ (u4 : Value).ownBlock ∧ k_ ≠ gb413) (.slice (some ad412) t409.length co10) t409) ∧ Aside0 (Kd.R k35 35 wc w.heap.size (fun k_ => k_ ≠ gb413) u4 x4_1) ∧ Aside0 (wc.heap[gb413]? = some (.cells #[.int .i32 ((rd_T35 t409 x5_1).f0), .int .u8 ((rd_T35 t409 x5_1).f1)] 35 (0, 0))) ∧ Aside0 (Below w.heap.size w wc))
     case first =>
      have H := HC9.out
      clear HC9
      by_cases c13 : x5_1 > 0
      ·rw [if_pos c13] at H
       have c13b0 : decide (0 < x5_1) = true := decide_eq_true c13
       clear c13
       (first | rw [c13b0] | (simp only [i64_w, i32_w]; rw [c13b0]) | skip)
       replace H := Option.bind_eq_some_iff.mp H
       obtain ⟨t414, A140, H⟩ := H
       replace H : (flongref17_Normal.j1 k1 t409 x4_1 x5_1 (t414 == 0) ((rd_T35 t409 x5_1).f0) ((rd_T35 t409 x5_1).f1)) = some r := H
       have A14 := Aside0.mk A140
       clear A140
       have H' := Aside0.mk H
       clear H
       have hcz15_0 : w11.cell? ⟨gb413, 0, none⟩ = some (.int .i32 0) := (blk_cell BK413.out 0).trans rfl
       have hcz15_1 : w11.cell? ⟨gb413, 1, none⟩ = some (.int .u8 0) := (blk_cell BK413.out 1).trans rfl
       have hfz15_0 := blk_frozen BK413.out 0
       have hfz15_1 := blk_frozen BK413.out 1
       go_wp2_with (first | (go_at_call 31; (with_reducible refine (flongref02_Width.calls k1 ((rd_T35 t409 x5_1).f0) t414 _ A14.out).mono ?_); rintro e w16 ⟨rfl, hb⟩; have n0_ := Aside0.mk (Kd.V_below (by (with_reducible repeat (first | apply Kd.V_alloc | apply Kd.V_drewN | apply Kd.V_drew)); exact (Kd.V_mono (Kd.V_far (p := ⟨gb413, 1, none⟩) (Kd.V_far (p := ⟨gb413, 0, none⟩) (Kd.V_mono HO_3.out (fun k_ hk => (⟨hk, hk.2⟩ : _ ∧ k_ ≠ gb413))) (fun _ hk => hk.2) (.int .i32 ((rd_T35 t409 x5_1).f0))) (fun _ hk => hk.2) (.int .u8 ((rd_T35 t409 x5_1).f1))) (fun _ h_ => h_.1))) hb); have n1_ := Aside0.mk (Kd.R_below (by (with_reducible repeat (first | apply Kd.R_alloc | apply Kd.R_drewN | apply Kd.R_drew)); exact (Kd.R_mono (Kd.R_far (p := ⟨gb413, 1, none⟩) (Kd.R_far (p := ⟨gb413, 0, none⟩) (Kd.R_mono HO_4.out (fun k_ hk => (⟨hk, hk.2⟩ : _ ∧ k_ ≠ gb413))) (fun _ hk => hk.2) (.int .i32 ((rd_T35 t409 x5_1).f0))) (fun _ hk => hk.2) (.int .u8 ((rd_T35 t409 x5_1).f1))) (fun _ h_ => h_.1))) hb); have n2_ := Aside0.mk (blk_below (g := gb413) (o := .cells #[.int .i32 ((rd_T35 t409 x5_1).f0), .int .u8 ((rd_T35 t409 x5_1).f1)] 35 (0, 0)) (by (with_reducible repeat (first | refine blk_drewN ?_ _ | refine blk_drew ?_ | refine blk_alloc ?_ _)); refine blk_put (cs := #[.int .i32 ((rd_T35 t409 x5_1).f0), .int .u8 0]) ?_ 1 _ rfl; (with_reducible repeat (first | refine blk_drewN ?_ _ | refine blk_drew ?_ | refine blk_alloc ?_ _)); refine blk_put (cs := #[.int .i32 0, .int .u8 0]) ?_ 0 _ rfl; (with_reducible repeat (first | refine blk_drewN ?_ _ | refine blk_drew ?_ | refine blk_alloc ?_ _)); exact BK413.out) hb); have n3_ := Aside0.mk (below_step bG hb); clear HO_3; clear HO_4; clear BK413; clear HB; have HO_3 := n0_; have HO_4 := n1_; have BK413 := n2_; have HB := n3_; clear n0_ n1_ n2_ n3_; (try clear hb); (try clear hb2); (try clear hk); (try clear hi)))
       go_meet
       case rel => exact ⟨_, ((t414 == 0)), sA, H', ⟨by have := HK1.out; first | omega | exact Nat.le_refl _⟩, ⟨kV HO_3⟩, ⟨by (with_reducible repeat (first | apply Kd.R_alloc | apply Kd.R_drewN | apply Kd.R_drew)); exact Kd.R_mono HO_4.out (fun _ hk => hk.2)⟩, ⟨kB BK413⟩, ⟨bG⟩⟩
      ·rw [if_neg c13] at H
       have c13b0 : decide (0 < x5_1) = false := decide_eq_false c13
       clear c13
       (first | rw [c13b0] | (simp only [i64_w, i32_w]; rw [c13b0]) | skip)
       have H' := Aside0.mk H
       clear H
       go_wp2
       go_meet
       case rel => exact ⟨_, (false), sA, H', ⟨by have := HK1.out; first | omega | exact Nat.le_refl _⟩, ⟨by (with_reducible repeat (first | apply Kd.V_alloc | apply Kd.V_drewN | apply Kd.V_drew)); exact Kd.V_mono (Kd.V_far (p := ⟨gb413, 1, none⟩) (Kd.V_far (p := ⟨gb413, 0, none⟩) (Kd.V_mono HO_3.out (fun k_ hk => (⟨hk, hk.2⟩ : _ ∧ k_ ≠ gb413))) (fun _ hk => hk.2) (.int .i32 ((rd_T35 t409 x5_1).f0))) (fun _ hk => hk.2) (.int .u8 ((rd_T35 t409 x5_1).f1))) (fun _ hk => ⟨hk.1.1, hk.1.2⟩)⟩, ⟨by (with_reducible repeat (first | apply Kd.R_alloc | apply Kd.R_drewN | apply Kd.R_drew)); exact Kd.R_mono (Kd.R_far (p := ⟨gb413, 1, none⟩) (Kd.R_far (p := ⟨gb413, 0, none⟩) (Kd.R_mono HO_4.out (fun k_ hk => (⟨hk, hk.2⟩ : _ ∧ k_ ≠ gb413))) (fun _ hk => hk.2) (.int .i32 ((rd_T35 t409 x5_1).f0))) (fun _ hk => hk.2) (.int .u8 ((rd_T35 t409 x5_1).f1))) (fun _ hk => hk.1.2)⟩, ⟨by (with_reducible repeat (first | refine blk_drewN ?_ _ | refine blk_drew ?_ | refine blk_alloc ?_ _)); refine blk_put (cs := #[.int .i32 ((rd_T35 t409 x5_1).f0), .int .u8 0]) ?_ 1 _ rfl; (with_reducible repeat (first | refine blk_drewN ?_ _ | refine blk_drew ?_ | refine blk_alloc ?_ _)); refine blk_put (cs := #[.int .i32 0, .int .u8 0]) ?_ 0 _ rfl; (with_reducible repeat (first | refine blk_drewN ?_ _ | refine blk_drew ?_ | refine blk_alloc ?_ _)); exact BK413.out⟩, ⟨bG⟩⟩
     case rest =>
      clear HC9
      try clear c1
      try clear c2
      try clear p2
      try clear c3
      try clear p4
      try clear q4
      try clear hx4
      try clear c7
      try clear c7b0
      try clear c8
      try clear c8b0
      try clear c13
      try clear c13b0
      try clear c14
      try clear hcz12_0
      try clear hcz12_1
      try clear hcz15_0
      try clear hcz15_1
      try clear hfz12_0
      try clear hfz12_1
      try clear hfz15_0
      try clear hfz15_1
      try clear hx412_0
      try clear hx412_1
      try clear p2
      try clear p412
      try clear q412
      obtain ⟨kq, x27_8, rfl, HA, HJ8, HO_3, HO_4, BK413, HB⟩ := hcut
      cases kq with
      | zero => exact absurd HA.out (by simp [flongref17_Normal.j1])
      | succ kj8 =>
       have H := HA.out
       clear HA
       simp only [flongref17_Normal.j1] at H
       by_cases c17 : x27_8 = true
       ·subst c17
        have H1 : (if 0 ≤ (wrap64 (x5_1 - 1)) then (if (wrap64 (x5_1 - 1)) < (x4_1.length : Int) then (if ((rd_T35 t409 x5_1).f0) = 32 then (if x4_1.length < 17592186044416 then (flongref17_Normal.l0 kj8 t409 (x4_1 ++ [(⟨((rd_T35 t409 x5_1).f0), 0⟩ : S35)]) (wrap64 (x5_1 + 1))) else (none)) else (if x4_1.length < 17592186044416 then (flongref17_Normal.l0 kj8 t409 (x4_1 ++ [(⟨((rd_T35 t409 x5_1).f0), (rd_T35 x4_1 (wrap64 (x5_1 - 1))).f1⟩ : S35)]) (wrap64 (x5_1 + 1))) else (none))) else (none)) else (none)) = some r := by rw [if_pos rfl] at H; exact H
        clear H
        have H := H1
        clear H1
        obtain ⟨ji18, hji18⟩ : ∃ j_ : Int, (wrap64 (x5_1 - 1)) = j_ := ⟨_, rfl⟩
        replace H : (if 0 ≤ (ji18) then (if (ji18) < (x4_1.length : Int) then (if ((rd_T35 t409 x5_1).f0) = 32 then (if x4_1.length < 17592186044416 then (flongref17_Normal.l0 kj8 t409 (x4_1 ++ [(⟨((rd_T35 t409 x5_1).f0), 0⟩ : S35)]) (wrap64 (x5_1 + 1))) else (none)) else (if x4_1.length < 17592186044416 then (flongref17_Normal.l0 kj8 t409 (x4_1 ++ [(⟨((rd_T35 t409 x5_1).f0), (rd_T35 x4_1 (ji18)).f1⟩ : S35)]) (wrap64 (x5_1 + 1))) else (none))) else (none)) else (none)) = some r := by first | (rw [hji18] at H; exact H) | (simp only [hji18] at H ⊢; exact H)
        have hji18w : (IntKind.i64.wrap (x5_1 - 1)) = ji18 := (i64_w _).trans hji18
        by_cases c19 : 0 ≤ (ji18)
        ·rw [if_pos c19] at H
         have c19b0 : decide (0 ≤ (ji18)) = true := decide_eq_true c19
         clear c19
         by_cases c20 : (ji18) < (x4_1.length : Int)
         ·rw [if_pos c20] at H
          have c20b0 : decide ((ji18) < (x4_1.length : Int)) = true := decide_eq_true c20
          clear c20
          by_cases c21 : ((rd_T35 t409 x5_1).f0) = 32
          ·rw [if_pos c21] at H
           have c21b0 : (((rd_T35 t409 x5_1).f0) == 32) = true := beq_iff_eq.mpr c21
           have c21b1 : (((rd_T35 t409 x5_1).f0) != 32) = false := bne_eq_false_iff_eq.mpr c21
           clear c21
           by_cases c22 : x4_1.length < 17592186044416
           ·rw [if_pos c22] at H
            have LMc22 := Aside0.mk c22
            clear c22
            obtain ⟨y416, hy416⟩ : ∃ y_ : List (S35), y_ = (x4_1 ++ [(⟨((rd_T35 t409 x5_1).f0), 0⟩ : S35)]) := ⟨_, rfl⟩
            replace H : (flongref17_Normal.l0 kj8 t409 y416 (wrap64 (x5_1 + 1))) = some r := hyA hy416 H
            have Ny416 := Aside0.mk hy416
            clear hy416
            have H' := Aside0.mk H
            clear H
            obtain ⟨Ao23, co23, eo23⟩ := Kd.R_slice HO_4.out
            subst eo23
            have p415 : 0 ≤ ((ji18) : Int) := of_decide_eq_true asA
            have q415 : (ji18) < (x4_1.length : Int) := of_decide_eq_true asA
            obtain ⟨ad415, e415, hx415_0, hx415_1⟩ := at_T35 (Kd.R_reads' HO_4.out).2.2 (ji18) p415 q415
            cases e415
            replace p415 := eq_true p415
            replace q415 := eq_true q415
            have hcz24_0 : wc.cell? ⟨gb413, 0, none⟩ = some (.int .i32 ((rd_T35 t409 x5_1).f0)) := (blk_cell BK413.out 0).trans rfl
            have hcz24_1 : wc.cell? ⟨gb413, 1, none⟩ = some (.int .u8 ((rd_T35 t409 x5_1).f1)) := (blk_cell BK413.out 1).trans rfl
            have hfz24_0 := blk_frozen BK413.out 0
            have hfz24_1 := blk_frozen BK413.out 1
            go_wp2_with (first | ((with_reducible refine gate_builtin (b := .append) (xs := #[.tmp 39, .tmp 41]) rfl ?_); at_builtin; refine Kd.R_append k35 (w0 := w) w.heap.size rfl (.tmp 39) (.tmp 41) 27 35 (.agg #[(.int .i32 0), (.int .u8 0)]) 8 rfl Tryd.underlying27 info35 rfl (by decide) (by omega) (.slice (some ad415) x4_1.length co23) x4_1 (⟨((rd_T35 t409 x5_1).f0), 0⟩ : S35) [.int .i32 ((rd_T35 t409 x5_1).f0), .int .u8 0] (fun k_ => k_ ≠ gb413) (fun _ => False) rfl (by first | (go_simp; done) | (go_simp; rfl)) ?aP (fun _ hk => hk.elim) ?aF ?aO ?aB ?aS ?aL ?_; (case aP => exact k35_mkM _ _ _ (⟨((rd_T35 t409 x5_1).f0), 0⟩ : S35)); (case aB => exact bG); (case aF => exact (fun k_ hk => Kd.freshB (g := gb413) (o := .cells #[.int .i32 ((rd_T35 t409 x5_1).f0), .int .u8 0] 35 (0, 0)) (by (with_reducible repeat (first | refine blk_drewN ?_ _ | refine blk_drew ?_ | refine blk_alloc ?_ _)); refine blk_put (cs := #[.int .i32 ((rd_T35 t409 x5_1).f0), .int .u8 ((rd_T35 x4_1 (ji18)).f1)]) ?_ 1 _ rfl; (with_reducible repeat (first | refine blk_drewN ?_ _ | refine blk_drew ?_ | refine blk_alloc ?_ _)); refine blk_put (cs := #[.int .i32 ((rd_T35 t409 x5_1).f0), .int .u8 ((rd_T35 t409 x5_1).f1)]) ?_ 1 _ rfl; (with_reducible repeat (first | refine blk_drewN ?_ _ | refine blk_drew ?_ | refine blk_alloc ?_ _)); exact BK413.out) k_ hk)); (case aO => exact (by (with_reducible repeat (first | apply Kd.R_alloc | apply Kd.R_drewN | apply Kd.R_drew)); exact Kd.R_mono (Kd.R_far (p := ⟨gb413, 1, none⟩) (Kd.R_far (p := ⟨gb413, 1, none⟩) (Kd.R_mono HO_4.out (fun k_ hk => (⟨hk, hk⟩ : _ ∧ k_ ≠ gb413))) (fun _ hk => hk.2) (.int .u8 ((rd_T35 x4_1 (ji18)).f1))) (fun _ hk => hk.2) (.int .u8 0)) (fun _ hk => hk.1))); (case aS => exact (below_size bG)); (case aL => have := LMc22.out; omega); intro v417 w25 ho hb hg hat; rw [← Ny416.out] at ho; have n0_ := Aside0.mk (Kd.V_afterv (ok := (fun k_ => k_ ≠ gb413)) (by (with_reducible repeat (first | apply Kd.V_alloc | apply Kd.V_drewN | apply Kd.V_drew)); exact Kd.V_mono (Kd.V_far (p := ⟨gb413, 1, none⟩) (Kd.V_far (p := ⟨gb413, 1, none⟩) (Kd.V_mono HO_3.out (fun k_ hk => (⟨hk, hk.2⟩ : _ ∧ k_ ≠ gb413))) (fun _ hk => hk.2) (.int .u8 ((rd_T35 x4_1 (ji18)).f1))) (fun _ hk => hk.2) (.int .u8 0)) (fun _ hk => ⟨hk.1.2, hk.1.1⟩)) hg hat); have n1_ := Aside0.mk (blk_grown (g := gb413) (o := .cells #[.int .i32 ((rd_T35 t409 x5_1).f0), .int .u8 0] 35 (0, 0)) (by (with_reducible repeat (first | refine blk_drewN ?_ _ | refine blk_drew ?_ | refine blk_alloc ?_ _)); refine blk_put (cs := #[.int .i32 ((rd_T35 t409 x5_1).f0), .int .u8 ((rd_T35 x4_1 (ji18)).f1)]) ?_ 1 _ rfl; (with_reducible repeat (first | refine blk_drewN ?_ _ | refine blk_drew ?_ | refine blk_alloc ?_ _)); refine blk_put (cs := #[.int .i32 ((rd_T35 t409 x5_1).f0), .int .u8 ((rd_T35 t409 x5_1).f1)]) ?_ 1 _ rfl; (with_reducible repeat (first | refine blk_drewN ?_ _ | refine blk_drew ?_ | refine blk_alloc ?_ _)); exact BK413.out) hg (Kd.R_away HO_4.out (fun _ hk => hk))); have n2_ := Aside0.mk (hb); have n3_ := Aside0.mk (ho); clear HO_3; clear BK413; clear HB; clear HO_4; have HO_3 := n0_; have BK413 := n1_; have HB := n2_; have HO418 := n3_; clear n0_ n1_ n2_ n3_; clear ho hb hg hat))
            go_roundg kj8
            case measure => have := HK1.out; have := HJ8.out; omega
            case rel => exact ⟨(y416), (wrap64 (x5_1 + 1)), sA, H', ⟨by have := HK1.out; have := HJ8.out; omega⟩, ⟨by (with_reducible repeat (first | apply Kd.V_alloc | apply Kd.V_drewN | apply Kd.V_drew)); exact Kd.V_mono HO_3.out (fun _ hk => hk.2)⟩, ⟨by (with_reducible repeat (first | apply Kd.R_alloc | apply Kd.R_drewN | apply Kd.R_drew)); exact Kd.R_mono HO418.out (fun _ hk => trivial)⟩, ⟨bG⟩⟩
           ·rw [if_neg c22] at H
            exact absurd H (by simp)
          ·rw [if_neg c21] at H
           have c21b0 : (((rd_T35 t409 x5_1).f0) == 32) = false := beq_eq_false_iff_ne.mpr c21
           have c21b1 : (((rd_T35 t409 x5_1).f0) != 32) = true := bne_iff_ne.mpr c21
           by_cases c26 : x4_1.length < 17592186044416
           ·rw [if_pos c26] at H
            have LMc26 := Aside0.mk c26
            clear c26
            obtain ⟨y419, hy419⟩ : ∃ y_ : List (S35), y_ = (x4_1 ++ [(⟨((rd_T35 t409 x5_1).f0), (rd_T35 x4_1 (ji18)).f1⟩ : S35)]) := ⟨_, rfl⟩
            replace H : (flongref17_Normal.l0 kj8 t409 y419 (wrap64 (x5_1 + 1))) = some r := hyA hy419 H
            have Ny419 := Aside0.mk hy419
            clear hy419
            have H' := Aside0.mk H
            clear H
            obtain ⟨Ao27, co27, eo27⟩ := Kd.R_slice HO_4.out
            subst eo27
            have p415 : 0 ≤ ((ji18) : Int) := of_decide_eq_true asA
            have q415 : (ji18) < (x4_1.length : Int) := of_decide_eq_true asA
            obtain ⟨ad415, e415, hx415_0, hx415_1⟩ := at_T35 (Kd.R_reads' HO_4.out).2.2 (ji18) p415 q415
            cases e415
            replace p415 := eq_true p415
            replace q415 := eq_true q415
            have hcz28_0 : wc.cell? ⟨gb413, 0, none⟩ = some (.int .i32 ((rd_T35 t409 x5_1).f0)) := (blk_cell BK413.out 0).trans rfl
            have hcz28_1 : wc.cell? ⟨gb413, 1, none⟩ = some (.int .u8 ((rd_T35 t409 x5_1).f1)) := (blk_cell BK413.out 1).trans rfl
            have hfz28_0 := blk_frozen BK413.out 0
            have hfz28_1 := blk_frozen BK413.out 1
            go_wp2_with (first | ((with_reducible refine gate_builtin (b := .append) (xs := #[.tmp 39, .tmp 41]) rfl ?_); at_builtin; refine Kd.R_append k35 (w0 := w) w.heap.size rfl (.tmp 39) (.tmp 41) 27 35 (.agg #[(.int .i32 0), (.int .u8 0)]) 8 rfl Tryd.underlying27 info35 rfl (by decide) (by omega) (.slice (some ad415) x4_1.length co27) x4_1 (⟨((rd_T35 t409 x5_1).f0), (rd_T35 x4_1 (ji18)).f1⟩ : S35) [.int .i32 ((rd_T35 t409 x5_1).f0), .int .u8 ((rd_T35 x4_1 (ji18)).f1)] (fun k_ => k_ ≠ gb413) (fun _ => False) rfl (by first | (go_simp; done) | (go_simp; rfl)) ?aP (fun _ hk => hk.elim) ?aF ?aO ?aB ?aS ?aL ?_; (case aP => exact k35_mkM _ _ _ (⟨((rd_T35 t409 x5_1).f0), (rd_T35 x4_1 (ji18)).f1⟩ : S35)); (case aB => exact bG); (case aF => exact (fun k_ hk => Kd.freshB (g := gb413) (o := .cells #[.int .i32 ((rd_T35 t409 x5_1).f0), .int .u8 ((rd_T35 x4_1 (ji18)).f1)] 35 (0, 0)) (by (with_reducible repeat (first | refine blk_drewN ?_ _ | refine blk_drew ?_ | refine blk_alloc ?_ _)); refine blk_put (cs := #[.int .i32 ((rd_T35 t409 x5_1).f0), .int .u8 ((rd_T35 t409 x5_1).f1)]) ?_ 1 _ rfl; (with_reducible repeat (first | refine blk_drewN ?_ _ | refine blk_drew ?_ | refine blk_alloc ?_ _)); exact BK413.out) k_ hk)); (case aO => exact (by (with_reducible repeat (first | apply Kd.R_alloc | apply Kd.R_drewN | apply Kd.R_drew)); exact Kd.R_mono (Kd.R_far (p := ⟨gb413, 1, none⟩) (Kd.R_mono HO_4.out (fun k_ hk => (⟨hk, hk⟩ : _ ∧ k_ ≠ gb413))) (fun _ hk => hk.2) (.int .u8 ((rd_T35 x4_1 (ji18)).f1))) (fun _ hk => hk.1))); (case aS => exact (below_size bG)); (case aL => have := LMc26.out; omega); intro v420 w29 ho hb hg hat; rw [← Ny419.out] at ho; have n0_ := Aside0.mk (Kd.V_afterv (ok := (fun k_ => k_ ≠ gb413)) (by (with_reducible repeat (first | apply Kd.V_alloc | apply Kd.V_drewN | apply Kd.V_drew)); exact Kd.V_mono (Kd.V_far (p := ⟨gb413, 1, none⟩) (Kd.V_mono HO_3.out (fun k_ hk => (⟨hk, hk.2⟩ : _ ∧ k_ ≠ gb413))) (fun _ hk => hk.2) (.int .u8 ((rd_T35 x4_1 (ji18)).f1))) (fun _ hk => ⟨hk.1.2, hk.1.1⟩)) hg hat); have n1_ := Aside0.mk (blk_grown (g := gb413) (o := .cells #[.int .i32 ((rd_T35 t409 x5_1).f0), .int .u8 ((rd_T35 x4_1 (ji18)).f1)] 35 (0, 0)) (by (with_reducible repeat (first | refine blk_drewN ?_ _ | refine blk_drew ?_ | refine blk_alloc ?_ _)); refine blk_put (cs := #[.int .i32 ((rd_T35 t409 x5_1).f0), .int .u8 ((rd_T35 t409 x5_1).f1)]) ?_ 1 _ rfl; (with_reducible repeat (first | refine blk_drewN ?_ _ | refine blk_drew ?_ | refine blk_alloc ?_ _)); exact BK413.out) hg (Kd.R_away HO_4.out (fun _ hk => hk))); have n2_ := Aside0.mk (hb); have n3_ := Aside0.mk (ho); clear HO_3; clear BK413; clear HB; clear HO_4; have HO_3 := n0_; have BK413 := n1_; have HB := n2_; have HO421 := n3_; clear n0_ n1_ n2_ n3_; clear ho hb hg hat))
            go_roundg kj8
            case measure => have := HK1.out; have := HJ8.out; omega
            case rel => exact ⟨(y419), (wrap64 (x5_1 + 1)), sA, H', ⟨by have := HK1.out; have := HJ8.out; omega⟩, ⟨by (with_reducible repeat (first | apply Kd.V_alloc | apply Kd.V_drewN | apply Kd.V_drew)); exact Kd.V_mono HO_3.out (fun _ hk => hk.2)⟩, ⟨by (with_reducible repeat (first | apply Kd.R_alloc | apply Kd.R_drewN | apply Kd.R_drew)); exact Kd.R_mono HO421.out (fun _ hk => trivial)⟩, ⟨bG⟩⟩
           ·rw [if_neg c26] at H
            exact absurd H (by simp)
         ·rw [if_neg c20] at H
          exact absurd H (by simp)
        ·rw [if_neg c19] at H
         exact absurd H (by simp)
       ·replace c17 := Bool.eq_false_iff.mpr c17
        subst c17
        have H1 : (if ((rd_T35 t409 x5_1).f0) = 32 then (if x4_1.length < 17592186044416 then (flongref17_Normal.l0 kj8 t409 (x4_1 ++ [(⟨((rd_T35 t409 x5_1).f0), 0⟩ : S35)]) (wrap64 (x5_1 + 1))) else (none)) else (if x4_1.length < 17592186044416 then (flongref17_Normal.l0 kj8 t409 (x4_1 ++ [(⟨((rd_T35 t409 x5_1).f0), ((rd_T35 t409 x5_1).f1)⟩ : S35)]) (wrap64 (x5_1 + 1))) else (none))) = some r := by rw [if_neg (show ¬ (false = true) by decide)] at H; exact H
        clear H
        have H := H1
        clear H1
        by_cases c30 : ((rd_T35 t409 x5_1).f0) = 32
        ·rw [if_pos c30] at H
         have c30b0 : (((rd_T35 t409 x5_1).f0) == 32) = true := beq_iff_eq.mpr c30
         have c30b1 : (((rd_T35 t409 x5_1).f0) != 32) = false := bne_eq_false_iff_eq.mpr c30
         clear c30
         by_cases c31 : x4_1.length < 17592186044416
         ·rw [if_pos c31] at H
          have LMc31 := Aside0.mk c31
          clear c31
          obtain ⟨y422, hy422⟩ : ∃ y_ : List (S35), y_ = (x4_1 ++ [(⟨((rd_T35 t409 x5_1).f0), 0⟩ : S35)]) := ⟨_, rfl⟩
          replace H : (flongref17_Normal.l0 kj8 t409 y422 (wrap64 (x5_1 + 1))) = some r := hyA hy422 H
          have Ny422 := Aside0.mk hy422
          clear hy422
          have H' := Aside0.mk H
          clear H
          have hcz32_0 : wc.cell? ⟨gb413, 0, none⟩ = some (.int .i32 ((rd_T35 t409 x5_1).f0)) := (blk_cell BK413.out 0).trans rfl
          have hcz32_1 : wc.cell? ⟨gb413, 1, none⟩ = some (.int .u8 ((rd_T35 t409 x5_1).f1)) := (blk_cell BK413.out 1).trans rfl
          have hfz32_0 := blk_frozen BK413.out 0
          have hfz32_1 := blk_frozen BK413.out 1
          go_wp2_with (first | ((with_reducible refine gate_builtin (b := .append) (xs := #[.tmp 39, .tmp 41]) rfl ?_); at_builtin; refine Kd.R_append k35 (w0 := w) w.heap.size rfl (.tmp 39) (.tmp 41) 27 35 (.agg #[(.int .i32 0), (.int .u8 0)]) 8 rfl Tryd.underlying27 info35 rfl (by decide) (by omega) u4 x4_1 (⟨((rd_T35 t409 x5_1).f0), 0⟩ : S35) [.int .i32 ((rd_T35 t409 x5_1).f0), .int .u8 0] (fun k_ => k_ ≠ gb413) (fun _ => False) rfl (by first | (go_simp; done) | (go_simp; rfl)) ?aP (fun _ hk => hk.elim) ?aF ?aO ?aB ?aS ?aL ?_; (case aP => exact k35_mkM _ _ _ (⟨((rd_T35 t409 x5_1).f0), 0⟩ : S35)); (case aB => exact bG); (case aF => exact (fun k_ hk => Kd.freshB (g := gb413) (o := .cells #[.int .i32 ((rd_T35 t409 x5_1).f0), .int .u8 0] 35 (0, 0)) (by (with_reducible repeat (first | refine blk_drewN ?_ _ | refine blk_drew ?_ | refine blk_alloc ?_ _)); refine blk_put (cs := #[.int .i32 ((rd_T35 t409 x5_1).f0), .int .u8 ((rd_T35 t409 x5_1).f1)]) ?_ 1 _ rfl; (with_reducible repeat (first | refine blk_drewN ?_ _ | refine blk_drew ?_ | refine blk_alloc ?_ _)); exact BK413.out) k_ hk)); (case aO => exact (by (with_reducible repeat (first | apply Kd.R_alloc | apply Kd.R_drewN | apply Kd.R_drew)); exact Kd.R_mono (Kd.R_far (p := ⟨gb413, 1, none⟩) (Kd.R_mono HO_4.out (fun k_ hk => (⟨hk, hk⟩ : _ ∧ k_ ≠ gb413))) (fun _ hk => hk.2) (.int .u8 0)) (fun _ hk => hk.1))); (case aS => exact (below_size bG)); (case aL => have := LMc31.out; omega); intro v423 w33 ho hb hg hat; rw [← Ny422.out] at ho; have n0_ := Aside0.mk (Kd.V_afterv (ok := (fun k_ => k_ ≠ gb413)) (by (with_reducible repeat (first | apply Kd.V_alloc | apply Kd.V_drewN | apply Kd.V_drew)); exact Kd.V_mono (Kd.V_far (p := ⟨gb413, 1, none⟩) (Kd.V_mono HO_3.out (fun k_ hk => (⟨hk, hk.2⟩ : _ ∧ k_ ≠ gb413))) (fun _ hk => hk.2) (.int .u8 0)) (fun _ hk => ⟨hk.1.2, hk.1.1⟩)) hg hat); have n1_ := Aside0.mk (blk_grown (g := gb413) (o := .cells #[.int .i32 ((rd_T35 t409 x5_1).f0), .int .u8 0] 35 (0, 0)) (by (with_reducible repeat (first | refine blk_drewN ?_ _ | refine blk_drew ?_ | refine blk_alloc ?_ _)); refine blk_put (cs := #[.int .i32 ((rd_T35 t409 x5_1).f0), .int .u8 ((rd_T35 t409 x5_1).f1)]) ?_ 1 _ rfl; (with_reducible repeat (first | refine blk_drewN ?_ _ | refine blk_drew ?_ | refine blk_alloc ?_ _)); exact BK413.out) hg (Kd.R_away HO_4.out (fun _ hk => hk))); have n2_ := Aside0.mk (hb); have n3_ := Aside0.mk (ho); clear HO_3; clear BK413; clear HB; clear HO_4; have HO_3 := n0_; have BK413 := n1_; have HB := n2_; have HO424 := n3_; clear n0_ n1_ n2_ n3_; clear ho hb hg hat))
          go_roundg kj8
          case measure => have := HK1.out; have := HJ8.out; omega
          case rel => exact ⟨(y422), (wrap64 (x5_1 + 1)), sA, H', ⟨by have := HK1.out; have := HJ8.out; omega⟩, ⟨by (with_reducible repeat (first | apply Kd.V_alloc | apply Kd.V_drewN | apply Kd.V_drew)); exact Kd.V_mono HO_3.out (fun _ hk => hk.2)⟩, ⟨by (with_reducible repeat (first | apply Kd.R_alloc | apply Kd.R_drewN | apply Kd.R_drew)); exact Kd.R_mono HO424.out (fun _ hk => trivial)⟩, ⟨bG⟩⟩
         ·rw [if_neg c31] at H
          exact absurd H (by simp)
        ·rw [if_neg c30] at H
         have c30b0 : (((rd_T35 t409 x5_1).f0) == 32) = false := beq_eq_false_iff_ne.mpr c30
         have c30b1 : (((rd_T35 t409 x5_1).f0) != 32) = true := bne_iff_ne.mpr c30
         by_cases c34 : x4_1.length < 17592186044416
         ·rw [if_pos c34] at H
          have LMc34 := Aside0.mk c34
          clear c34
          obtain ⟨y425, hy425⟩ : ∃ y_ : List (S35), y_ = (x4_1 ++ [(⟨((rd_T35 t409 x5_1).f0), ((rd_T35 t409 x5_1).f1)⟩ : S35)]) := ⟨_, rfl⟩
          replace H : (flongref17_Normal.l0 kj8 t409 y425 (wrap64 (x5_1 + 1))) = some r := hyA hy425 H
          have Ny425 := Aside0.mk hy425
          clear hy425
          have H' := Aside0.mk H
          clear H
          have hcz35_0 : wc.cell? ⟨gb413, 0, none⟩ = some (.int .i32 ((rd_T35 t409 x5_1).f0)) := (blk_cell BK413.out 0).trans rfl
          have hcz35_1 : wc.cell? ⟨gb413, 1, none⟩ = some (.int .u8 ((rd_T35 t409 x5_1).f1)) := (blk_cell BK413.out 1).trans rfl
          have hfz35_0 := blk_frozen BK413.out 0
          have hfz35_1 := blk_frozen BK413.out 1
          go_wp2_with (first | ((with_reducible refine gate_builtin (b := .append) (xs := #[.tmp 39, .tmp 41]) rfl ?_); at_builtin; refine Kd.R_append k35 (w0 := w) w.heap.size rfl (.tmp 39) (.tmp 41) 27 35 (.agg #[(.int .i32 0), (.int .u8 0)]) 8 rfl Tryd.underlying27 info35 rfl (by decide) (by omega) u4 x4_1 (⟨((rd_T35 t409 x5_1).f0), ((rd_T35 t409 x5_1).f1)⟩ : S35) [.int .i32 ((rd_T35 t409 x5_1).f0), .int .u8 ((rd_T35 t409 x5_1).f1)] (fun k_ => k_ ≠ gb413) (fun _ => False) rfl rfl ?aP (fun _ hk => hk.elim) ?aF ?aO ?aB ?aS ?aL ?_; (case aP => exact k35_mkM _ _ _ (⟨((rd_T35 t409 x5_1).f0), ((rd_T35 t409 x5_1).f1)⟩ : S35)); (case aB => exact bG); (case aF => exact (fun k_ hk => Kd.freshB (g := gb413) (o := .cells #[.int .i32 ((rd_T35 t409 x5_1).f0), .int .u8 ((rd_T35 t409 x5_1).f1)] 35 (0, 0)) (kB BK413) k_ hk)); (case aO => exact (kR HO_4)); (case aS => exact (below_size bG)); (case aL => have := LMc34.out; omega); intro v426 w36 ho hb hg hat; rw [← Ny425.out] at ho; have n0_ := Aside0.mk (Kd.V_afterv (ok := (fun k_ => k_ ≠ gb413)) (by (with_reducible repeat (first | apply Kd.V_alloc | apply Kd.V_drewN | apply Kd.V_drew)); exact Kd.V_mono HO_3.out (fun _ hk => ⟨hk.2, hk.1⟩)) hg hat); have n1_ := Aside0.mk (blk_grown (g := gb413) (o := .cells #[.int .i32 ((rd_T35 t409 x5_1).f0), .int .u8 ((rd_T35 t409 x5_1).f1)] 35 (0, 0)) (kB BK413) hg (Kd.R_away HO_4.out (fun _ hk => hk))); have n2_ := Aside0.mk (hb); have n3_ := Aside0.mk (ho); clear HO_3; clear BK413; clear HB; clear HO_4; have HO_3 := n0_; have BK413 := n1_; have HB := n2_; have HO427 := n3_; clear n0_ n1_ n2_ n3_; clear ho hb hg hat))
          go_roundg kj8
          case measure => have := HK1.out; have := HJ8.out; omega
          case rel => exact ⟨(y425), (wrap64 (x5_1 + 1)), sA, H', ⟨by have := HK1.out; have := HJ8.out; omega⟩, ⟨by (with_reducible repeat (first | apply Kd.V_alloc | apply Kd.V_drewN | apply Kd.V_drew)); exact Kd.V_mono HO_3.out (fun _ hk => hk.2)⟩, ⟨by (with_reducible repeat (first | apply Kd.R_alloc | apply Kd.R_drewN | apply Kd.R_drew)); exact Kd.R_mono HO427.out (fun _ hk => trivial)⟩, ⟨bG⟩⟩
         ·rw [if_neg c34] at H
          exact absurd H (by simp)
    ·rw [if_neg c8] at H
     exact absurd H (by simp)
   ·rw [if_neg c7] at H
    have c7b0 : decide (x5_1 < (t409.length : Int)) = false := decide_eq_false c7
    clear c7
    obtain rfl := Option.some.inj H
    obtain ⟨Ao37, co37, eo37⟩ := Kd.V_slice HO_3.out
    subst eo37
    go_wp2
    go_ret
    exact ⟨_, eW, kR HO_4, bA⟩

/-! ### flongref03_Join: function 73 -/
def flongref03_Join.f (l0 : List (S35)) (l1 : List (S35)) : Option ((List (S35))) := if ([] : List (S35)).length + l0.length < 17592186044416 then ((some (([] : List (S35)) ++ l0 : List (S35))).bind fun y428 => (if y428.length + l1.length < 17592186044416 then (some (y428 ++ l1)) else (none))) else (none)
theorem flongref03_Join.calls (A0 : Option Addr) (c0 : Nat) (l0 : List (S35)) (A1 : Option Addr) (c1 : Nat) (l1 : List (S35)) (r : List (S35)) (w : World) (hr0 : Kd.C k35 w A0 l0.length l0) (hc0 : l0.length ≤ c0) (hr1 : Kd.C k35 w A1 l1.length l1) (hc1 : l1.length ≤ c1) (h : flongref03_Join.f l0 l1 = some r) :
  Calls Tryd.prog 73 #[.slice A0 l0.length c0, .slice A1 l1.length c1] w fun e w' => ∃ v0_ : Value, e = .returned (v0_) ∧ Kd.R k35 35 w' w.heap.size (fun _ => True) v0_ r ∧ Below w.heap.size w w' := by
 have HR0 := Aside0.mk hr0
 have HC0 := Aside0.mk hc0
 clear hr0 hc0
 have HR1 := Aside0.mk hr1
 have HC1 := Aside0.mk hc1
 clear hr1 hc1
 have HB := Aside0.mk (Below.refl w.heap.size w)
 have H : (if ([] : List (S35)).length + l0.length < 17592186044416 then ((some (([] : List (S35)) ++ l0 : List (S35))).bind fun y428 => (if y428.length + l1.length < 17592186044416 then (some (y428 ++ l1)) else (none))) else (none)) = some r := h
 clear h
 by_cases c3 : ([] : List (S35)).length + l0.length < 17592186044416
 ·rw [if_pos c3] at H
  have LMc3 := Aside0.mk c3
  clear c3
  obtain ⟨y428, hy428⟩ : ∃ y_ : List (S35), y_ = (([] : List (S35)) ++ l0) := ⟨_, rfl⟩
  replace H : (if y428.length + l1.length < 17592186044416 then (some (y428 ++ l1)) else (none)) = some r := hyA hy428 H
  have Ny428 := Aside0.mk hy428
  clear hy428
  by_cases c4 : y428.length + l1.length < 17592186044416
  ·rw [if_pos c4] at H
   have LMc4 := Aside0.mk c4
   clear c4
   obtain ⟨y431, hy431⟩ : ∃ y_ : List (S35), y_ = (y428 ++ l1) := ⟨_, rfl⟩
   replace H : (some y431) = some r := hyA hy431 H
   have Ny431 := Aside0.mk hy431
   clear hy431
   obtain rfl := Option.some.inj H
   go_enter Tryd.func73, Tryd.ntmps73
   go_wp2_with (first | ((with_reducible refine gate_builtin (b := .append) (xs := #[.tmp 6, .tmp 7]) rfl ?_); at_builtin; refine Kd.R_append_rows k35 (w0 := w) w.heap.size rfl (.tmp 6) (.tmp 7) 27 35 (.agg #[(.int .i32 0), (.int .u8 0)]) 8 rfl Tryd.underlying27 info35 rfl (by decide) (by omega) (.slice none 0 0) ([] : List (S35)) l0 _ _ _ (fun _ => True) (fun _ => False) rfl rfl ?aO ?aR (fun _ _ h => h) (fun _ h => h.elim) ?aF ?aB ?aS ?aL ?_; (case aR => repeat (first | exact HR0.out | (with_reducible refine Kd.C_alloc ?_ _) | (with_reducible refine Kd.C_drewN ?_ _) | (with_reducible refine Kd.C_drew ?_))); (case aB => exact bA); (case aF => exact (fun _ _ => trivial)); (case aO => exact ((Kd.R_nil _ _ _ _ (fun _ => True)))); (case aS => exact (below_size bA)); (case aL => have := LMc3.out; omega); intro v429 w5 ho hb hg hat; rw [← Ny428.out] at ho; have HO430 := Aside0.mk (ho); replace HB := Aside0.mk (hb); clear ho hb hg hat) | ((with_reducible refine gate_builtin (b := .append) (xs := #[.tmp 9, .tmp 10]) rfl ?_); at_builtin; refine Kd.R_append_rows k35 (w0 := w) w.heap.size rfl (.tmp 9) (.tmp 10) 27 35 (.agg #[(.int .i32 0), (.int .u8 0)]) 8 rfl Tryd.underlying27 info35 rfl (by decide) (by omega) v429 y428 l1 _ _ _ (fun _ => True) (fun _ => False) rfl rfl ?aO ?aR (fun _ _ h => h) (fun _ h => h.elim) ?aF ?aB ?aS ?aL ?_; (case aR => repeat (first | exact (Kd.C_below HR1.out HB.out) | (with_reducible refine Kd.C_alloc ?_ _) | (with_reducible refine Kd.C_drewN ?_ _) | (with_reducible refine Kd.C_drew ?_))); (case aB => exact bA); (case aF => exact (fun _ _ => trivial)); (case aO => exact (kR HO430)); (case aS => exact (below_size bA)); (case aL => have := LMc4.out; omega); intro v432 w6 ho hb hg hat; rw [← Ny431.out] at ho; have n0_ := Aside0.mk (hb); have n1_ := Aside0.mk (ho); clear HB; clear HO430; have HB := n0_; have HO433 := n1_; clear n0_ n1_; clear ho hb hg hat))
   go_ret
   exact ⟨_, eW, kR HO433, bA⟩
  ·rw [if_neg c4] at H
   exact absurd H (by simp)
 ·rw [if_neg c3] at H
  exact absurd H (by simp)

/-! ### flongref03_Blank: function 74 -/
def flongref03_Blank.l0 : Nat → Int → List (S35) → Int → Option ((List (S35)))
 | 0, _, _, _ => none
 | k + 1, x0, x3, x4 => if x4 < x0 then (if x4 < 65535 then (if x3.length < 17592186044416 then (flongref03_Blank.l0 k x0 (x3 ++ [(⟨32, 0⟩ : S35)]) (wrap64 (x4 + 1))) else (none)) else (some x3)) else (some x3)
def flongref03_Blank.f (k : Nat) (a0 : Int) : Option ((List (S35))) := flongref03_Blank.l0 k a0 ([] : List (S35)) 0
theorem flongref03_Blank.mono_l : ∀ k, (∀ y0 y1 y2, LeO (flongref03_Blank.l0 k y0 y1 y2) (flongref03_Blank.l0 (k + 1) y0 y1 y2))
 | 0 => fun _ _ _ r h => by simp [flongref03_Blank.l0] at h
 | k + 1 => by
  have ih0 := flongref03_Blank.mono_l k
  ·intro y0 y1 y2
   unfold flongref03_Blank.l0
   repeat' first
   | (with_reducible exact ih0 _ _ _)
   | (with_reducible exact LeO.refl _)
   | (with_reducible exact LeO.none _)
   | (with_reducible refine LeO.ite ?_ ?_)
   | (with_reducible refine LeO.bind ?_ (fun _ => ?_))
theorem flongref03_Blank.mono : ∀ a0 k, LeO (flongref03_Blank.f k a0) (flongref03_Blank.f (k + 1) a0) := by
 intro a0 k
 have ih0 := flongref03_Blank.mono_l k
 unfold flongref03_Blank.f
 repeat' first
   | (with_reducible exact ih0 _ _ _)
   | (with_reducible exact LeO.refl _)
   | (with_reducible exact LeO.none _)
   | (with_reducible refine LeO.ite ?_ ?_)
   | (with_reducible refine LeO.bind ?_ (fun _ => ?_))
theorem flongref03_Blank.calls (k : Nat) (a0 : Int) (r : List (S35)) (w : World) (h : flongref03_Blank.f k a0 = some r) :
  Calls Tryd.prog 74 #[.int .i64 a0] w fun e w' => ∃ v0_ : Value, e = .returned (v0_) ∧ Kd.R k35 35 w' w.heap.size (fun _ => True) v0_ r ∧ Below w.heap.size w w' := by
 have hu35 := Tryd.underlying35
 have HB := Aside0.mk (Below.refl w.heap.size w)
 have H : (flongref03_Blank.l0 k a0 ([] : List (S35)) 0) = some r := h
 clear h
 have H' := Aside0.mk H
 clear H
 go_enter Tryd.func74, Tryd.ntmps74
 go_wp2
 go_loopg [3, 4] k (fun kq v3 v4 w' => ∃ (x3_1 : List (S35)) (x4_1 : Int), v4 = .int .i64 x4_1 ∧ Aside0 (flongref03_Blank.l0 kq a0 x3_1 x4_1 = some r) ∧ Aside0 (kq ≤ k) ∧ Aside0 (Kd.R k35 35 w' w.heap.size (fun _ => True) v3 x3_1) ∧ Aside0 (Below w.heap.size w w'))
 case atStart => exact ⟨(([] : List (S35))), (0), sA, H', ⟨Nat.le_refl _⟩, ⟨by first | exact Kd.R_nil _ _ _ _ _ | exact Kd.N_nil _ _ _ _ _ | exact Kd.V_nil _ _ _ _ _ | exact Kd.Q_nil _ _ _ _ _ | exact Kd.S_nil _ _ _ _ _⟩, ⟨bA⟩⟩
 case round =>
  clear H'
  obtain ⟨x3_1, x4_1, rfl, HA, HK1, HO_3, HB⟩ := hrel
  cases gk with
  | zero => exact absurd HA.out (by simp [flongref03_Blank.l0])
  | succ k1 =>
   have H := HA.out
   clear HA
   simp only [flongref03_Blank.l0] at H
   by_cases c2 : x4_1 < a0
   ·rw [if_pos c2] at H
    have c2b0 : decide (x4_1 < a0) = true := decide_eq_true c2
    clear c2
    by_cases c3 : x4_1 < 65535
    ·rw [if_pos c3] at H
     have c3b0 : decide (x4_1 < 65535) = true := decide_eq_true c3
     clear c3
     by_cases c4 : x3_1.length < 17592186044416
     ·rw [if_pos c4] at H
      have LMc4 := Aside0.mk c4
      clear c4
      obtain ⟨y434, hy434⟩ : ∃ y_ : List (S35), y_ = (x3_1 ++ [(⟨32, 0⟩ : S35)]) := ⟨_, rfl⟩
      replace H : (flongref03_Blank.l0 k1 a0 y434 (wrap64 (x4_1 + 1))) = some r := hyA hy434 H
      have Ny434 := Aside0.mk hy434
      clear hy434
      have H' := Aside0.mk H
      clear H
      go_wp2_with (first | ((with_reducible refine gate_builtin (b := .append) (xs := #[.tmp 14, .tmp 16]) rfl ?_); at_builtin; refine Kd.R_append k35 (w0 := w) w.heap.size rfl (.tmp 14) (.tmp 16) 27 35 (.agg #[(.int .i32 0), (.int .u8 0)]) 8 rfl Tryd.underlying27 info35 rfl (by decide) (by omega) u3 x3_1 (⟨32, 0⟩ : S35) [.int .i32 32, .int .u8 0] (fun _ => True) (fun _ => False) rfl rfl ?aP (fun _ hk => hk.elim) ?aF ?aO ?aB ?aS ?aL ?_; (case aP => exact k35_mkM _ _ _ (⟨32, 0⟩ : S35)); (case aB => exact bA); (case aF => exact (fun _ _ => trivial)); (case aO => exact (kR HO_3)); (case aS => exact (below_size bA)); (case aL => have := LMc4.out; omega); intro v435 w5 ho hb hg hat; rw [← Ny434.out] at ho; have n0_ := Aside0.mk (hb); have n1_ := Aside0.mk (ho); clear HB; clear HO_3; have HB := n0_; have HO436 := n1_; clear n0_ n1_; clear ho hb hg hat))
      go_roundg k1
      case measure => have := HK1.out; omega
      case rel => exact ⟨(y434), (wrap64 (x4_1 + 1)), sA, H', ⟨by have := HK1.out; omega⟩, ⟨kR HO436⟩, ⟨bA⟩⟩
     ·rw [if_neg c4] at H
      exact absurd H (by simp)
    ·rw [if_neg c3] at H
     have c3b0 : decide (x4_1 < 65535) = false := decide_eq_false c3
     clear c3
     obtain rfl := Option.some.inj H
     go_wp2
     go_ret
     exact ⟨_, eW, kR HO_3, bA⟩
   ·rw [if_neg c2] at H
    have c2b0 : decide (x4_1 < a0) = false := decide_eq_false c2
    clear c2
    obtain rfl := Option.some.inj H
    go_wp2
    go_ret
    exact ⟨_, eW, kR HO_3, bA⟩

/-! ### flongref16_Flat: function 52 -/
def flongref16_Flat.f (k : Nat) (a0_0 : Int) (l0_1 : List (S35)) (a0_2 : Bool) : Option ((List (S35))) := if (l0_1.length : Int) = 0 then (some ([] : List (S35))) else ((flongref03_Blank.f k a0_0).bind fun t438 => ((flongref03_Join.f t438 l0_1).bind fun t441 => (some t441)))
theorem flongref16_Flat.mono : ∀ a0 a1 a2 k, LeO (flongref16_Flat.f k a0 a1 a2) (flongref16_Flat.f (k + 1) a0 a1 a2) := by
 intro a0 a1 a2 k
 unfold flongref16_Flat.f
 repeat' first
   | (with_reducible exact flongref03_Blank.mono _ _)
   | (with_reducible exact LeO.refl _)
   | (with_reducible exact LeO.none _)
   | (with_reducible refine LeO.ite ?_ ?_)
   | (with_reducible refine LeO.bind ?_ (fun _ => ?_))
theorem flongref16_Flat.calls (k : Nat) (a0_0 : Int) (A0_1 : Option Addr) (c0_1 : Nat) (l0_1 : List (S35)) (a0_2 : Bool) (r : List (S35)) (w : World) (hr0_1 : Kd.C k35 w A0_1 l0_1.length l0_1) (hc0_1 : l0_1.length ≤ c0_1) (h : flongref16_Flat.f k a0_0 l0_1 a0_2 = some r) :
  Calls Tryd.prog 52 #[.agg #[.int .i64 a0_0, .slice A0_1 l0_1.length c0_1, .bool a0_2]] w fun e w' => ∃ v0_ : Value, e = .returned (v0_) ∧ Kd.R k35 35 w' w.heap.size (fun _ => True) v0_ r ∧ Below w.heap.size w w' := by
 have hu30 := Tryd.underlying30
 have HR0_1 := Aside0.mk hr0_1
 have HC0_1 := Aside0.mk hc0_1
 clear hr0_1 hc0_1
 have HB := Aside0.mk (Below.refl w.heap.size w)
 have H : (if (l0_1.length : Int) = 0 then (some ([] : List (S35))) else ((flongref03_Blank.f k a0_0).bind fun t438 => ((flongref03_Join.f t438 l0_1).bind fun t441 => (some t441)))) = some r := h
 clear h
 by_cases c2 : (l0_1.length : Int) = 0
 ·rw [if_pos c2] at H
  have c2b0 : ((l0_1.length : Int) == 0) = true := beq_iff_eq.mpr c2
  have c2b1 : ((l0_1.length : Int) != 0) = false := bne_eq_false_iff_eq.mpr c2
  clear c2
  obtain rfl := Option.some.inj H
  go_enter Tryd.func52, Tryd.ntmps52
  go_wp2_with (first | ((with_reducible refine gate_dst (N := 1) rfl ?_); refine box_event ?hg (N := 1) ?hd (cs := #[.int .i64 a0_0, .slice A0_1 l0_1.length c0_1, .bool a0_2]) (t := 30) ?hr ?_; (case hd => rfl); (case hg => rfl); (case hr => first | (go_simp; done) | (go_simp; rfl)); intro gb437 hg w3 hbox hb; have BK437 := Aside0.mk (hbox); have GW437 := Aside0.mk ((geA hg : w.heap.size ≤ gb437)); have GE437 := Aside0.mk ((geA hg : w.heap.size ≤ gb437)); replace HB := Aside0.mk (below_step bA hb); clear hb hbox hg; have hcz4_0 : w3.cell? ⟨gb437, 0, none⟩ = some (.int .i64 a0_0) := (blk_cell BK437.out 0).trans rfl; have hcz4_1 : w3.cell? ⟨gb437, 1, none⟩ = some (.slice A0_1 l0_1.length c0_1) := (blk_cell BK437.out 1).trans rfl; have hcz4_2 : w3.cell? ⟨gb437, 2, none⟩ = some (.bool a0_2) := (blk_cell BK437.out 2).trans rfl; have hfz4_0 := blk_frozen BK437.out 0; have hfz4_1 := blk_frozen BK437.out 1; have hfz4_2 := blk_frozen BK437.out 2))
  go_ret
  exact ⟨_, eW, by first | exact Kd.R_nil _ _ _ _ _ | exact Kd.N_nil _ _ _ _ _ | exact Kd.V_nil _ _ _ _ _ | exact Kd.Q_nil _ _ _ _ _ | exact Kd.S_nil _ _ _ _ _, bG⟩
 ·rw [if_neg c2] at H
  have c2b0 : ((l0_1.length : Int) == 0) = false := beq_eq_false_iff_ne.mpr c2
  have c2b1 : ((l0_1.length : Int) != 0) = true := bne_iff_ne.mpr c2
  have c2b2 : ¬ (l0_1 = []) := fun h_ => c2 (by rw [h_]; rfl)
  replace H := Option.bind_eq_some_iff.mp H
  obtain ⟨t438, A50, H⟩ := H
  replace H : ((flongref03_Join.f t438 l0_1).bind fun t441 => (some t441)) = some r := H
  have A5 := Aside0.mk A50
  clear A50
  replace H := Option.bind_eq_some_iff.mp H
  obtain ⟨t441, A60, H⟩ := H
  replace H : (some t441) = some r := H
  have A6 := Aside0.mk A60
  clear A60
  obtain rfl := Option.some.inj H
  go_enter Tryd.func52, Tryd.ntmps52
  try go_wp2_with (first | ((with_reducible refine gate_dst (N := 1) rfl ?_); refine box_event ?hg (N := 1) ?hd (cs := #[.int .i64 a0_0, .slice A0_1 l0_1.length c0_1, .bool a0_2]) (t := 30) ?hr ?_; (case hd => rfl); (case hg => rfl); (case hr => first | (go_simp; done) | (go_simp; rfl)); intro gb437 hg w7 hbox hb; have BK437 := Aside0.mk (hbox); have GW437 := Aside0.mk ((geA hg : w.heap.size ≤ gb437)); have GE437 := Aside0.mk ((geA hg : w.heap.size ≤ gb437)); replace HB := Aside0.mk (below_step bA hb); clear hb hbox hg; have hcz8_0 : w7.cell? ⟨gb437, 0, none⟩ = some (.int .i64 a0_0) := (blk_cell BK437.out 0).trans rfl; have hcz8_1 : w7.cell? ⟨gb437, 1, none⟩ = some (.slice A0_1 l0_1.length c0_1) := (blk_cell BK437.out 1).trans rfl; have hcz8_2 : w7.cell? ⟨gb437, 2, none⟩ = some (.bool a0_2) := (blk_cell BK437.out 2).trans rfl; have hfz8_0 := blk_frozen BK437.out 0; have hfz8_1 := blk_frozen BK437.out 1; have hfz8_2 := blk_frozen BK437.out 2))
  have n0_ := Aside0.mk (blk_drew BK437.out)
  have n1_ := Aside0.mk (below_drew1 HB.out)
  clear BK437
  clear HB
  have BK437 := n0_
  have HB := n1_
  clear n0_ n1_
  refine start_ (n := 7) (S := fun w' => w'.cell? ⟨gb437, 0, none⟩ = some (.int .i64 a0_0) ∧ w'.cell? ⟨gb437, 1, none⟩ = some (.slice A0_1 l0_1.length c0_1) ∧ w'.cell? ⟨gb437, 2, none⟩ = some (.bool a0_2)) (ds := []) #[false, false, false, false, false, false, false] (by kernel_rfl) rfl rfl ⟨(blk_cell BK437.out 0).trans rfl, (blk_cell BK437.out 1).trans rfl, (blk_cell BK437.out 2).trans rfl⟩ (fun hHeld => ?_)
  generalize w7.drew = w9 at BK437 HB hHeld ⊢
  refine pure_ (i := 0) (N := some 7) (v := ?_) (a' := ?_) #[true, false, false, false, false, false, false] rfl rfl (by kernel_rfl) (fun _ _ _ h => h) (Or.inl ⟨by rfl, ?_⟩) ?_ ?_
  rotate_left
  ·intro w'
   go_simp
   with_reducible rfl
  rotate_left
  ·simp only [Act.put, List.setIfInBounds_toArray, List.set_cons_zero, List.set_cons_succ, i64_w, i32_w]
   rfl
  refine pure_ (i := 3) (N := some 10) (v := ?_) (a' := ?_) #[true, false, false, true, false, false, false] rfl rfl (by kernel_rfl) (fun _ _ _ h => h) (Or.inl ⟨by rfl, ?_⟩) ?_ ?_
  rotate_left
  ·intro w'
   go_simp
   with_reducible rfl
  rotate_left
  ·simp only [Act.put, List.setIfInBounds_toArray, List.set_cons_zero, List.set_cons_succ, i64_w, i32_w]
   rfl
  refine take_ (i := 1) (N := some 8) (v := ?_) (a' := ?_) #[true, true, false, true, false, false, false] rfl rfl (by kernel_rfl) (fun _ _ _ h => h) (Or.inl ⟨by rfl, ?_⟩) hHeld ?_ ?_
  rotate_left
  ·rintro w' ⟨s0, s1, s2⟩
   go_simp
   with_reducible rfl
  rotate_left
  ·simp only [Act.put, List.setIfInBounds_toArray, List.set_cons_zero, List.set_cons_succ, i64_w, i32_w]
   rfl
  refine take_ (i := 4) (N := some 11) (v := ?_) (a' := ?_) #[true, true, false, true, true, false, false] rfl rfl (by kernel_rfl) (fun _ _ _ h => h) (Or.inl ⟨by rfl, ?_⟩) hHeld ?_ ?_
  rotate_left
  ·rintro w' ⟨s0, s1, s2⟩
   go_simp
   with_reducible rfl
  rotate_left
  ·simp only [Act.put, List.setIfInBounds_toArray, List.set_cons_zero, List.set_cons_succ, i64_w, i32_w]
   rfl
  refine one_ (i := 2) (N := some 9) #[true, true, true, true, true, false, false] rfl rfl (by kernel_rfl) (by decide) (fun K hK => ?_)
  refine goes_ Tryd.func74 (by kernel_rfl) rfl #[.int .i64 a0_0] (by rfl) rfl rfl aP ?_
  with_reducible refine (flongref03_Blank.calls k a0_0 t438 _ A5.out).mono ?_
  rintro e w10 ⟨v439, rfl, ho0, hb⟩
  refine ⟨_, rfl, ?_⟩
  have n0_ := Aside0.mk (Kd.R_lower ho0 (below_size bG))
  have n1_ := Aside0.mk (blk_below (g := gb437) (o := .cells #[.int .i64 a0_0, .slice A0_1 l0_1.length c0_1, .bool a0_2] 30 (0, 0)) (kB BK437) hb)
  have n2_ := Aside0.mk (below_step bG hb)
  clear BK437
  clear HB
  have HO440 := n0_
  have BK437 := n1_
  have HB := n2_
  clear n0_ n1_ n2_
  (try clear hb)
  (try clear hb2)
  (try clear hk)
  (try clear hi)
  (try clear ho0)
  obtain ⟨Ao11, co11, eo11⟩ := Kd.R_slice HO440.out
  (first | subst eo11 | (injection eo11 with f1_ f2_ f3_; have f4_ := f1_.symm; have f5_ := f3_.symm; clear f1_ f2_ f3_; subst f4_; subst f5_))
  refine hK.out _ _ ⟨(blk_cell BK437.out 0).trans rfl, (blk_cell BK437.out 1).trans rfl, (blk_cell BK437.out 2).trans rfl⟩ (fun hHeld => ?_)
  clear hK K
  refine norm_ (a' := ?_) ?_ ?_
  rotate_left
  ·show Act.put _ (some 9) _ = _
   simp only [Act.put, List.setIfInBounds_toArray, List.set_cons_zero, List.set_cons_succ, i64_w, i32_w]
   rfl
  refine one_ (i := 5) (N := some 12) #[true, true, true, true, true, true, false] rfl rfl (by kernel_rfl) (by decide) (fun K hK => ?_)
  refine goes_ Tryd.func73 (by kernel_rfl) rfl #[.slice Ao11 t438.length co11, .slice A0_1 l0_1.length c0_1] (by rfl) rfl rfl aP ?_
  with_reducible refine (flongref03_Join.calls _ _ t438 _ _ l0_1 t441 _ ?side1 ?side2 ?side3 ?side4 A6.out).mono ?_
  (case side1 => repeat (first | exact (Kd.R_reads' HO440.out).2.2 | (with_reducible refine Kd.C_alloc ?_ _) | (with_reducible refine Kd.C_drewN ?_ _) | (with_reducible refine Kd.C_drew ?_)))
  (case side2 => exact (Kd.R_reads' HO440.out).2.1)
  (case side3 => repeat (first | exact (Kd.C_below HR0_1.out HB.out) | (with_reducible refine Kd.C_alloc ?_ _) | (with_reducible refine Kd.C_drewN ?_ _) | (with_reducible refine Kd.C_drew ?_)))
  (case side4 => exact HC0_1.out)
  rintro e w12 ⟨v442, rfl, ho0, hb⟩
  refine ⟨_, rfl, ?_⟩
  have n0_ := Aside0.mk (Kd.R_elder' (kR HO440) (Kd.R_base ho0) hb)
  have n1_ := Aside0.mk (Kd.R_lower (Kd.R_new' ho0 (Kd.R_lt (kR HO440))) (below_size bG))
  have n2_ := Aside0.mk (blk_below (g := gb437) (o := .cells #[.int .i64 a0_0, .slice A0_1 l0_1.length c0_1, .bool a0_2] 30 (0, 0)) (kB BK437) hb)
  have n3_ := Aside0.mk (below_step bG hb)
  clear HO440
  clear BK437
  clear HB
  have HO440 := n0_
  have HO443 := n1_
  have BK437 := n2_
  have HB := n3_
  clear n0_ n1_ n2_ n3_
  (try clear hb)
  (try clear hb2)
  (try clear hk)
  (try clear hi)
  (try clear ho0)
  refine hK.out _ _ ⟨(blk_cell BK437.out 0).trans rfl, (blk_cell BK437.out 1).trans rfl, (blk_cell BK437.out 2).trans rfl⟩ (fun hHeld => ?_)
  clear hK K
  refine norm_ (a' := ?_) ?_ ?_
  rotate_left
  ·show Act.put _ (some 12) _ = _
   simp only [Act.put, List.setIfInBounds_toArray, List.set_cons_zero, List.set_cons_succ, i64_w, i32_w]
   rfl
  refine pure_ (i := 6) (N := some 2) (v := ?_) (a' := ?_) #[true, true, true, true, true, true, true] rfl rfl (by kernel_rfl) (fun _ _ _ h => h) (Or.inl ⟨by rfl, ?_⟩) ?_ ?_
  rotate_left
  ·intro w'
   go_simp
   with_reducible rfl
  rotate_left
  ·simp only [Act.put, List.setIfInBounds_toArray, List.set_cons_zero, List.set_cons_succ, i64_w, i32_w]
   rfl
  refine done_ (by kernel_rfl) ?_
  try go_wp2
  go_ret
  exact ⟨_, eW, by (with_reducible repeat (first | apply Kd.R_alloc | apply Kd.R_drewN | apply Kd.R_drew)); exact Kd.R_mono HO443.out (fun _ hk => trivial), bG⟩

/-! ### flongref17_Rows: function 24 -/
def flongref17_Rows.l0 : Nat → List (S30) → List (List (S35)) → Int → Option ((List (List (S35))))
 | 0, _, _, _ => none
 | k + 1, x0, x3, x4 => if x4 < (x0.length : Int) then (if 0 ≤ x4 then ((flongref16_Flat.f k ((rd_T30 x0 x4).f0) ((rd_T30 x0 x4).f1) ((rd_T30 x0 x4).f2)).bind fun t445 => ((flongref17_Normal.f k t445).bind fun t448 => (if x3.length < 5864062014805 then (flongref17_Rows.l0 k x0 (x3 ++ [t448]) (wrap64 (x4 + 1))) else (none)))) else (none)) else (some x3)
def flongref17_Rows.f (k : Nat) (l0 : List (S30)) : Option ((List (List (S35)))) := flongref17_Rows.l0 k l0 ([] : List (List (S35))) 0
theorem flongref17_Rows.mono_l : ∀ k, (∀ y0 y1 y2, LeO (flongref17_Rows.l0 k y0 y1 y2) (flongref17_Rows.l0 (k + 1) y0 y1 y2))
 | 0 => fun _ _ _ r h => by simp [flongref17_Rows.l0] at h
 | k + 1 => by
  have ih0 := flongref17_Rows.mono_l k
  ·intro y0 y1 y2
   unfold flongref17_Rows.l0
   repeat' first
   | (with_reducible exact ih0 _ _ _)
   | (with_reducible exact flongref16_Flat.mono _ _ _ _)
   | (with_reducible exact flongref17_Normal.mono _ _)
   | (with_reducible exact LeO.refl _)
   | (with_reducible exact LeO.none _)
   | (with_reducible refine LeO.ite ?_ ?_)
   | (with_reducible refine LeO.bind ?_ (fun _ => ?_))
theorem flongref17_Rows.mono : ∀ a0 k, LeO (flongref17_Rows.f k a0) (flongref17_Rows.f (k + 1) a0) := by
 intro a0 k
 have ih0 := flongref17_Rows.mono_l k
 unfold flongref17_Rows.f
 repeat' first
   | (with_reducible exact ih0 _ _ _)
   | (with_reducible exact flongref16_Flat.mono _ _ _ _)
   | (with_reducible exact flongref17_Normal.mono _ _)
   | (with_reducible exact LeO.refl _)
   | (with_reducible exact LeO.none _)
   | (with_reducible refine LeO.ite ?_ ?_)
   | (with_reducible refine LeO.bind ?_ (fun _ => ?_))
theorem flongref17_Rows.calls (k : Nat) (A0 : Option Addr) (c0 : Nat) (l0 : List (S30)) (r : List (List (S35))) (w : World) (hr0 : Kd.C k30 w A0 l0.length l0) (hc0 : l0.length ≤ c0) (h : flongref17_Rows.f k l0 = some r) :
  Calls Tryd.prog 24 #[.slice A0 l0.length c0] w fun e w' => ∃ v0_ : Value, e = .returned (v0_) ∧ Kd.S (Kd.slice 35 k35) 27 w' w.heap.size (fun _ => True) v0_ r ∧ Below w.heap.size w w' := by
 have hu30 := Tryd.underlying30
 have HR0 := Aside0.mk hr0
 have HC0 := Aside0.mk hc0
 clear hr0 hc0
 have HB := Aside0.mk (Below.refl w.heap.size w)
 have H : (flongref17_Rows.l0 k l0 ([] : List (List (S35))) 0) = some r := h
 clear h
 have H' := Aside0.mk H
 clear H
 go_enter Tryd.func24, Tryd.ntmps24
 go_wp2
 go_loopg [3, 4] k (fun kq v3 v4 w' => ∃ (x3_1 : List (List (S35))) (x4_1 : Int), v4 = .int .i64 x4_1 ∧ Aside0 (flongref17_Rows.l0 kq l0 x3_1 x4_1 = some r) ∧ Aside0 (kq ≤ k) ∧ Aside0 (Kd.S (Kd.slice 35 k35) 27 w' w.heap.size (fun _ => True) v3 x3_1) ∧ Aside0 (Below w.heap.size w w'))
 case atStart => exact ⟨(([] : List (List (S35)))), (0), sA, H', ⟨Nat.le_refl _⟩, ⟨by first | exact Kd.S_nil _ _ _ _ _ | exact Kd.N_nil _ _ _ _ _ | exact Kd.V_nil _ _ _ _ _ | exact Kd.Q_nil _ _ _ _ _ | exact Kd.R_nil _ _ _ _ _⟩, ⟨bA⟩⟩
 case round =>
  clear H'
  obtain ⟨x3_1, x4_1, rfl, HA, HK1, HO_3, HB⟩ := hrel
  cases gk with
  | zero => exact absurd HA.out (by simp [flongref17_Rows.l0])
  | succ k1 =>
   have H := HA.out
   clear HA
   simp only [flongref17_Rows.l0] at H
   by_cases c2 : x4_1 < (l0.length : Int)
   ·rw [if_pos c2] at H
    have c2b0 : decide (x4_1 < (l0.length : Int)) = true := decide_eq_true c2
    clear c2
    by_cases c3 : 0 ≤ x4_1
    ·rw [if_pos c3] at H
     have c3b0 : decide (0 ≤ x4_1) = true := decide_eq_true c3
     clear c3
     replace H := Option.bind_eq_some_iff.mp H
     obtain ⟨t445, A40, H⟩ := H
     replace H : ((flongref17_Normal.f k1 t445).bind fun t448 => (if x3_1.length < 5864062014805 then (flongref17_Rows.l0 k1 l0 (x3_1 ++ [t448]) (wrap64 (x4_1 + 1))) else (none))) = some r := H
     have A4 := Aside0.mk A40
     clear A40
     replace H := Option.bind_eq_some_iff.mp H
     obtain ⟨t448, A50, H⟩ := H
     replace H : (if x3_1.length < 5864062014805 then (flongref17_Rows.l0 k1 l0 (x3_1 ++ [t448]) (wrap64 (x4_1 + 1))) else (none)) = some r := H
     have A5 := Aside0.mk A50
     clear A50
     by_cases c6 : x3_1.length < 5864062014805
     ·rw [if_pos c6] at H
      have LMc6 := Aside0.mk c6
      clear c6
      obtain ⟨y451, hy451⟩ : ∃ y_ : List (List (S35)), y_ = (x3_1 ++ [t448]) := ⟨_, rfl⟩
      replace H : (flongref17_Rows.l0 k1 l0 y451 (wrap64 (x4_1 + 1))) = some r := hyA hy451 H
      have Ny451 := Aside0.mk hy451
      clear hy451
      have H' := Aside0.mk H
      clear H
      have p444 : 0 ≤ (x4_1 : Int) := of_decide_eq_true asA
      have q444 : x4_1 < (l0.length : Int) := of_decide_eq_true asA
      obtain ⟨ad444, A444_1, c444_1, e444, hx444_0, hx444_1, hx444_2, hl444_1, hi444_1⟩ := at_T30 HR0.out x4_1 p444 q444
      cases e444
      replace hx444_0 := (HB.out.cell (World.block_lt_of_cell? w _ hx444_0)).trans hx444_0
      replace hx444_1 := (HB.out.cell (World.block_lt_of_cell? w _ hx444_1)).trans hx444_1
      replace hx444_2 := (HB.out.cell (World.block_lt_of_cell? w _ hx444_2)).trans hx444_2
      have HR444_1 := Aside0.mk hi444_1
      have HC444_1 := Aside0.mk hl444_1
      clear hi444_1 hl444_1
      replace p444 := eq_true p444
      replace q444 := eq_true q444
      go_wp2_with (first | ((with_reducible refine gate_callee (f := 52) rfl ?_); refine goesL_ (some 16) rfl rfl Tryd.func52 (by kernel_rfl) rfl #[.agg #[.int .i64 ((rd_T30 l0 x4_1).f0), .slice A444_1 ((rd_T30 l0 x4_1).f1).length c444_1, .bool ((rd_T30 l0 x4_1).f2)]] rfl aP ?_; (with_reducible refine (flongref16_Flat.calls k1 ((rd_T30 l0 x4_1).f0) _ _ ((rd_T30 l0 x4_1).f1) ((rd_T30 l0 x4_1).f2) t445 _ ?side1 ?side2 A4.out).mono ?_); (case side1 => repeat (first | exact (Kd.C_below HR444_1.out HB.out) | (with_reducible refine Kd.C_alloc ?_ _) | (with_reducible refine Kd.C_drewN ?_ _) | (with_reducible refine Kd.C_drew ?_))); (case side2 => exact HC444_1.out); rintro e w7 ⟨v446, rfl, ho0, hb⟩; refine ⟨_, rfl, ?_⟩; replace HO_3 := Aside0.mk (Kd.S_elder' (kS HO_3) (Kd.R_base ho0) hb); have HO447 := Aside0.mk (Kd.R_lower ho0 (below_size bA)); replace HB := Aside0.mk (below_step bA hb); (try clear hb); (try clear hb2); (try clear hk); (try clear hi); (try clear ho0); obtain ⟨Ao8, co8, eo8⟩ := Kd.R_slice HO447.out; subst eo8) | ((with_reducible refine gate_callee (f := 14) rfl ?_); refine goesL_ (some 17) rfl rfl Tryd.func14 (by kernel_rfl) rfl #[.slice Ao8 t445.length co8] rfl aP ?_; (with_reducible refine (flongref17_Normal.calls k1 _ _ t445 t448 _ ?side1 ?side2 A5.out).mono ?_); (case side1 => repeat (first | exact (Kd.R_reads' HO447.out).2.2 | (with_reducible refine Kd.C_alloc ?_ _) | (with_reducible refine Kd.C_drewN ?_ _) | (with_reducible refine Kd.C_drew ?_))); (case side2 => exact (Kd.R_reads' HO447.out).2.1); rintro e w9 ⟨v449, rfl, ho0, hb⟩; refine ⟨_, rfl, ?_⟩; have n0_ := Aside0.mk (Kd.S_elder' (kS HO_3) (Kd.R_base ho0) hb); have n1_ := Aside0.mk (Kd.R_elder' (kR HO447) (Kd.R_base ho0) hb); have n2_ := Aside0.mk (Kd.R_lower (Kd.R_new' ho0 (Kd.R_lt (kR HO447))) (below_size bA)); have n3_ := Aside0.mk (below_step bA hb); clear HO_3; clear HO447; clear HB; have HO_3 := n0_; have HO447 := n1_; have HO450 := n2_; have HB := n3_; clear n0_ n1_ n2_ n3_; (try clear hb); (try clear hb2); (try clear hk); (try clear hi); (try clear ho0); obtain ⟨Ao11, co11, eo11⟩ := Kd.R_slice HO450.out; subst eo11) | ((with_reducible refine gate_builtin (b := .append) (xs := #[.tmp 11, .tmp 18]) rfl ?_); at_builtin; refine Kd.S_append (Kd.slice 35 k35) (w0 := w) w.heap.size rfl (.tmp 11) (.tmp 18) 39 27 (.slice none 0 0) 24 rfl Tryd.underlying39 info27 rfl (by decide) (by omega) u3 x3_1 t448 [.slice Ao11 t448.length co11] (fun k_ => some k_ ≠ (.slice Ao8 t445.length co8 : Value).ownBlock) (fun k_ => some k_ = (.slice Ao11 t448.length co11 : Value).ownBlock) rfl rfl ?aP (fun k_ hk_ => ((Kd.R_mono (ok' := fun k_ => ((fun k_ => some k_ ≠ (.slice Ao8 t445.length co8 : Value).ownBlock)) k_ ∧ some k_ ≠ (u3 : Value).ownBlock) (Kd.R_apart' (HO450.out) (Kd.S_typed HO_3.out) (by decide)) (fun k_ hk => ⟨hk.1.2, hk.2⟩))).1 k_ hk_.symm) ?aF ?aO ?aB ?aS ?aL ?_; (case aP => exact Kd.M_row (Kd.R_mono (Kd.R_tight rfl (Kd.R_mono (ok' := fun k_ => ((fun k_ => some k_ ≠ (.slice Ao8 t445.length co8 : Value).ownBlock)) k_ ∧ some k_ ≠ (u3 : Value).ownBlock) (Kd.R_apart' (HO450.out) (Kd.S_typed HO_3.out) (by decide)) (fun k_ hk => ⟨hk.1.2, hk.2⟩))) (fun _ h_ => h_))); (case aB => exact bA); (case aF => exact (fun k_ hk => Kd.fresh' (Kd.R_lt (kR HO447)) k_ hk)); (case aO => exact (by (with_reducible repeat (first | apply Kd.S_alloc | apply Kd.S_drewN | apply Kd.S_drew)); exact Kd.S_mono HO_3.out (fun k_ hk => ⟨hk.1.2, fun e_ => hk.2 e_⟩))); (case aS => exact (below_size bA)); (case aL => have := LMc6.out; omega); intro v452 w10 ho hb hg hat; rw [← Ny451.out] at ho; have n0_ := Aside0.mk (Kd.R_over' (kR HO447) (Kd.S_typed (kS HO_3)) (by decide) hg); have n1_ := Aside0.mk (hb); have n2_ := Aside0.mk (ho); clear HO447; clear HB; clear HO_3; clear HO450; have HO447 := n0_; have HB := n1_; have HO453 := n2_; clear n0_ n1_ n2_; clear ho hb hg hat))
      go_roundg k1
      case measure => have := HK1.out; omega
      case rel => exact ⟨(y451), (wrap64 (x4_1 + 1)), sA, H', ⟨by have := HK1.out; omega⟩, ⟨by (with_reducible repeat (first | apply Kd.S_alloc | apply Kd.S_drewN | apply Kd.S_drew)); exact Kd.S_mono HO453.out (fun _ hk => trivial)⟩, ⟨bA⟩⟩
     ·rw [if_neg c6] at H
      exact absurd H (by simp)
    ·rw [if_neg c3] at H
     exact absurd H (by simp)
   ·rw [if_neg c2] at H
    have c2b0 : decide (x4_1 < (l0.length : Int)) = false := decide_eq_false c2
    clear c2
    obtain rfl := Option.some.inj H
    go_wp2
    go_ret
    exact ⟨_, eW, kS HO_3, bA⟩

/-! ### flongref17_Write: function 25 -/
def flongref17_Write.l0 : Nat → List (List (S35)) → ByteArray → Int → Option (List Int)
 | 0, _, _, _ => none
 | k + 1, x3, x4, x5 => if x5 < (x3.length : Int) then (if 0 ≤ x5 then ((flongref03_Text.f k (rd_L6 x3 x5)).bind fun t458 => (if x4.size + t458.size ≤ 9223372036854775807 then (if (x4 ++ t458).size + 1 ≤ 9223372036854775807 then (flongref17_Write.l0 k x3 ((x4 ++ t458) ++ (⟨#[10]⟩ : ByteArray)) (wrap64 (x5 + 1))) else (none)) else (none))) else (none)) else ((conv_bytes.f x4).bind fun t459 => (some t459))
def flongref17_Write.f (k : Nat) (l0 : List (S30)) : Option (List Int) := (flongref17_Rows.f k l0).bind fun t454 => (flongref17_Write.l0 k t454 (⟨#[]⟩ : ByteArray) 0)
theorem flongref17_Write.mono_l : ∀ k, (∀ y0 y1 y2, LeO (flongref17_Write.l0 k y0 y1 y2) (flongref17_Write.l0 (k + 1) y0 y1 y2))
 | 0 => fun _ _ _ r h => by simp [flongref17_Write.l0] at h
 | k + 1 => by
  have ih0 := flongref17_Write.mono_l k
  ·intro y0 y1 y2
   unfold flongref17_Write.l0
   repeat' first
   | (with_reducible exact ih0 _ _ _)
   | (with_reducible exact flongref03_Text.mono _ _)
   | (with_reducible exact flongref17_Rows.mono _ _)
   | (with_reducible exact LeO.refl _)
   | (with_reducible exact LeO.none _)
   | (with_reducible refine LeO.ite ?_ ?_)
   | (with_reducible refine LeO.bind ?_ (fun _ => ?_))
theorem flongref17_Write.mono : ∀ a0 k, LeO (flongref17_Write.f k a0) (flongref17_Write.f (k + 1) a0) := by
 intro a0 k
 have ih0 := flongref17_Write.mono_l k
 unfold flongref17_Write.f
 repeat' first
   | (with_reducible exact ih0 _ _ _)
   | (with_reducible exact flongref03_Text.mono _ _)
   | (with_reducible exact flongref17_Rows.mono _ _)
   | (with_reducible exact LeO.refl _)
   | (with_reducible exact LeO.none _)
   | (with_reducible refine LeO.ite ?_ ?_)
   | (with_reducible refine LeO.bind ?_ (fun _ => ?_))
theorem flongref17_Write.calls (k : Nat) (A0 : Option Addr) (c0 : Nat) (l0 : List (S30)) (r : List Int) (w : World) (hr0 : Kd.C k30 w A0 l0.length l0) (hc0 : l0.length ≤ c0) (h : flongref17_Write.f k l0 = some r) :
  Calls Tryd.prog 25 #[.slice A0 l0.length c0] w fun e w' => ∃ v0_ : Value, e = .returned (v0_) ∧ Kd.V (Kd.int .u8) 5 w' w.heap.size (fun k_ => (w.heap.size ≤ k_)) v0_ r ∧ Below w.heap.size w w' := by
 have HR0 := Aside0.mk hr0
 have HC0 := Aside0.mk hc0
 clear hr0 hc0
 have HB := Aside0.mk (Below.refl w.heap.size w)
 have H : ((flongref17_Rows.f k l0).bind fun t454 => (flongref17_Write.l0 k t454 (⟨#[]⟩ : ByteArray) 0)) = some r := h
 clear h
 replace H := Option.bind_eq_some_iff.mp H
 obtain ⟨t454, A20, H⟩ := H
 replace H : (flongref17_Write.l0 k t454 (⟨#[]⟩ : ByteArray) 0) = some r := H
 have A2 := Aside0.mk A20
 clear A20
 have H' := Aside0.mk H
 clear H
 go_enter Tryd.func25, Tryd.ntmps25
 go_wp2_with (first | ((with_reducible refine gate_callee (f := 24) rfl ?_); refine goesL_ (some 7) rfl rfl Tryd.func24 (by kernel_rfl) rfl #[.slice A0 l0.length c0] rfl aP ?_; (with_reducible refine (flongref17_Rows.calls k _ _ l0 t454 _ ?side1 ?side2 A2.out).mono ?_); (case side1 => repeat (first | exact HR0.out | (with_reducible refine Kd.C_alloc ?_ _) | (with_reducible refine Kd.C_drewN ?_ _) | (with_reducible refine Kd.C_drew ?_))); (case side2 => exact HC0.out); rintro e w3 ⟨v455, rfl, ho0, hb⟩; refine ⟨_, rfl, ?_⟩; have HO456 := Aside0.mk (Kd.S_lower (Kd.S_newM (M := fun k_ => (w.heap.size ≤ k_)) ho0 (below_size bA) (fun k_ h_ => h_)) (below_size bA)); replace HB := Aside0.mk (below_step bA hb); (try clear hb); (try clear hb2); (try clear hk); (try clear hi); (try clear ho0)))
 go_loopg [4, 5] k (fun kq v4 v5 w' => ∃ (x4_1 : ByteArray) (x5_1 : Int), v4 = .string x4_1 ∧ v5 = .int .i64 x5_1 ∧ Aside0 (flongref17_Write.l0 kq t454 x4_1 x5_1 = some r) ∧ Aside0 (kq ≤ k) ∧ Aside0 (Kd.S (Kd.slice 35 k35) 27 w' w.heap.size (fun k_ => (w.heap.size ≤ k_)) v455 t454) ∧ Aside0 (Below w.heap.size w w'))
 case atStart => exact ⟨((⟨#[]⟩ : ByteArray)), (0), sA, sA, H', ⟨Nat.le_refl _⟩, ⟨by (with_reducible repeat (first | apply Kd.S_alloc | apply Kd.S_drewN | apply Kd.S_drew)); exact Kd.S_mono HO456.out (fun _ hk => hk.1)⟩, ⟨bA⟩⟩
 case round =>
  clear H'
  try clear c2
  try clear p2
  obtain ⟨x4_1, x5_1, rfl, rfl, HA, HK1, HO_3, HB⟩ := hrel
  cases gk with
  | zero => exact absurd HA.out (by simp [flongref17_Write.l0])
  | succ k1 =>
   have H := HA.out
   clear HA
   simp only [flongref17_Write.l0] at H
   by_cases c4 : x5_1 < (t454.length : Int)
   ·rw [if_pos c4] at H
    have c4b0 : decide (x5_1 < (t454.length : Int)) = true := decide_eq_true c4
    clear c4
    by_cases c5 : 0 ≤ x5_1
    ·rw [if_pos c5] at H
     have c5b0 : decide (0 ≤ x5_1) = true := decide_eq_true c5
     clear c5
     replace H := Option.bind_eq_some_iff.mp H
     obtain ⟨t458, A60, H⟩ := H
     replace H : (if x4_1.size + t458.size ≤ 9223372036854775807 then (if (x4_1 ++ t458).size + 1 ≤ 9223372036854775807 then (flongref17_Write.l0 k1 t454 ((x4_1 ++ t458) ++ (⟨#[10]⟩ : ByteArray)) (wrap64 (x5_1 + 1))) else (none)) else (none)) = some r := H
     have A6 := Aside0.mk A60
     clear A60
     by_cases c7 : x4_1.size + t458.size ≤ 9223372036854775807
     ·rw [if_pos c7] at H
      have c7b0 := eq_true c7
      have c7b1 : decide (x4_1.size + t458.size ≤ 9223372036854775807) = true := decide_eq_true c7
      try have c7b2 : (9223372036854775807 < x4_1.size + t458.size) = False := eq_false (Nat.not_lt.2 c7)
      by_cases c8 : (x4_1 ++ t458).size + 1 ≤ 9223372036854775807
      ·rw [if_pos c8] at H
       have c8b0 := eq_true c8
       have c8b1 : decide ((x4_1 ++ t458).size + 1 ≤ 9223372036854775807) = true := decide_eq_true c8
       try have c8b2 : (9223372036854775807 < (x4_1 ++ t458).size + 1) = False := eq_false (Nat.not_lt.2 c8)
       (try (have c8n := c8; simp only [ByteArray.size_append'] at c8n; have c8b3 := eq_false (Nat.not_lt.2 c8n); have c8b4 := eq_true c8n; clear c8n))
       have H' := Aside0.mk H
       clear H
       obtain ⟨Ao9, co9, eo9⟩ := Kd.S_slice HO_3.out
       subst eo9
       have p457 : 0 ≤ (x5_1 : Int) := of_decide_eq_true asA
       have q457 : x5_1 < (t454.length : Int) := of_decide_eq_true asA
       obtain ⟨ad457, A457_0, c457_0, e457, hx457_0, hl457_0, hi457_0⟩ := at_L6 (Kd.S_reads' HO_3.out).2.2 x5_1 p457 q457
       cases e457
       obtain ⟨ce457, hce457, hMe457, hcc457⟩ := Kd.S_get HO_3.out [] x5_1 p457 (by first | exact q457 | exact of_decide_eq_true asA | (have e_ := (Kd.S_reads' HO_3.out).1; omega))
       obtain ⟨ve457_0, rfl, ge457_0⟩ := hMe457
       have hv457_0 := hcc457 0 _ rfl
       rw [Nat.add_zero, show ((Kd.slice 35 k35)).sz = 1 from rfl, Nat.mul_one] at hv457_0
       replace hv457_0 := Option.some.inj (hv457_0.symm.trans hx457_0)
       rw [hv457_0] at ge457_0
       have HL457_0 := Aside0.mk (show Kd.R k35 35 _ _ _ _ (rd_L6 t454 x5_1) from ge457_0)
       clear hv457_0 ge457_0
       clear hcc457 hce457
       have HR457_0 := Aside0.mk hi457_0
       have HC457_0 := Aside0.mk hl457_0
       clear hi457_0 hl457_0
       replace p457 := eq_true p457
       replace q457 := eq_true q457
       go_wp2_with (first | ((with_reducible refine gate_callee (f := 13) rfl ?_); refine goesL_ (some 19) rfl rfl Tryd.func13 (by kernel_rfl) rfl #[.slice A457_0 (rd_L6 t454 x5_1).length c457_0] rfl aP ?_; (with_reducible refine (flongref03_Text.calls k1 _ _ (rd_L6 t454 x5_1) t458 _ ?side1 ?side2 A6.out).mono ?_); (case side1 => repeat (first | exact (by repeat (first | (with_reducible exact HR457_0.out) | (with_reducible refine Kd.C_alloc ?_ _) | (with_reducible refine Kd.C_drewN ?_ _) | (with_reducible refine Kd.C_drew ?_) | exact HR457_0.out)) | (with_reducible refine Kd.C_alloc ?_ _) | (with_reducible refine Kd.C_drewN ?_ _) | (with_reducible refine Kd.C_drew ?_))); (case side2 => exact HC457_0.out); rintro e w10 ⟨rfl, hb⟩; refine ⟨_, rfl, ?_⟩; replace HO_3 := Aside0.mk (Kd.S_below (kS HO_3) hb); replace HL457_0 := Aside0.mk (Kd.R_below (kR HL457_0) hb); replace HR457_0 := Aside0.mk (Kd.C_below (by repeat (first | (with_reducible exact HR457_0.out) | (with_reducible refine Kd.C_alloc ?_ _) | (with_reducible refine Kd.C_drewN ?_ _) | (with_reducible refine Kd.C_drew ?_) | exact HR457_0.out)) hb); replace HB := Aside0.mk (below_step bA hb); (try clear hb); (try clear hb2); (try clear hk); (try clear hi)))
       go_roundg k1
       case measure => have := HK1.out; omega
       case rel => exact ⟨((x4_1 ++ t458) ++ (⟨#[10]⟩ : ByteArray)), (wrap64 (x5_1 + 1)), sA, sA, H', ⟨by have := HK1.out; omega⟩, ⟨kS HO_3⟩, ⟨bA⟩⟩
      ·rw [if_neg c8] at H
       exact absurd H (by simp)
     ·rw [if_neg c7] at H
      exact absurd H (by simp)
    ·rw [if_neg c5] at H
     exact absurd H (by simp)
   ·rw [if_neg c4] at H
    have c4b0 : decide (x5_1 < (t454.length : Int)) = false := decide_eq_false c4
    clear c4
    replace H := Option.bind_eq_some_iff.mp H
    obtain ⟨t459, A110, H⟩ := H
    replace H : (some t459) = some r := H
    have A11 := Aside0.mk A110
    clear A110
    obtain rfl := Option.some.inj H
    obtain ⟨Ao12, co12, eo12⟩ := Kd.S_slice HO_3.out
    subst eo12
    go_wp2_with (first | ((with_reducible refine gate_convert (src := 9) (dst := 25) rfl ?_); refine convL_ _ rfl rfl x4_1 rfl rfl ?_; (with_reducible refine (conv_bytes.calls x4_1 t459 _ A11.out).mono ?_); rintro e w13 ⟨v460, rfl, ho0, hb⟩; refine ⟨_, rfl, ?_⟩; have n0_ := Aside0.mk (Kd.S_below (kS HO_3) hb); have n1_ := Aside0.mk (Kd.V_lower (Kd.V_mono (ok' := fun k_ => (w.heap.size ≤ k_) ∧ some k_ ≠ (.slice Ao12 t454.length co12 : Value).ownBlock) ho0 (fun k_ hk_ => ⟨(Nat.le_trans (below_size bA) hk_), (Kd.fresh' (Kd.S_lt (kS HO_3)) k_ hk_)⟩)) (below_size bA)); have n2_ := Aside0.mk (below_step bA hb); clear HO_3; clear HB; have HO_3 := n0_; have HO461 := n1_; have HB := n2_; clear n0_ n1_ n2_; (try clear hb); (try clear hb2); (try clear hk); (try clear hi); (try clear ho0)))
    go_ret
    exact ⟨_, eW, by (with_reducible repeat (first | apply Kd.V_alloc | apply Kd.V_drewN | apply Kd.V_drew)); exact Kd.V_mono HO461.out (fun _ hk => hk.1), bA⟩

end Go.Proofs.YtmeinakeiefcdaaDoor.X
