-- Written by this session's xprint.py (a variant of the kit's printer). Not trusted: Lean checks it.
import Derived.Test.YtmeinakeiefcdaaDoorX0
import Derived.Test.YtmeinakeiefcdaaDoorSlim
import Derived.Test.YtmeinakeiefcdaaDoorX6
import Derived.Test.YtmeinakeiefcdaaDoorHandA
namespace Go.Proofs.YtmeinakeiefcdaaDoor.X
open Go.Proofs.YtmeinakeiefcdaaDoor.Hand
open Go.RowKit Go.Proofs.YtmeinakeiefcdaaDoorW.PrintWords Go.Proofs.YtmeinakeiefcdaaDoorW.PrintLast Go.Proofs.YtmeinakeiefcdaaDoorW.PrintMore
attribute [local go_sem] max2_int min2_int max_two min_two max_three min_three max_four min_four   -- for this text's walks alone
set_option linter.unusedVariables false
set_option maxHeartbeats 8000000
set_option maxRecDepth 100000
set_option linter.unusedSimpArgs false

/-! ### flongref17_Normal: function 14 -/
mutual
def flongref17_Normal.l0 : Nat → List (S35) → List (S35) → Int → Option ((List (S35)))
 | 0, _, _, _ => none
 | k + 1, x3, x4, x5 => if x5 < (x3.length : Int) then (if 0 ≤ x5 then (if x5 > 0 then ((flongref02_Width.f k ((rd_T35 x3 x5).f0)).bind fun t352 => (flongref17_Normal.j1 k x3 x4 x5 (t352 == 0) ((rd_T35 x3 x5).f0) ((rd_T35 x3 x5).f1))) else (flongref17_Normal.j1 k x3 x4 x5 false ((rd_T35 x3 x5).f0) ((rd_T35 x3 x5).f1))) else (none)) else (some x4)
def flongref17_Normal.j1 : Nat → List (S35) → List (S35) → Int → Bool → Int → Int → Option ((List (S35)))
 | 0, _, _, _, _, _, _ => none
 | k + 1, x3, x4, x5, x27, x352000, x352001 => if x27 = true then (if 0 ≤ (wrap64 (x5 - 1)) then (if (wrap64 (x5 - 1)) < (x4.length : Int) then (if x352000 = 32 then (if x4.length < 17592186044416 then (flongref17_Normal.l0 k x3 (x4 ++ [(⟨x352000, 0⟩ : S35)]) (wrap64 (x5 + 1))) else (none)) else (if x4.length < 17592186044416 then (flongref17_Normal.l0 k x3 (x4 ++ [(⟨x352000, (rd_T35 x4 (wrap64 (x5 - 1))).f1⟩ : S35)]) (wrap64 (x5 + 1))) else (none))) else (none)) else (none)) else (if x352000 = 32 then (if x4.length < 17592186044416 then (flongref17_Normal.l0 k x3 (x4 ++ [(⟨x352000, 0⟩ : S35)]) (wrap64 (x5 + 1))) else (none)) else (if x4.length < 17592186044416 then (flongref17_Normal.l0 k x3 (x4 ++ [(⟨x352000, x352001⟩ : S35)]) (wrap64 (x5 + 1))) else (none)))
end
def flongref17_Normal.f (k : Nat) (l0 : List (S35)) : Option ((List (S35))) := (flongref03_Clean.f k l0).bind fun t344 => ((flongref03_Trim.f k t344).bind fun t347 => (flongref17_Normal.l0 k t347 ([] : List (S35)) 0))
theorem flongref17_Normal.mono_l : ∀ k, (∀ y0 y1 y2, LeO (flongref17_Normal.l0 k y0 y1 y2) (flongref17_Normal.l0 (k + 1) y0 y1 y2)) ∧ (∀ y0 y1 y2 y3 y4 y5, LeO (flongref17_Normal.j1 k y0 y1 y2 y3 y4 y5) (flongref17_Normal.j1 (k + 1) y0 y1 y2 y3 y4 y5))
 | 0 => ⟨fun _ _ _ r h => by simp [flongref17_Normal.l0] at h, fun _ _ _ _ _ _ r h => by simp [flongref17_Normal.j1] at h⟩
 | k + 1 => by
  obtain ⟨ih0, ih1⟩ := flongref17_Normal.mono_l k
  refine ⟨?_, ?_⟩
  ·intro y0 y1 y2
   unfold flongref17_Normal.l0
   repeat' first
   | (with_reducible exact ih0 _ _ _)
   | (with_reducible exact ih1 _ _ _ _ _ _)
   | (with_reducible exact flongref02_Width.mono _ _)
   | (with_reducible exact flongref03_Clean.mono _ _)
   | (with_reducible exact flongref03_Trim.mono _ _)
   | (with_reducible exact LeO.refl _)
   | (with_reducible exact LeO.none _)
   | (with_reducible refine LeO.ite ?_ ?_)
   | (with_reducible refine LeO.bind ?_ (fun _ => ?_))
  ·intro y0 y1 y2 y3 y4 y5
   unfold flongref17_Normal.j1
   repeat' first
   | (with_reducible exact ih0 _ _ _)
   | (with_reducible exact ih1 _ _ _ _ _ _)
   | (with_reducible exact flongref02_Width.mono _ _)
   | (with_reducible exact flongref03_Clean.mono _ _)
   | (with_reducible exact flongref03_Trim.mono _ _)
   | (with_reducible exact LeO.refl _)
   | (with_reducible exact LeO.none _)
   | (with_reducible refine LeO.ite ?_ ?_)
   | (with_reducible refine LeO.bind ?_ (fun _ => ?_))
theorem flongref17_Normal.mono : ∀ a0 k, LeO (flongref17_Normal.f k a0) (flongref17_Normal.f (k + 1) a0) := by
 intro a0 k
 obtain ⟨ih0, ih1⟩ := flongref17_Normal.mono_l k
 unfold flongref17_Normal.f
 repeat' first
   | (with_reducible exact ih0 _ _ _)
   | (with_reducible exact ih1 _ _ _ _ _ _)
   | (with_reducible exact flongref02_Width.mono _ _)
   | (with_reducible exact flongref03_Clean.mono _ _)
   | (with_reducible exact flongref03_Trim.mono _ _)
   | (with_reducible exact LeO.refl _)
   | (with_reducible exact LeO.none _)
   | (with_reducible refine LeO.ite ?_ ?_)
   | (with_reducible refine LeO.bind ?_ (fun _ => ?_))
theorem flongref17_Normal.calls (k : Nat) (A0 : Option Addr) (c0 : Nat) (l0 : List (S35)) (r : List (S35)) (w : World) (hr0 : Kd.C k35 w A0 l0.length l0) (hc0 : l0.length ≤ c0) (h : flongref17_Normal.f k l0 = some r) :
  Calls Tryd.prog 14 #[.slice A0 l0.length c0] w fun e w' => ∃ v0_ : Value, e = .returned (v0_) ∧ Kd.R k35 35 w' w.heap.size (fun _ => True) v0_ r ∧ Below w.heap.size w w' := by
 have hu35 := Tryd.underlying35
 have HR0 := Aside0.mk hr0
 have HC0 := Aside0.mk hc0
 clear hr0 hc0
 have HB := Aside0.mk (Below.refl w.heap.size w)
 have H : ((flongref03_Clean.f k l0).bind fun t344 => ((flongref03_Trim.f k t344).bind fun t347 => (flongref17_Normal.l0 k t347 ([] : List (S35)) 0))) = some r := h
 clear h
 replace H := Option.bind_eq_some_iff.mp H
 obtain ⟨t344, A20, H⟩ := H
 replace H : ((flongref03_Trim.f k t344).bind fun t347 => (flongref17_Normal.l0 k t347 ([] : List (S35)) 0)) = some r := H
 have A2 := Aside0.mk A20
 clear A20
 replace H := Option.bind_eq_some_iff.mp H
 obtain ⟨t347, A30, H⟩ := H
 replace H : (flongref17_Normal.l0 k t347 ([] : List (S35)) 0) = some r := H
 have A3 := Aside0.mk A30
 clear A30
 have H' := Aside0.mk H
 clear H
 go_enter Tryd.func14, Tryd.ntmps14
 go_wp2_with (first | ((with_reducible refine gate_callee (f := 30) rfl ?_); refine goesL_ (some 8) rfl rfl Tryd.func30 (by kernel_rfl) rfl #[.slice A0 l0.length c0] rfl aP ?_; (with_reducible refine (flongref03_Clean.calls k _ _ l0 t344 _ ?side1 ?side2 A2.out).mono ?_); (case side1 => repeat (first | exact HR0.out | (with_reducible refine Kd.C_alloc ?_ _) | (with_reducible refine Kd.C_drewN ?_ _) | (with_reducible refine Kd.C_drew ?_))); (case side2 => exact HC0.out); rintro e w4 ⟨v345, rfl, ho0, hb⟩; refine ⟨_, rfl, ?_⟩; have HO346 := Aside0.mk (Kd.R_lower ho0 (below_size bA)); replace HB := Aside0.mk (below_step bA hb); (try clear hb); (try clear hb2); (try clear hk); (try clear hi); (try clear ho0); obtain ⟨Ao5, co5, eo5⟩ := Kd.R_slice HO346.out; subst eo5) | ((with_reducible refine gate_callee (f := 29) rfl ?_); refine goesL_ (some 9) rfl rfl Tryd.func29 (by kernel_rfl) rfl #[.slice Ao5 t344.length co5] rfl aP ?_; (with_reducible refine (flongref03_Trim.calls k (fun k_ => some k_ = (.slice Ao5 t344.length co5 : Value).ownBlock) _ _ t344 t347 _ ?side1 A3.out).mono ?_); (case side1 => exact Kd.R_V (Kd.R_tight rfl (HO346.out))); rintro e w6 ⟨v348, rfl, ho0, hb⟩; refine ⟨_, rfl, ?_⟩; replace HO346 := Aside0.mk (Kd.R_below (kR HO346) hb); have HO349 := Aside0.mk (Kd.V_lower (Kd.V_mono (ok' := fun k_ => True) ho0 (fun k_ hk_ => trivial)) (below_size bA)); replace HB := Aside0.mk (below_step bA hb); (try clear hb); (try clear hb2); (try clear hk); (try clear hi); (try clear ho0)))
 go_loopg [4, 5] k (fun kq v4 v5 w' => ∃ (x4_1 : List (S35)) (x5_1 : Int), v5 = .int .i64 x5_1 ∧ Aside0 (flongref17_Normal.l0 kq t347 x4_1 x5_1 = some r) ∧ Aside0 (kq ≤ k) ∧ Aside0 (Kd.V k35 35 w' w.heap.size (fun k_ => some k_ ≠ (v4 : Value).ownBlock) v348 t347) ∧ Aside0 (Kd.R k35 35 w' w.heap.size (fun _ => True) v4 x4_1) ∧ Aside0 (Below w.heap.size w w'))
 case atStart => exact ⟨(([] : List (S35))), (0), sA, H', ⟨Nat.le_refl _⟩, ⟨by (with_reducible repeat (first | apply Kd.V_alloc | apply Kd.V_drewN | apply Kd.V_drew)); exact Kd.V_mono HO349.out (fun _ hk => (by simp [Value.ownBlock]))⟩, ⟨by first | exact Kd.R_nil _ _ _ _ _ | exact Kd.N_nil _ _ _ _ _ | exact Kd.V_nil _ _ _ _ _ | exact Kd.Q_nil _ _ _ _ _ | exact Kd.S_nil _ _ _ _ _⟩, ⟨bA⟩⟩
 case round =>
  clear H'
  try clear c1
  try clear c2
  try clear p2
  try clear c3
  obtain ⟨x4_1, x5_1, rfl, HA, HK1, HO_3, HO_4, HB⟩ := hrel
  cases gk with
  | zero => exact absurd HA.out (by simp [flongref17_Normal.l0])
  | succ k1 =>
   have H := HA.out
   clear HA
   simp only [flongref17_Normal.l0] at H
   by_cases c7 : x5_1 < (t347.length : Int)
   ·rw [if_pos c7] at H
    have c7b0 : decide (x5_1 < (t347.length : Int)) = true := decide_eq_true c7
    clear c7
    by_cases c8 : 0 ≤ x5_1
    ·rw [if_pos c8] at H
     have c8b0 : decide (0 ≤ x5_1) = true := decide_eq_true c8
     clear c8
     have HC9 := Aside0.mk H
     clear H
     obtain ⟨Ao10, co10, eo10⟩ := Kd.V_slice HO_3.out
     subst eo10
     have p350 : 0 ≤ (x5_1 : Int) := of_decide_eq_true asA
     have q350 : x5_1 < (t347.length : Int) := of_decide_eq_true asA
     obtain ⟨ad350, e350, hx350_0, hx350_1⟩ := at_T35 (Kd.V_reads' HO_3.out).2.2 x5_1 p350 q350
     cases e350
     replace p350 := eq_true p350
     replace q350 := eq_true q350
     go_upto_region 7 with (first | ((with_reducible refine gate_dst (N := 6) rfl ?_); refine box_event ?hg (N := 6) ?hd (cs := #[.int .i32 0, .int .u8 0]) (t := 35) ?hr ?_; (case hd => rfl); (case hg => rfl); (case hr => first | (go_simp; done) | (go_simp; rfl)); intro gb351 hg w11 hbox hb; replace HO_3 := Aside0.mk (Kd.V_below (Kd.V_elderB (kV HO_3) gb351 (Nat.le_of_eq hg.symm)) hb); replace HO_4 := Aside0.mk (Kd.R_below (Kd.R_elderB (kR HO_4) gb351 (Nat.le_of_eq hg.symm)) hb); have BK351 := Aside0.mk (hbox); have GW351 := Aside0.mk ((geA hg : w.heap.size ≤ gb351)); have GE351 := Aside0.mk ((geA hg : w.heap.size ≤ gb351)); replace HB := Aside0.mk (below_step bA hb); clear hb hbox hg; have hcz12_0 : w11.cell? ⟨gb351, 0, none⟩ = some (.int .i32 0) := (blk_cell BK351.out 0).trans rfl; have hcz12_1 : w11.cell? ⟨gb351, 1, none⟩ = some (.int .u8 0) := (blk_cell BK351.out 1).trans rfl; have hfz12_0 := blk_frozen BK351.out 0; have hfz12_1 := blk_frozen BK351.out 1))
     (try simp only [Act.put, List.setIfInBounds_toArray, List.set_cons_zero, List.set_cons_succ])
     go_cut [27] (fun v27 wc => ∃ (kq : Nat) (x27_8 : Bool), v27 = .bool x27_8 ∧ Aside0 (flongref17_Normal.j1 kq t347 x4_1 x5_1 x27_8 ((rd_T35 t347 x5_1).f0) ((rd_T35 t347 x5_1).f1) = some r) ∧ Aside0 (kq ≤ k1) ∧ Aside0 (Kd.V k35 35 wc w.heap.size (fun k_ => some k_ ≠ (u4 : Value).ownBlock ∧ k_ ≠ gb351) (.slice (some ad350) t347.length co10) t347) ∧ Aside0 (Kd.R k35 35 wc w.heap.size (fun k_ => k_ ≠ gb351) u4 x4_1) ∧ Aside0 (wc.heap[gb351]? = some (.cells #[.int .i32 ((rd_T35 t347 x5_1).f0), .int .u8 ((rd_T35 t347 x5_1).f1)] 35 (0, 0))) ∧ Aside0 (Below w.heap.size w wc))
     case first =>
      have H := HC9.out
      clear HC9
      by_cases c13 : x5_1 > 0
      ·rw [if_pos c13] at H
       have c13b0 : decide (0 < x5_1) = true := decide_eq_true c13
       clear c13
       (first | rw [c13b0] | (simp only [i64_w, i32_w]; rw [c13b0]) | skip)
       replace H := Option.bind_eq_some_iff.mp H
       obtain ⟨t352, A140, H⟩ := H
       replace H : (flongref17_Normal.j1 k1 t347 x4_1 x5_1 (t352 == 0) ((rd_T35 t347 x5_1).f0) ((rd_T35 t347 x5_1).f1)) = some r := H
       have A14 := Aside0.mk A140
       clear A140
       have H' := Aside0.mk H
       clear H
       have hcz15_0 : w11.cell? ⟨gb351, 0, none⟩ = some (.int .i32 0) := (blk_cell BK351.out 0).trans rfl
       have hcz15_1 : w11.cell? ⟨gb351, 1, none⟩ = some (.int .u8 0) := (blk_cell BK351.out 1).trans rfl
       have hfz15_0 := blk_frozen BK351.out 0
       have hfz15_1 := blk_frozen BK351.out 1
       go_wp2_with (first | (go_at_call 31; (with_reducible refine (flongref02_Width.calls k1 ((rd_T35 t347 x5_1).f0) t352 _ A14.out).mono ?_); rintro e w16 ⟨rfl, hb⟩; have n0_ := Aside0.mk (Kd.V_below (by (with_reducible repeat (first | apply Kd.V_alloc | apply Kd.V_drewN | apply Kd.V_drew)); exact (Kd.V_mono (Kd.V_far (p := ⟨gb351, 1, none⟩) (Kd.V_far (p := ⟨gb351, 0, none⟩) (Kd.V_mono HO_3.out (fun k_ hk => (⟨hk, hk.2⟩ : _ ∧ k_ ≠ gb351))) (fun _ hk => hk.2) (.int .i32 ((rd_T35 t347 x5_1).f0))) (fun _ hk => hk.2) (.int .u8 ((rd_T35 t347 x5_1).f1))) (fun _ h_ => h_.1))) hb); have n1_ := Aside0.mk (Kd.R_below (by (with_reducible repeat (first | apply Kd.R_alloc | apply Kd.R_drewN | apply Kd.R_drew)); exact (Kd.R_mono (Kd.R_far (p := ⟨gb351, 1, none⟩) (Kd.R_far (p := ⟨gb351, 0, none⟩) (Kd.R_mono HO_4.out (fun k_ hk => (⟨hk, hk.2⟩ : _ ∧ k_ ≠ gb351))) (fun _ hk => hk.2) (.int .i32 ((rd_T35 t347 x5_1).f0))) (fun _ hk => hk.2) (.int .u8 ((rd_T35 t347 x5_1).f1))) (fun _ h_ => h_.1))) hb); have n2_ := Aside0.mk (blk_below (g := gb351) (o := .cells #[.int .i32 ((rd_T35 t347 x5_1).f0), .int .u8 ((rd_T35 t347 x5_1).f1)] 35 (0, 0)) (by (with_reducible repeat (first | refine blk_drewN ?_ _ | refine blk_drew ?_ | refine blk_alloc ?_ _)); refine blk_put (cs := #[.int .i32 ((rd_T35 t347 x5_1).f0), .int .u8 0]) ?_ 1 _ rfl; (with_reducible repeat (first | refine blk_drewN ?_ _ | refine blk_drew ?_ | refine blk_alloc ?_ _)); refine blk_put (cs := #[.int .i32 0, .int .u8 0]) ?_ 0 _ rfl; (with_reducible repeat (first | refine blk_drewN ?_ _ | refine blk_drew ?_ | refine blk_alloc ?_ _)); exact BK351.out) hb); have n3_ := Aside0.mk (below_step bG hb); clear HO_3; clear HO_4; clear BK351; clear HB; have HO_3 := n0_; have HO_4 := n1_; have BK351 := n2_; have HB := n3_; clear n0_ n1_ n2_ n3_; (try clear hb); (try clear hb2); (try clear hk); (try clear hi)))
       go_meet
       case rel => exact ⟨_, ((t352 == 0)), sA, H', ⟨by have := HK1.out; first | omega | exact Nat.le_refl _⟩, ⟨kV HO_3⟩, ⟨by (with_reducible repeat (first | apply Kd.R_alloc | apply Kd.R_drewN | apply Kd.R_drew)); exact Kd.R_mono HO_4.out (fun _ hk => hk.2)⟩, ⟨kB BK351⟩, ⟨bG⟩⟩
      ·rw [if_neg c13] at H
       have c13b0 : decide (0 < x5_1) = false := decide_eq_false c13
       clear c13
       (first | rw [c13b0] | (simp only [i64_w, i32_w]; rw [c13b0]) | skip)
       have H' := Aside0.mk H
       clear H
       go_wp2
       go_meet
       case rel => exact ⟨_, (false), sA, H', ⟨by have := HK1.out; first | omega | exact Nat.le_refl _⟩, ⟨by (with_reducible repeat (first | apply Kd.V_alloc | apply Kd.V_drewN | apply Kd.V_drew)); exact Kd.V_mono (Kd.V_far (p := ⟨gb351, 1, none⟩) (Kd.V_far (p := ⟨gb351, 0, none⟩) (Kd.V_mono HO_3.out (fun k_ hk => (⟨hk, hk.2⟩ : _ ∧ k_ ≠ gb351))) (fun _ hk => hk.2) (.int .i32 ((rd_T35 t347 x5_1).f0))) (fun _ hk => hk.2) (.int .u8 ((rd_T35 t347 x5_1).f1))) (fun _ hk => ⟨hk.1.1, hk.1.2⟩)⟩, ⟨by (with_reducible repeat (first | apply Kd.R_alloc | apply Kd.R_drewN | apply Kd.R_drew)); exact Kd.R_mono (Kd.R_far (p := ⟨gb351, 1, none⟩) (Kd.R_far (p := ⟨gb351, 0, none⟩) (Kd.R_mono HO_4.out (fun k_ hk => (⟨hk, hk.2⟩ : _ ∧ k_ ≠ gb351))) (fun _ hk => hk.2) (.int .i32 ((rd_T35 t347 x5_1).f0))) (fun _ hk => hk.2) (.int .u8 ((rd_T35 t347 x5_1).f1))) (fun _ hk => hk.1.2)⟩, ⟨by (with_reducible repeat (first | refine blk_drewN ?_ _ | refine blk_drew ?_ | refine blk_alloc ?_ _)); refine blk_put (cs := #[.int .i32 ((rd_T35 t347 x5_1).f0), .int .u8 0]) ?_ 1 _ rfl; (with_reducible repeat (first | refine blk_drewN ?_ _ | refine blk_drew ?_ | refine blk_alloc ?_ _)); refine blk_put (cs := #[.int .i32 0, .int .u8 0]) ?_ 0 _ rfl; (with_reducible repeat (first | refine blk_drewN ?_ _ | refine blk_drew ?_ | refine blk_alloc ?_ _)); exact BK351.out⟩, ⟨bG⟩⟩
     case rest =>
      clear HC9
      try clear c1
      try clear c2
      try clear p2
      try clear c3
      try clear p3
      try clear q3
      try clear hx3
      try clear c7
      try clear c7b0
      try clear c8
      try clear c8b0
      try clear c13
      try clear c13b0
      try clear c14
      try clear hcz12_0
      try clear hcz12_1
      try clear hcz15_0
      try clear hcz15_1
      try clear hfz12_0
      try clear hfz12_1
      try clear hfz15_0
      try clear hfz15_1
      try clear hx350_0
      try clear hx350_1
      try clear p2
      try clear p350
      try clear q350
      obtain ⟨kq, x27_8, rfl, HA, HJ8, HO_3, HO_4, BK351, HB⟩ := hcut
      cases kq with
      | zero => exact absurd HA.out (by simp [flongref17_Normal.j1])
      | succ kj8 =>
       have H := HA.out
       clear HA
       simp only [flongref17_Normal.j1] at H
       by_cases c17 : x27_8 = true
       ·subst c17
        have H1 : (if 0 ≤ (wrap64 (x5_1 - 1)) then (if (wrap64 (x5_1 - 1)) < (x4_1.length : Int) then (if ((rd_T35 t347 x5_1).f0) = 32 then (if x4_1.length < 17592186044416 then (flongref17_Normal.l0 kj8 t347 (x4_1 ++ [(⟨((rd_T35 t347 x5_1).f0), 0⟩ : S35)]) (wrap64 (x5_1 + 1))) else (none)) else (if x4_1.length < 17592186044416 then (flongref17_Normal.l0 kj8 t347 (x4_1 ++ [(⟨((rd_T35 t347 x5_1).f0), (rd_T35 x4_1 (wrap64 (x5_1 - 1))).f1⟩ : S35)]) (wrap64 (x5_1 + 1))) else (none))) else (none)) else (none)) = some r := by rw [if_pos rfl] at H; exact H
        clear H
        have H := H1
        clear H1
        obtain ⟨ji18, hji18⟩ : ∃ j_ : Int, (wrap64 (x5_1 - 1)) = j_ := ⟨_, rfl⟩
        replace H : (if 0 ≤ (ji18) then (if (ji18) < (x4_1.length : Int) then (if ((rd_T35 t347 x5_1).f0) = 32 then (if x4_1.length < 17592186044416 then (flongref17_Normal.l0 kj8 t347 (x4_1 ++ [(⟨((rd_T35 t347 x5_1).f0), 0⟩ : S35)]) (wrap64 (x5_1 + 1))) else (none)) else (if x4_1.length < 17592186044416 then (flongref17_Normal.l0 kj8 t347 (x4_1 ++ [(⟨((rd_T35 t347 x5_1).f0), (rd_T35 x4_1 (ji18)).f1⟩ : S35)]) (wrap64 (x5_1 + 1))) else (none))) else (none)) else (none)) = some r := by first | (rw [hji18] at H; exact H) | (simp only [hji18] at H ⊢; exact H)
        have hji18w : (IntKind.i64.wrap (x5_1 - 1)) = ji18 := (i64_w _).trans hji18
        by_cases c19 : 0 ≤ (ji18)
        ·rw [if_pos c19] at H
         have c19b0 : decide (0 ≤ (ji18)) = true := decide_eq_true c19
         clear c19
         by_cases c20 : (ji18) < (x4_1.length : Int)
         ·rw [if_pos c20] at H
          have c20b0 : decide ((ji18) < (x4_1.length : Int)) = true := decide_eq_true c20
          clear c20
          by_cases c21 : ((rd_T35 t347 x5_1).f0) = 32
          ·rw [if_pos c21] at H
           have c21b0 : (((rd_T35 t347 x5_1).f0) == 32) = true := beq_iff_eq.mpr c21
           have c21b1 : (((rd_T35 t347 x5_1).f0) != 32) = false := bne_eq_false_iff_eq.mpr c21
           clear c21
           by_cases c22 : x4_1.length < 17592186044416
           ·rw [if_pos c22] at H
            have LMc22 := Aside0.mk c22
            clear c22
            obtain ⟨y354, hy354⟩ : ∃ y_ : List (S35), y_ = (x4_1 ++ [(⟨((rd_T35 t347 x5_1).f0), 0⟩ : S35)]) := ⟨_, rfl⟩
            replace H : (flongref17_Normal.l0 kj8 t347 y354 (wrap64 (x5_1 + 1))) = some r := hyA hy354 H
            have Ny354 := Aside0.mk hy354
            clear hy354
            have H' := Aside0.mk H
            clear H
            obtain ⟨Ao23, co23, eo23⟩ := Kd.R_slice HO_4.out
            subst eo23
            have p353 : 0 ≤ ((ji18) : Int) := of_decide_eq_true asA
            have q353 : (ji18) < (x4_1.length : Int) := of_decide_eq_true asA
            obtain ⟨ad353, e353, hx353_0, hx353_1⟩ := at_T35 (Kd.R_reads' HO_4.out).2.2 (ji18) p353 q353
            cases e353
            replace p353 := eq_true p353
            replace q353 := eq_true q353
            have hcz24_0 : wc.cell? ⟨gb351, 0, none⟩ = some (.int .i32 ((rd_T35 t347 x5_1).f0)) := (blk_cell BK351.out 0).trans rfl
            have hcz24_1 : wc.cell? ⟨gb351, 1, none⟩ = some (.int .u8 ((rd_T35 t347 x5_1).f1)) := (blk_cell BK351.out 1).trans rfl
            have hfz24_0 := blk_frozen BK351.out 0
            have hfz24_1 := blk_frozen BK351.out 1
            go_wp2_with (first | ((with_reducible refine gate_builtin (b := .append) (xs := #[.tmp 39, .tmp 41]) rfl ?_); at_builtin; refine Kd.R_append k35 (w0 := w) w.heap.size rfl (.tmp 39) (.tmp 41) 27 35 (.agg #[(.int .i32 0), (.int .u8 0)]) 8 rfl Tryd.underlying27 info35 rfl (by decide) (by omega) (.slice (some ad353) x4_1.length co23) x4_1 (⟨((rd_T35 t347 x5_1).f0), 0⟩ : S35) [.int .i32 ((rd_T35 t347 x5_1).f0), .int .u8 0] (fun k_ => k_ ≠ gb351) (fun _ => False) rfl (by first | (go_simp; done) | (go_simp; rfl)) ?aP (fun _ hk => hk.elim) ?aF ?aO ?aB ?aS ?aL ?_; (case aP => exact k35_mkM _ _ _ (⟨((rd_T35 t347 x5_1).f0), 0⟩ : S35)); (case aB => exact bG); (case aF => exact (fun k_ hk => Kd.freshB (g := gb351) (o := .cells #[.int .i32 ((rd_T35 t347 x5_1).f0), .int .u8 0] 35 (0, 0)) (by (with_reducible repeat (first | refine blk_drewN ?_ _ | refine blk_drew ?_ | refine blk_alloc ?_ _)); refine blk_put (cs := #[.int .i32 ((rd_T35 t347 x5_1).f0), .int .u8 ((rd_T35 x4_1 (ji18)).f1)]) ?_ 1 _ rfl; (with_reducible repeat (first | refine blk_drewN ?_ _ | refine blk_drew ?_ | refine blk_alloc ?_ _)); refine blk_put (cs := #[.int .i32 ((rd_T35 t347 x5_1).f0), .int .u8 ((rd_T35 t347 x5_1).f1)]) ?_ 1 _ rfl; (with_reducible repeat (first | refine blk_drewN ?_ _ | refine blk_drew ?_ | refine blk_alloc ?_ _)); exact BK351.out) k_ hk)); (case aO => exact (by (with_reducible repeat (first | apply Kd.R_alloc | apply Kd.R_drewN | apply Kd.R_drew)); exact Kd.R_mono (Kd.R_far (p := ⟨gb351, 1, none⟩) (Kd.R_far (p := ⟨gb351, 1, none⟩) (Kd.R_mono HO_4.out (fun k_ hk => (⟨hk, hk⟩ : _ ∧ k_ ≠ gb351))) (fun _ hk => hk.2) (.int .u8 ((rd_T35 x4_1 (ji18)).f1))) (fun _ hk => hk.2) (.int .u8 0)) (fun _ hk => hk.1))); (case aS => exact (below_size bG)); (case aL => have := LMc22.out; omega); intro v355 w25 ho hb hg hat; rw [← Ny354.out] at ho; have n0_ := Aside0.mk (Kd.V_afterv (ok := (fun k_ => k_ ≠ gb351)) (by (with_reducible repeat (first | apply Kd.V_alloc | apply Kd.V_drewN | apply Kd.V_drew)); exact Kd.V_mono (Kd.V_far (p := ⟨gb351, 1, none⟩) (Kd.V_far (p := ⟨gb351, 1, none⟩) (Kd.V_mono HO_3.out (fun k_ hk => (⟨hk, hk.2⟩ : _ ∧ k_ ≠ gb351))) (fun _ hk => hk.2) (.int .u8 ((rd_T35 x4_1 (ji18)).f1))) (fun _ hk => hk.2) (.int .u8 0)) (fun _ hk => ⟨hk.1.2, hk.1.1⟩)) hg hat); have n1_ := Aside0.mk (blk_grown (g := gb351) (o := .cells #[.int .i32 ((rd_T35 t347 x5_1).f0), .int .u8 0] 35 (0, 0)) (by (with_reducible repeat (first | refine blk_drewN ?_ _ | refine blk_drew ?_ | refine blk_alloc ?_ _)); refine blk_put (cs := #[.int .i32 ((rd_T35 t347 x5_1).f0), .int .u8 ((rd_T35 x4_1 (ji18)).f1)]) ?_ 1 _ rfl; (with_reducible repeat (first | refine blk_drewN ?_ _ | refine blk_drew ?_ | refine blk_alloc ?_ _)); refine blk_put (cs := #[.int .i32 ((rd_T35 t347 x5_1).f0), .int .u8 ((rd_T35 t347 x5_1).f1)]) ?_ 1 _ rfl; (with_reducible repeat (first | refine blk_drewN ?_ _ | refine blk_drew ?_ | refine blk_alloc ?_ _)); exact BK351.out) hg (Kd.R_away HO_4.out (fun _ hk => hk))); have n2_ := Aside0.mk (hb); have n3_ := Aside0.mk (ho); clear HO_3; clear BK351; clear HB; clear HO_4; have HO_3 := n0_; have BK351 := n1_; have HB := n2_; have HO356 := n3_; clear n0_ n1_ n2_ n3_; clear ho hb hg hat))
            go_roundg kj8
            case measure => have := HK1.out; have := HJ8.out; omega
            case rel => exact ⟨(y354), (wrap64 (x5_1 + 1)), sA, H', ⟨by have := HK1.out; have := HJ8.out; omega⟩, ⟨by (with_reducible repeat (first | apply Kd.V_alloc | apply Kd.V_drewN | apply Kd.V_drew)); exact Kd.V_mono HO_3.out (fun _ hk => hk.2)⟩, ⟨by (with_reducible repeat (first | apply Kd.R_alloc | apply Kd.R_drewN | apply Kd.R_drew)); exact Kd.R_mono HO356.out (fun _ hk => trivial)⟩, ⟨bG⟩⟩
           ·rw [if_neg c22] at H
            exact absurd H (by simp)
          ·rw [if_neg c21] at H
           have c21b0 : (((rd_T35 t347 x5_1).f0) == 32) = false := beq_eq_false_iff_ne.mpr c21
           have c21b1 : (((rd_T35 t347 x5_1).f0) != 32) = true := bne_iff_ne.mpr c21
           by_cases c26 : x4_1.length < 17592186044416
           ·rw [if_pos c26] at H
            have LMc26 := Aside0.mk c26
            clear c26
            obtain ⟨y357, hy357⟩ : ∃ y_ : List (S35), y_ = (x4_1 ++ [(⟨((rd_T35 t347 x5_1).f0), (rd_T35 x4_1 (ji18)).f1⟩ : S35)]) := ⟨_, rfl⟩
            replace H : (flongref17_Normal.l0 kj8 t347 y357 (wrap64 (x5_1 + 1))) = some r := hyA hy357 H
            have Ny357 := Aside0.mk hy357
            clear hy357
            have H' := Aside0.mk H
            clear H
            obtain ⟨Ao27, co27, eo27⟩ := Kd.R_slice HO_4.out
            subst eo27
            have p353 : 0 ≤ ((ji18) : Int) := of_decide_eq_true asA
            have q353 : (ji18) < (x4_1.length : Int) := of_decide_eq_true asA
            obtain ⟨ad353, e353, hx353_0, hx353_1⟩ := at_T35 (Kd.R_reads' HO_4.out).2.2 (ji18) p353 q353
            cases e353
            replace p353 := eq_true p353
            replace q353 := eq_true q353
            have hcz28_0 : wc.cell? ⟨gb351, 0, none⟩ = some (.int .i32 ((rd_T35 t347 x5_1).f0)) := (blk_cell BK351.out 0).trans rfl
            have hcz28_1 : wc.cell? ⟨gb351, 1, none⟩ = some (.int .u8 ((rd_T35 t347 x5_1).f1)) := (blk_cell BK351.out 1).trans rfl
            have hfz28_0 := blk_frozen BK351.out 0
            have hfz28_1 := blk_frozen BK351.out 1
            go_wp2_with (first | ((with_reducible refine gate_builtin (b := .append) (xs := #[.tmp 39, .tmp 41]) rfl ?_); at_builtin; refine Kd.R_append k35 (w0 := w) w.heap.size rfl (.tmp 39) (.tmp 41) 27 35 (.agg #[(.int .i32 0), (.int .u8 0)]) 8 rfl Tryd.underlying27 info35 rfl (by decide) (by omega) (.slice (some ad353) x4_1.length co27) x4_1 (⟨((rd_T35 t347 x5_1).f0), (rd_T35 x4_1 (ji18)).f1⟩ : S35) [.int .i32 ((rd_T35 t347 x5_1).f0), .int .u8 ((rd_T35 x4_1 (ji18)).f1)] (fun k_ => k_ ≠ gb351) (fun _ => False) rfl (by first | (go_simp; done) | (go_simp; rfl)) ?aP (fun _ hk => hk.elim) ?aF ?aO ?aB ?aS ?aL ?_; (case aP => exact k35_mkM _ _ _ (⟨((rd_T35 t347 x5_1).f0), (rd_T35 x4_1 (ji18)).f1⟩ : S35)); (case aB => exact bG); (case aF => exact (fun k_ hk => Kd.freshB (g := gb351) (o := .cells #[.int .i32 ((rd_T35 t347 x5_1).f0), .int .u8 ((rd_T35 x4_1 (ji18)).f1)] 35 (0, 0)) (by (with_reducible repeat (first | refine blk_drewN ?_ _ | refine blk_drew ?_ | refine blk_alloc ?_ _)); refine blk_put (cs := #[.int .i32 ((rd_T35 t347 x5_1).f0), .int .u8 ((rd_T35 t347 x5_1).f1)]) ?_ 1 _ rfl; (with_reducible repeat (first | refine blk_drewN ?_ _ | refine blk_drew ?_ | refine blk_alloc ?_ _)); exact BK351.out) k_ hk)); (case aO => exact (by (with_reducible repeat (first | apply Kd.R_alloc | apply Kd.R_drewN | apply Kd.R_drew)); exact Kd.R_mono (Kd.R_far (p := ⟨gb351, 1, none⟩) (Kd.R_mono HO_4.out (fun k_ hk => (⟨hk, hk⟩ : _ ∧ k_ ≠ gb351))) (fun _ hk => hk.2) (.int .u8 ((rd_T35 x4_1 (ji18)).f1))) (fun _ hk => hk.1))); (case aS => exact (below_size bG)); (case aL => have := LMc26.out; omega); intro v358 w29 ho hb hg hat; rw [← Ny357.out] at ho; have n0_ := Aside0.mk (Kd.V_afterv (ok := (fun k_ => k_ ≠ gb351)) (by (with_reducible repeat (first | apply Kd.V_alloc | apply Kd.V_drewN | apply Kd.V_drew)); exact Kd.V_mono (Kd.V_far (p := ⟨gb351, 1, none⟩) (Kd.V_mono HO_3.out (fun k_ hk => (⟨hk, hk.2⟩ : _ ∧ k_ ≠ gb351))) (fun _ hk => hk.2) (.int .u8 ((rd_T35 x4_1 (ji18)).f1))) (fun _ hk => ⟨hk.1.2, hk.1.1⟩)) hg hat); have n1_ := Aside0.mk (blk_grown (g := gb351) (o := .cells #[.int .i32 ((rd_T35 t347 x5_1).f0), .int .u8 ((rd_T35 x4_1 (ji18)).f1)] 35 (0, 0)) (by (with_reducible repeat (first | refine blk_drewN ?_ _ | refine blk_drew ?_ | refine blk_alloc ?_ _)); refine blk_put (cs := #[.int .i32 ((rd_T35 t347 x5_1).f0), .int .u8 ((rd_T35 t347 x5_1).f1)]) ?_ 1 _ rfl; (with_reducible repeat (first | refine blk_drewN ?_ _ | refine blk_drew ?_ | refine blk_alloc ?_ _)); exact BK351.out) hg (Kd.R_away HO_4.out (fun _ hk => hk))); have n2_ := Aside0.mk (hb); have n3_ := Aside0.mk (ho); clear HO_3; clear BK351; clear HB; clear HO_4; have HO_3 := n0_; have BK351 := n1_; have HB := n2_; have HO359 := n3_; clear n0_ n1_ n2_ n3_; clear ho hb hg hat))
            go_roundg kj8
            case measure => have := HK1.out; have := HJ8.out; omega
            case rel => exact ⟨(y357), (wrap64 (x5_1 + 1)), sA, H', ⟨by have := HK1.out; have := HJ8.out; omega⟩, ⟨by (with_reducible repeat (first | apply Kd.V_alloc | apply Kd.V_drewN | apply Kd.V_drew)); exact Kd.V_mono HO_3.out (fun _ hk => hk.2)⟩, ⟨by (with_reducible repeat (first | apply Kd.R_alloc | apply Kd.R_drewN | apply Kd.R_drew)); exact Kd.R_mono HO359.out (fun _ hk => trivial)⟩, ⟨bG⟩⟩
           ·rw [if_neg c26] at H
            exact absurd H (by simp)
         ·rw [if_neg c20] at H
          exact absurd H (by simp)
        ·rw [if_neg c19] at H
         exact absurd H (by simp)
       ·replace c17 := Bool.eq_false_iff.mpr c17
        subst c17
        have H1 : (if ((rd_T35 t347 x5_1).f0) = 32 then (if x4_1.length < 17592186044416 then (flongref17_Normal.l0 kj8 t347 (x4_1 ++ [(⟨((rd_T35 t347 x5_1).f0), 0⟩ : S35)]) (wrap64 (x5_1 + 1))) else (none)) else (if x4_1.length < 17592186044416 then (flongref17_Normal.l0 kj8 t347 (x4_1 ++ [(⟨((rd_T35 t347 x5_1).f0), ((rd_T35 t347 x5_1).f1)⟩ : S35)]) (wrap64 (x5_1 + 1))) else (none))) = some r := by rw [if_neg (show ¬ (false = true) by decide)] at H; exact H
        clear H
        have H := H1
        clear H1
        by_cases c30 : ((rd_T35 t347 x5_1).f0) = 32
        ·rw [if_pos c30] at H
         have c30b0 : (((rd_T35 t347 x5_1).f0) == 32) = true := beq_iff_eq.mpr c30
         have c30b1 : (((rd_T35 t347 x5_1).f0) != 32) = false := bne_eq_false_iff_eq.mpr c30
         clear c30
         by_cases c31 : x4_1.length < 17592186044416
         ·rw [if_pos c31] at H
          have LMc31 := Aside0.mk c31
          clear c31
          obtain ⟨y360, hy360⟩ : ∃ y_ : List (S35), y_ = (x4_1 ++ [(⟨((rd_T35 t347 x5_1).f0), 0⟩ : S35)]) := ⟨_, rfl⟩
          replace H : (flongref17_Normal.l0 kj8 t347 y360 (wrap64 (x5_1 + 1))) = some r := hyA hy360 H
          have Ny360 := Aside0.mk hy360
          clear hy360
          have H' := Aside0.mk H
          clear H
          have hcz32_0 : wc.cell? ⟨gb351, 0, none⟩ = some (.int .i32 ((rd_T35 t347 x5_1).f0)) := (blk_cell BK351.out 0).trans rfl
          have hcz32_1 : wc.cell? ⟨gb351, 1, none⟩ = some (.int .u8 ((rd_T35 t347 x5_1).f1)) := (blk_cell BK351.out 1).trans rfl
          have hfz32_0 := blk_frozen BK351.out 0
          have hfz32_1 := blk_frozen BK351.out 1
          go_wp2_with (first | ((with_reducible refine gate_builtin (b := .append) (xs := #[.tmp 39, .tmp 41]) rfl ?_); at_builtin; refine Kd.R_append k35 (w0 := w) w.heap.size rfl (.tmp 39) (.tmp 41) 27 35 (.agg #[(.int .i32 0), (.int .u8 0)]) 8 rfl Tryd.underlying27 info35 rfl (by decide) (by omega) u4 x4_1 (⟨((rd_T35 t347 x5_1).f0), 0⟩ : S35) [.int .i32 ((rd_T35 t347 x5_1).f0), .int .u8 0] (fun k_ => k_ ≠ gb351) (fun _ => False) rfl (by first | (go_simp; done) | (go_simp; rfl)) ?aP (fun _ hk => hk.elim) ?aF ?aO ?aB ?aS ?aL ?_; (case aP => exact k35_mkM _ _ _ (⟨((rd_T35 t347 x5_1).f0), 0⟩ : S35)); (case aB => exact bG); (case aF => exact (fun k_ hk => Kd.freshB (g := gb351) (o := .cells #[.int .i32 ((rd_T35 t347 x5_1).f0), .int .u8 0] 35 (0, 0)) (by (with_reducible repeat (first | refine blk_drewN ?_ _ | refine blk_drew ?_ | refine blk_alloc ?_ _)); refine blk_put (cs := #[.int .i32 ((rd_T35 t347 x5_1).f0), .int .u8 ((rd_T35 t347 x5_1).f1)]) ?_ 1 _ rfl; (with_reducible repeat (first | refine blk_drewN ?_ _ | refine blk_drew ?_ | refine blk_alloc ?_ _)); exact BK351.out) k_ hk)); (case aO => exact (by (with_reducible repeat (first | apply Kd.R_alloc | apply Kd.R_drewN | apply Kd.R_drew)); exact Kd.R_mono (Kd.R_far (p := ⟨gb351, 1, none⟩) (Kd.R_mono HO_4.out (fun k_ hk => (⟨hk, hk⟩ : _ ∧ k_ ≠ gb351))) (fun _ hk => hk.2) (.int .u8 0)) (fun _ hk => hk.1))); (case aS => exact (below_size bG)); (case aL => have := LMc31.out; omega); intro v361 w33 ho hb hg hat; rw [← Ny360.out] at ho; have n0_ := Aside0.mk (Kd.V_afterv (ok := (fun k_ => k_ ≠ gb351)) (by (with_reducible repeat (first | apply Kd.V_alloc | apply Kd.V_drewN | apply Kd.V_drew)); exact Kd.V_mono (Kd.V_far (p := ⟨gb351, 1, none⟩) (Kd.V_mono HO_3.out (fun k_ hk => (⟨hk, hk.2⟩ : _ ∧ k_ ≠ gb351))) (fun _ hk => hk.2) (.int .u8 0)) (fun _ hk => ⟨hk.1.2, hk.1.1⟩)) hg hat); have n1_ := Aside0.mk (blk_grown (g := gb351) (o := .cells #[.int .i32 ((rd_T35 t347 x5_1).f0), .int .u8 0] 35 (0, 0)) (by (with_reducible repeat (first | refine blk_drewN ?_ _ | refine blk_drew ?_ | refine blk_alloc ?_ _)); refine blk_put (cs := #[.int .i32 ((rd_T35 t347 x5_1).f0), .int .u8 ((rd_T35 t347 x5_1).f1)]) ?_ 1 _ rfl; (with_reducible repeat (first | refine blk_drewN ?_ _ | refine blk_drew ?_ | refine blk_alloc ?_ _)); exact BK351.out) hg (Kd.R_away HO_4.out (fun _ hk => hk))); have n2_ := Aside0.mk (hb); have n3_ := Aside0.mk (ho); clear HO_3; clear BK351; clear HB; clear HO_4; have HO_3 := n0_; have BK351 := n1_; have HB := n2_; have HO362 := n3_; clear n0_ n1_ n2_ n3_; clear ho hb hg hat))
          go_roundg kj8
          case measure => have := HK1.out; have := HJ8.out; omega
          case rel => exact ⟨(y360), (wrap64 (x5_1 + 1)), sA, H', ⟨by have := HK1.out; have := HJ8.out; omega⟩, ⟨by (with_reducible repeat (first | apply Kd.V_alloc | apply Kd.V_drewN | apply Kd.V_drew)); exact Kd.V_mono HO_3.out (fun _ hk => hk.2)⟩, ⟨by (with_reducible repeat (first | apply Kd.R_alloc | apply Kd.R_drewN | apply Kd.R_drew)); exact Kd.R_mono HO362.out (fun _ hk => trivial)⟩, ⟨bG⟩⟩
         ·rw [if_neg c31] at H
          exact absurd H (by simp)
        ·rw [if_neg c30] at H
         have c30b0 : (((rd_T35 t347 x5_1).f0) == 32) = false := beq_eq_false_iff_ne.mpr c30
         have c30b1 : (((rd_T35 t347 x5_1).f0) != 32) = true := bne_iff_ne.mpr c30
         by_cases c34 : x4_1.length < 17592186044416
         ·rw [if_pos c34] at H
          have LMc34 := Aside0.mk c34
          clear c34
          obtain ⟨y363, hy363⟩ : ∃ y_ : List (S35), y_ = (x4_1 ++ [(⟨((rd_T35 t347 x5_1).f0), ((rd_T35 t347 x5_1).f1)⟩ : S35)]) := ⟨_, rfl⟩
          replace H : (flongref17_Normal.l0 kj8 t347 y363 (wrap64 (x5_1 + 1))) = some r := hyA hy363 H
          have Ny363 := Aside0.mk hy363
          clear hy363
          have H' := Aside0.mk H
          clear H
          have hcz35_0 : wc.cell? ⟨gb351, 0, none⟩ = some (.int .i32 ((rd_T35 t347 x5_1).f0)) := (blk_cell BK351.out 0).trans rfl
          have hcz35_1 : wc.cell? ⟨gb351, 1, none⟩ = some (.int .u8 ((rd_T35 t347 x5_1).f1)) := (blk_cell BK351.out 1).trans rfl
          have hfz35_0 := blk_frozen BK351.out 0
          have hfz35_1 := blk_frozen BK351.out 1
          go_wp2_with (first | ((with_reducible refine gate_builtin (b := .append) (xs := #[.tmp 39, .tmp 41]) rfl ?_); at_builtin; refine Kd.R_append k35 (w0 := w) w.heap.size rfl (.tmp 39) (.tmp 41) 27 35 (.agg #[(.int .i32 0), (.int .u8 0)]) 8 rfl Tryd.underlying27 info35 rfl (by decide) (by omega) u4 x4_1 (⟨((rd_T35 t347 x5_1).f0), ((rd_T35 t347 x5_1).f1)⟩ : S35) [.int .i32 ((rd_T35 t347 x5_1).f0), .int .u8 ((rd_T35 t347 x5_1).f1)] (fun k_ => k_ ≠ gb351) (fun _ => False) rfl rfl ?aP (fun _ hk => hk.elim) ?aF ?aO ?aB ?aS ?aL ?_; (case aP => exact k35_mkM _ _ _ (⟨((rd_T35 t347 x5_1).f0), ((rd_T35 t347 x5_1).f1)⟩ : S35)); (case aB => exact bG); (case aF => exact (fun k_ hk => Kd.freshB (g := gb351) (o := .cells #[.int .i32 ((rd_T35 t347 x5_1).f0), .int .u8 ((rd_T35 t347 x5_1).f1)] 35 (0, 0)) (kB BK351) k_ hk)); (case aO => exact (kR HO_4)); (case aS => exact (below_size bG)); (case aL => have := LMc34.out; omega); intro v364 w36 ho hb hg hat; rw [← Ny363.out] at ho; have n0_ := Aside0.mk (Kd.V_afterv (ok := (fun k_ => k_ ≠ gb351)) (by (with_reducible repeat (first | apply Kd.V_alloc | apply Kd.V_drewN | apply Kd.V_drew)); exact Kd.V_mono HO_3.out (fun _ hk => ⟨hk.2, hk.1⟩)) hg hat); have n1_ := Aside0.mk (blk_grown (g := gb351) (o := .cells #[.int .i32 ((rd_T35 t347 x5_1).f0), .int .u8 ((rd_T35 t347 x5_1).f1)] 35 (0, 0)) (kB BK351) hg (Kd.R_away HO_4.out (fun _ hk => hk))); have n2_ := Aside0.mk (hb); have n3_ := Aside0.mk (ho); clear HO_3; clear BK351; clear HB; clear HO_4; have HO_3 := n0_; have BK351 := n1_; have HB := n2_; have HO365 := n3_; clear n0_ n1_ n2_ n3_; clear ho hb hg hat))
          go_roundg kj8
          case measure => have := HK1.out; have := HJ8.out; omega
          case rel => exact ⟨(y363), (wrap64 (x5_1 + 1)), sA, H', ⟨by have := HK1.out; have := HJ8.out; omega⟩, ⟨by (with_reducible repeat (first | apply Kd.V_alloc | apply Kd.V_drewN | apply Kd.V_drew)); exact Kd.V_mono HO_3.out (fun _ hk => hk.2)⟩, ⟨by (with_reducible repeat (first | apply Kd.R_alloc | apply Kd.R_drewN | apply Kd.R_drew)); exact Kd.R_mono HO365.out (fun _ hk => trivial)⟩, ⟨bG⟩⟩
         ·rw [if_neg c34] at H
          exact absurd H (by simp)
    ·rw [if_neg c8] at H
     exact absurd H (by simp)
   ·rw [if_neg c7] at H
    have c7b0 : decide (x5_1 < (t347.length : Int)) = false := decide_eq_false c7
    clear c7
    obtain rfl := Option.some.inj H
    obtain ⟨Ao37, co37, eo37⟩ := Kd.V_slice HO_3.out
    subst eo37
    go_wp2
    go_ret
    exact ⟨_, eW, kR HO_4, bA⟩

/-! ### flongref02_One: function 28 -/
def flongref02_One.j0 : Nat → Int → Option (List Int)
 | 0, _ => none
 | k + 1, x3 => if x3 < 128 then (some (([(x3) % 256] : List Int))) else (if x3 < 2048 then (some (([(wrap64 (192 + (wrap64 (Int.tdiv x3 64)))) % 256, (wrap64 (128 + (Int.tmod x3 64))) % 256] : List Int))) else (if x3 < 65536 then (some (([(wrap64 (224 + (wrap64 (Int.tdiv x3 4096)))) % 256, (wrap64 (128 + (Int.tmod (wrap64 (Int.tdiv x3 64)) 64))) % 256, (wrap64 (128 + (Int.tmod x3 64))) % 256] : List Int))) else (some (([(wrap64 (240 + (wrap64 (Int.tdiv x3 262144)))) % 256, (wrap64 (128 + (Int.tmod (wrap64 (Int.tdiv x3 4096)) 64))) % 256, (wrap64 (128 + (Int.tmod (wrap64 (Int.tdiv x3 64)) 64))) % 256, (wrap64 (128 + (Int.tmod x3 64))) % 256] : List Int)))))
def flongref02_One.f (k : Nat) (a0 : Int) : Option (List Int) := (flongref02_Valid.f a0).bind fun t366 => (if t366 = true then (flongref02_One.j0 k (wrap64 (a0))) else (flongref02_One.j0 k 65533))
theorem flongref02_One.mono_l : ∀ k, (∀ y0, LeO (flongref02_One.j0 k y0) (flongref02_One.j0 (k + 1) y0))
 | 0 => fun _ r h => by simp [flongref02_One.j0] at h
 | k + 1 => by
  have ih0 := flongref02_One.mono_l k
  ·intro y0
   unfold flongref02_One.j0
   repeat' first
   | (with_reducible exact ih0 _)
   | (with_reducible exact LeO.refl _)
   | (with_reducible exact LeO.none _)
   | (with_reducible refine LeO.ite ?_ ?_)
   | (with_reducible refine LeO.bind ?_ (fun _ => ?_))
theorem flongref02_One.mono : ∀ a0 k, LeO (flongref02_One.f k a0) (flongref02_One.f (k + 1) a0) := by
 intro a0 k
 have ih0 := flongref02_One.mono_l k
 unfold flongref02_One.f
 repeat' first
   | (with_reducible exact ih0 _)
   | (with_reducible exact LeO.refl _)
   | (with_reducible exact LeO.none _)
   | (with_reducible refine LeO.ite ?_ ?_)
   | (with_reducible refine LeO.bind ?_ (fun _ => ?_))
theorem flongref02_One.calls (k : Nat) (a0 : Int) (r : List Int) (w : World) (h : flongref02_One.f k a0 = some r) :
  Calls Tryd.prog 28 #[.int .i32 a0] w fun e w' => ∃ v0_ : Value, e = .returned (v0_) ∧ Kd.R (Kd.int .u8) 5 w' w.heap.size (fun _ => True) v0_ r ∧ Below w.heap.size w w' := by
 have HB := Aside0.mk (Below.refl w.heap.size w)
 have H : ((flongref02_Valid.f a0).bind fun t366 => (if t366 = true then (flongref02_One.j0 k (wrap64 (a0))) else (flongref02_One.j0 k 65533))) = some r := h
 clear h
 replace H := Option.bind_eq_some_iff.mp H
 obtain ⟨t366, A20, H⟩ := H
 replace H : (if t366 = true then (flongref02_One.j0 k (wrap64 (a0))) else (flongref02_One.j0 k 65533)) = some r := H
 have A2 := Aside0.mk A20
 clear A20
 have HC3 := Aside0.mk H
 clear H
 go_enter Tryd.func28, Tryd.ntmps28
 go_upto_if 8 with (first | ((with_reducible refine gate_callee (f := 55) rfl ?_); refine goesL_ (some 7) rfl rfl Tryd.func55 (by kernel_rfl) rfl #[.int .i32 a0] rfl aP ?_; (with_reducible refine (flongref02_Valid.calls a0 t366 _ A2.out).mono ?_); rintro e w' ⟨rfl, ⟨nd, rfl⟩⟩; refine ⟨_, rfl, ?_⟩))
 (try simp only [Act.put, List.setIfInBounds_toArray, List.set_cons_zero, List.set_cons_succ])
 go_cut [3] (fun v3 wc => ∃ (kq : Nat) (x3_2 : Int), v3 = .int .i64 x3_2 ∧ Aside0 (flongref02_One.j0 kq x3_2 = some r) ∧ Aside0 (kq ≤ k) ∧ Aside0 (Below w.heap.size w wc))
 case first =>
  have H := HC3.out
  clear HC3
  by_cases c4 : t366 = true
  ·subst c4
   have H1 : (flongref02_One.j0 k (wrap64 (a0))) = some r := by rw [if_pos rfl] at H; exact H
   clear H
   have H := H1
   clear H1
   have H' := Aside0.mk H
   clear H
   go_wp2
   go_meet
   case rel => exact ⟨_, (wrap64 (a0)), sA, H', ⟨by first | omega | exact Nat.le_refl _⟩, ⟨bA⟩⟩
  ·replace c4 := Bool.eq_false_iff.mpr c4
   subst c4
   have H1 : (flongref02_One.j0 k 65533) = some r := by rw [if_neg (show ¬ (false = true) by decide)] at H; exact H
   clear H
   have H := H1
   clear H1
   have H' := Aside0.mk H
   clear H
   go_wp2
   go_meet
   case rel => exact ⟨_, (65533), sA, H', ⟨by first | omega | exact Nat.le_refl _⟩, ⟨bA⟩⟩
 case rest =>
  clear HC3
  try clear c2
  try clear p2
  try clear c4
  obtain ⟨kq, x3_2, rfl, HA, HJ2, HB⟩ := hcut
  cases kq with
  | zero => exact absurd HA.out (by simp [flongref02_One.j0])
  | succ kj2 =>
   have H := HA.out
   clear HA
   simp only [flongref02_One.j0] at H
   by_cases c5 : x3_2 < 128
   ·rw [if_pos c5] at H
    have c5b0 : decide (x3_2 < 128) = true := decide_eq_true c5
    clear c5
    obtain ⟨y367, hy367⟩ : ∃ y_ : List Int, y_ = (([(x3_2) % 256] : List Int)) := ⟨_, rfl⟩
    replace H : (some y367) = some r := hyA hy367 H
    have Ny367 := Aside0.mk hy367
    clear hy367
    obtain rfl := Option.some.inj H
    go_wp2_with (first | ((with_reducible refine gate_dst (N := 13) rfl ?_); refine Kd.R_lit (Kd.int .u8) _ 5 ?hg (N := 13) ?hd (xs := ([(x3_2) % 256] : List Int)) (inner := [.int .u8 ((x3_2) % 256)]) (ok := fun _ => True) (okp := fun _ => True) ?hr ?hp (fun _ hk => hk) trivial (Below.refl _ _) (Nat.le_refl _) (by simp) ?_; (case hd => rfl); (case hg => rfl); (case hr => first | (go_simp; done) | (go_simp; rfl)); (case hp => exact (Reps.one (show Kd.M (Kd.int .u8) _ _ _ ((x3_2) % 256) [.int .u8 ((x3_2) % 256)] from rfl) (Reps.none _ _))); intro v368 w6 ho7 hb hg_ hnew_; clear hg_ hnew_; (first | rw [← Ny367.out] at ho7 | (simp only [Int.reduceToNat] at ho7; rw [← Ny367.out] at ho7)); have HO369 := Aside0.mk (Kd.R_lower ho7 (below_size bA)); replace HB := Aside0.mk (below_step bA hb); clear hb ho7))
    go_ret
    exact ⟨_, eW, kR HO369, bA⟩
   ·rw [if_neg c5] at H
    have c5b0 : decide (x3_2 < 128) = false := decide_eq_false c5
    clear c5
    by_cases c8 : x3_2 < 2048
    ·rw [if_pos c8] at H
     have c8b0 : decide (x3_2 < 2048) = true := decide_eq_true c8
     clear c8
     obtain ⟨y370, hy370⟩ : ∃ y_ : List Int, y_ = (([(wrap64 (192 + (wrap64 (Int.tdiv x3_2 64)))) % 256, (wrap64 (128 + (Int.tmod x3_2 64))) % 256] : List Int)) := ⟨_, rfl⟩
     replace H : (some y370) = some r := hyA hy370 H
     have Ny370 := Aside0.mk hy370
     clear hy370
     obtain rfl := Option.some.inj H
     go_wp2_with (first | ((with_reducible refine gate_dst (N := 24) rfl ?_); refine Kd.R_lit (Kd.int .u8) _ 5 ?hg (N := 24) ?hd (xs := ([(wrap64 (192 + (wrap64 (Int.tdiv x3_2 64)))) % 256, (wrap64 (128 + (Int.tmod x3_2 64))) % 256] : List Int)) (inner := [.int .u8 ((wrap64 (192 + (wrap64 (Int.tdiv x3_2 64)))) % 256), .int .u8 ((wrap64 (128 + (Int.tmod x3_2 64))) % 256)]) (ok := fun _ => True) (okp := fun _ => True) ?hr ?hp (fun _ hk => hk) trivial (Below.refl _ _) (Nat.le_refl _) (by simp) ?_; (case hd => rfl); (case hg => rfl); (case hr => first | (go_simp; done) | (go_simp; rfl)); (case hp => exact (Reps.one (show Kd.M (Kd.int .u8) _ _ _ ((wrap64 (192 + (wrap64 (Int.tdiv x3_2 64)))) % 256) [.int .u8 ((wrap64 (192 + (wrap64 (Int.tdiv x3_2 64)))) % 256)] from rfl) (Reps.one (show Kd.M (Kd.int .u8) _ _ _ ((wrap64 (128 + (Int.tmod x3_2 64))) % 256) [.int .u8 ((wrap64 (128 + (Int.tmod x3_2 64))) % 256)] from rfl) (Reps.none _ _)))); intro v371 w9 ho10 hb hg_ hnew_; clear hg_ hnew_; (first | rw [← Ny370.out] at ho10 | (simp only [Int.reduceToNat] at ho10; rw [← Ny370.out] at ho10)); have HO372 := Aside0.mk (Kd.R_lower ho10 (below_size bA)); replace HB := Aside0.mk (below_step bA hb); clear hb ho10))
     go_ret
     exact ⟨_, eW, kR HO372, bA⟩
    ·rw [if_neg c8] at H
     have c8b0 : decide (x3_2 < 2048) = false := decide_eq_false c8
     clear c8
     by_cases c11 : x3_2 < 65536
     ·rw [if_pos c11] at H
      have c11b0 : decide (x3_2 < 65536) = true := decide_eq_true c11
      clear c11
      obtain ⟨y373, hy373⟩ : ∃ y_ : List Int, y_ = (([(wrap64 (224 + (wrap64 (Int.tdiv x3_2 4096)))) % 256, (wrap64 (128 + (Int.tmod (wrap64 (Int.tdiv x3_2 64)) 64))) % 256, (wrap64 (128 + (Int.tmod x3_2 64))) % 256] : List Int)) := ⟨_, rfl⟩
      replace H : (some y373) = some r := hyA hy373 H
      have Ny373 := Aside0.mk hy373
      clear hy373
      obtain rfl := Option.some.inj H
      go_wp2_with (first | ((with_reducible refine gate_dst (N := 40) rfl ?_); refine Kd.R_lit (Kd.int .u8) _ 5 ?hg (N := 40) ?hd (xs := ([(wrap64 (224 + (wrap64 (Int.tdiv x3_2 4096)))) % 256, (wrap64 (128 + (Int.tmod (wrap64 (Int.tdiv x3_2 64)) 64))) % 256, (wrap64 (128 + (Int.tmod x3_2 64))) % 256] : List Int)) (inner := [.int .u8 ((wrap64 (224 + (wrap64 (Int.tdiv x3_2 4096)))) % 256), .int .u8 ((wrap64 (128 + (Int.tmod (wrap64 (Int.tdiv x3_2 64)) 64))) % 256), .int .u8 ((wrap64 (128 + (Int.tmod x3_2 64))) % 256)]) (ok := fun _ => True) (okp := fun _ => True) ?hr ?hp (fun _ hk => hk) trivial (Below.refl _ _) (Nat.le_refl _) (by simp) ?_; (case hd => rfl); (case hg => rfl); (case hr => first | (go_simp; done) | (go_simp; rfl)); (case hp => exact (Reps.one (show Kd.M (Kd.int .u8) _ _ _ ((wrap64 (224 + (wrap64 (Int.tdiv x3_2 4096)))) % 256) [.int .u8 ((wrap64 (224 + (wrap64 (Int.tdiv x3_2 4096)))) % 256)] from rfl) (Reps.one (show Kd.M (Kd.int .u8) _ _ _ ((wrap64 (128 + (Int.tmod (wrap64 (Int.tdiv x3_2 64)) 64))) % 256) [.int .u8 ((wrap64 (128 + (Int.tmod (wrap64 (Int.tdiv x3_2 64)) 64))) % 256)] from rfl) (Reps.one (show Kd.M (Kd.int .u8) _ _ _ ((wrap64 (128 + (Int.tmod x3_2 64))) % 256) [.int .u8 ((wrap64 (128 + (Int.tmod x3_2 64))) % 256)] from rfl) (Reps.none _ _))))); intro v374 w12 ho13 hb hg_ hnew_; clear hg_ hnew_; (first | rw [← Ny373.out] at ho13 | (simp only [Int.reduceToNat] at ho13; rw [← Ny373.out] at ho13)); have HO375 := Aside0.mk (Kd.R_lower ho13 (below_size bA)); replace HB := Aside0.mk (below_step bA hb); clear hb ho13))
      go_ret
      exact ⟨_, eW, kR HO375, bA⟩
     ·rw [if_neg c11] at H
      have c11b0 : decide (x3_2 < 65536) = false := decide_eq_false c11
      clear c11
      obtain ⟨y376, hy376⟩ : ∃ y_ : List Int, y_ = (([(wrap64 (240 + (wrap64 (Int.tdiv x3_2 262144)))) % 256, (wrap64 (128 + (Int.tmod (wrap64 (Int.tdiv x3_2 4096)) 64))) % 256, (wrap64 (128 + (Int.tmod (wrap64 (Int.tdiv x3_2 64)) 64))) % 256, (wrap64 (128 + (Int.tmod x3_2 64))) % 256] : List Int)) := ⟨_, rfl⟩
      replace H : (some y376) = some r := hyA hy376 H
      have Ny376 := Aside0.mk hy376
      clear hy376
      obtain rfl := Option.some.inj H
      go_wp2_with (first | ((with_reducible refine gate_dst (N := 59) rfl ?_); refine Kd.R_lit (Kd.int .u8) _ 5 ?hg (N := 59) ?hd (xs := ([(wrap64 (240 + (wrap64 (Int.tdiv x3_2 262144)))) % 256, (wrap64 (128 + (Int.tmod (wrap64 (Int.tdiv x3_2 4096)) 64))) % 256, (wrap64 (128 + (Int.tmod (wrap64 (Int.tdiv x3_2 64)) 64))) % 256, (wrap64 (128 + (Int.tmod x3_2 64))) % 256] : List Int)) (inner := [.int .u8 ((wrap64 (240 + (wrap64 (Int.tdiv x3_2 262144)))) % 256), .int .u8 ((wrap64 (128 + (Int.tmod (wrap64 (Int.tdiv x3_2 4096)) 64))) % 256), .int .u8 ((wrap64 (128 + (Int.tmod (wrap64 (Int.tdiv x3_2 64)) 64))) % 256), .int .u8 ((wrap64 (128 + (Int.tmod x3_2 64))) % 256)]) (ok := fun _ => True) (okp := fun _ => True) ?hr ?hp (fun _ hk => hk) trivial (Below.refl _ _) (Nat.le_refl _) (by simp) ?_; (case hd => rfl); (case hg => rfl); (case hr => first | (go_simp; done) | (go_simp; rfl)); (case hp => exact (Reps.one (show Kd.M (Kd.int .u8) _ _ _ ((wrap64 (240 + (wrap64 (Int.tdiv x3_2 262144)))) % 256) [.int .u8 ((wrap64 (240 + (wrap64 (Int.tdiv x3_2 262144)))) % 256)] from rfl) (Reps.one (show Kd.M (Kd.int .u8) _ _ _ ((wrap64 (128 + (Int.tmod (wrap64 (Int.tdiv x3_2 4096)) 64))) % 256) [.int .u8 ((wrap64 (128 + (Int.tmod (wrap64 (Int.tdiv x3_2 4096)) 64))) % 256)] from rfl) (Reps.one (show Kd.M (Kd.int .u8) _ _ _ ((wrap64 (128 + (Int.tmod (wrap64 (Int.tdiv x3_2 64)) 64))) % 256) [.int .u8 ((wrap64 (128 + (Int.tmod (wrap64 (Int.tdiv x3_2 64)) 64))) % 256)] from rfl) (Reps.one (show Kd.M (Kd.int .u8) _ _ _ ((wrap64 (128 + (Int.tmod x3_2 64))) % 256) [.int .u8 ((wrap64 (128 + (Int.tmod x3_2 64))) % 256)] from rfl) (Reps.none _ _)))))); intro v377 w14 ho15 hb hg_ hnew_; clear hg_ hnew_; (first | rw [← Ny376.out] at ho15 | (simp only [Int.reduceToNat] at ho15; rw [← Ny376.out] at ho15)); have HO378 := Aside0.mk (Kd.R_lower ho15 (below_size bA)); replace HB := Aside0.mk (below_step bA hb); clear hb ho15))
      go_ret
      exact ⟨_, eW, kR HO378, bA⟩

/-! ### flongref18_times: function 66 -/
def flongref18_times.l0 : Nat → ByteArray → Int → ByteArray → Int → Option (ByteArray)
 | 0, _, _, _, _ => none
 | k + 1, x0, x1, x5, x6 => if x6 < x1 then (if x5.size + x0.size ≤ 9223372036854775807 then (flongref18_times.l0 k x0 x1 (x5 ++ x0) (wrap64 (x6 + 1))) else (none)) else (some x5)
def flongref18_times.f (k : Nat) (a0 : ByteArray) (a1 : Int) : Option (ByteArray) := flongref18_times.l0 k a0 a1 (⟨#[]⟩ : ByteArray) 0
theorem flongref18_times.mono_l : ∀ k, (∀ y0 y1 y2 y3, LeO (flongref18_times.l0 k y0 y1 y2 y3) (flongref18_times.l0 (k + 1) y0 y1 y2 y3))
 | 0 => fun _ _ _ _ r h => by simp [flongref18_times.l0] at h
 | k + 1 => by
  have ih0 := flongref18_times.mono_l k
  ·intro y0 y1 y2 y3
   unfold flongref18_times.l0
   repeat' first
   | (with_reducible exact ih0 _ _ _ _)
   | (with_reducible exact LeO.refl _)
   | (with_reducible exact LeO.none _)
   | (with_reducible refine LeO.ite ?_ ?_)
   | (with_reducible refine LeO.bind ?_ (fun _ => ?_))
theorem flongref18_times.mono : ∀ a0 a1 k, LeO (flongref18_times.f k a0 a1) (flongref18_times.f (k + 1) a0 a1) := by
 intro a0 a1 k
 have ih0 := flongref18_times.mono_l k
 unfold flongref18_times.f
 repeat' first
   | (with_reducible exact ih0 _ _ _ _)
   | (with_reducible exact LeO.refl _)
   | (with_reducible exact LeO.none _)
   | (with_reducible refine LeO.ite ?_ ?_)
   | (with_reducible refine LeO.bind ?_ (fun _ => ?_))
theorem flongref18_times.calls (k : Nat) (a0 : ByteArray) (a1 : Int) (r : ByteArray) (w : World) (h : flongref18_times.f k a0 a1 = some r) :
  Calls Tryd.prog 66 #[.string a0, .int .i64 a1] w fun e w' => e = .returned (.string r) ∧ Drawn0 w w' := by
 have H : (flongref18_times.l0 k a0 a1 (⟨#[]⟩ : ByteArray) 0) = some r := h
 clear h
 have H' := Aside0.mk H
 clear H
 go_enter Tryd.func66, Tryd.ntmps66
 go_wp2
 go_loopg [5, 6] k (fun kq v5 v6 w' => ∃ (x5_1 : ByteArray) (x6_1 : Int), v5 = .string x5_1 ∧ v6 = .int .i64 x6_1 ∧ Aside0 (flongref18_times.l0 kq a0 a1 x5_1 x6_1 = some r) ∧ Aside0 (kq ≤ k) ∧ Drawn0 w w')
 case atStart => exact ⟨((⟨#[]⟩ : ByteArray)), (0), sA, sA, H', ⟨Nat.le_refl _⟩, by repeat (first | exact Drawn0.refl _ | apply Drawn0.step)⟩
 case round =>
  clear H'
  try clear p2
  obtain ⟨x5_1, x6_1, rfl, rfl, HA, HK1, ⟨m1, rfl⟩⟩ := hrel
  cases gk with
  | zero => exact absurd HA.out (by simp [flongref18_times.l0])
  | succ k1 =>
   have H := HA.out
   clear HA
   simp only [flongref18_times.l0] at H
   by_cases c3 : x6_1 < a1
   ·rw [if_pos c3] at H
    have c3b0 : decide (x6_1 < a1) = true := decide_eq_true c3
    clear c3
    by_cases c4 : x5_1.size + a0.size ≤ 9223372036854775807
    ·rw [if_pos c4] at H
     have c4b0 := eq_true c4
     have c4b1 : decide (x5_1.size + a0.size ≤ 9223372036854775807) = true := decide_eq_true c4
     try have c4b2 : (9223372036854775807 < x5_1.size + a0.size) = False := eq_false (Nat.not_lt.2 c4)
     have H' := Aside0.mk H
     clear H
     go_wp2
     go_roundg k1
     case measure => have := HK1.out; omega
     case rel => exact ⟨(x5_1 ++ a0), (wrap64 (x6_1 + 1)), sA, sA, H', ⟨by have := HK1.out; omega⟩, by repeat (first | exact Drawn0.refl _ | apply Drawn0.step)⟩
    ·rw [if_neg c4] at H
     exact absurd H (by simp)
   ·rw [if_neg c3] at H
    have c3b0 : decide (x6_1 < a1) = false := decide_eq_false c3
    clear c3
    obtain rfl := Option.some.inj H
    go_wp2
    go_ret
    exact ⟨sA, by repeat (first | exact Drawn0.refl _ | apply Drawn0.step)⟩

/-! ### flongref18_One: function 40 -/
mutual
def flongref18_One.j0 : Nat → Int → Int → Int → Option (List Int)
 | 0, _, _, _ => none
 | k + 1, x3, x380000, x380001 => (flongref02_One.f k x3).bind fun t381 => ((flongref02_Width.f k x3).bind fun t384 => (if t384 > 0 then (if x3 = 32 then (flongref18_One.j1 k x3 (strOfNums t381) t384 (⟨#[]⟩ : ByteArray) false x380000 x380001) else (flongref18_One.j1 k x3 (strOfNums t381) t384 (⟨#[]⟩ : ByteArray) ((((Int.tdiv x380001 2) % 256) % 2) == 1) x380000 x380001)) else (flongref18_One.j1 k x3 (strOfNums t381) t384 (⟨#[]⟩ : ByteArray) false x380000 x380001)))
def flongref18_One.j1 : Nat → Int → ByteArray → Int → ByteArray → Bool → Int → Int → Option (List Int)
 | 0, _, _, _, _, _, _, _ => none
 | k + 1, x3, x4, x5, x6, x30, x380000, x380001 => if x30 = true then ((flongref18_times.f k (⟨#[95]⟩ : ByteArray) x5).bind fun t385 => ((flongref18_times.f k (⟨#[8]⟩ : ByteArray) x5).bind fun t386 => (if t385.size + t386.size ≤ 9223372036854775807 then (if x5 > 0 then (if x3 = 32 then (if (t385 ++ t386).size + x4.size ≤ 9223372036854775807 then ((conv_bytes.f ((t385 ++ t386) ++ x4)).bind fun t387 => (some t387)) else (none)) else (if (Int.tmod x380001 2) = 1 then (if (t385 ++ t386).size + x4.size ≤ 9223372036854775807 then ((flongref18_times.f k (⟨#[8]⟩ : ByteArray) x5).bind fun t390 => (if ((t385 ++ t386) ++ x4).size + t390.size ≤ 9223372036854775807 then (if (((t385 ++ t386) ++ x4) ++ t390).size + x4.size ≤ 9223372036854775807 then ((conv_bytes.f ((((t385 ++ t386) ++ x4) ++ t390) ++ x4)).bind fun t391 => (some t391)) else (none)) else (none))) else (none)) else (if (t385 ++ t386).size + x4.size ≤ 9223372036854775807 then ((conv_bytes.f ((t385 ++ t386) ++ x4)).bind fun t394 => (some t394)) else (none)))) else (if (t385 ++ t386).size + x4.size ≤ 9223372036854775807 then ((conv_bytes.f ((t385 ++ t386) ++ x4)).bind fun t397 => (some t397)) else (none))) else (none)))) else (if x5 > 0 then (if x3 = 32 then (if x6.size + x4.size ≤ 9223372036854775807 then ((conv_bytes.f (x6 ++ x4)).bind fun t400 => (some t400)) else (none)) else (if (Int.tmod x380001 2) = 1 then (if x6.size + x4.size ≤ 9223372036854775807 then ((flongref18_times.f k (⟨#[8]⟩ : ByteArray) x5).bind fun t403 => (if (x6 ++ x4).size + t403.size ≤ 9223372036854775807 then (if ((x6 ++ x4) ++ t403).size + x4.size ≤ 9223372036854775807 then ((conv_bytes.f (((x6 ++ x4) ++ t403) ++ x4)).bind fun t404 => (some t404)) else (none)) else (none))) else (none)) else (if x6.size + x4.size ≤ 9223372036854775807 then ((conv_bytes.f (x6 ++ x4)).bind fun t407 => (some t407)) else (none)))) else (if x6.size + x4.size ≤ 9223372036854775807 then ((conv_bytes.f (x6 ++ x4)).bind fun t410 => (some t410)) else (none)))
end
def flongref18_One.f (k : Nat) (a0_0 : Int) (a0_1 : Int) : Option (List Int) := (flongref02_Safe.f a0_0).bind fun t380 => (if a0_0 = 160 then (flongref18_One.j0 k 32 a0_0 a0_1) else (flongref18_One.j0 k t380 a0_0 a0_1))
theorem flongref18_One.mono_l : ∀ k, (∀ y0 y1 y2, LeO (flongref18_One.j0 k y0 y1 y2) (flongref18_One.j0 (k + 1) y0 y1 y2)) ∧ (∀ y0 y1 y2 y3 y4 y5 y6, LeO (flongref18_One.j1 k y0 y1 y2 y3 y4 y5 y6) (flongref18_One.j1 (k + 1) y0 y1 y2 y3 y4 y5 y6))
 | 0 => ⟨fun _ _ _ r h => by simp [flongref18_One.j0] at h, fun _ _ _ _ _ _ _ r h => by simp [flongref18_One.j1] at h⟩
 | k + 1 => by
  obtain ⟨ih0, ih1⟩ := flongref18_One.mono_l k
  refine ⟨?_, ?_⟩
  ·intro y0 y1 y2
   unfold flongref18_One.j0
   repeat' first
   | (with_reducible exact ih0 _ _ _)
   | (with_reducible exact ih1 _ _ _ _ _ _ _)
   | (with_reducible exact flongref02_One.mono _ _)
   | (with_reducible exact flongref02_Width.mono _ _)
   | (with_reducible exact flongref18_times.mono _ _ _)
   | (with_reducible exact LeO.refl _)
   | (with_reducible exact LeO.none _)
   | (with_reducible refine LeO.ite ?_ ?_)
   | (with_reducible refine LeO.bind ?_ (fun _ => ?_))
  ·intro y0 y1 y2 y3 y4 y5 y6
   unfold flongref18_One.j1
   repeat' first
   | (with_reducible exact ih0 _ _ _)
   | (with_reducible exact ih1 _ _ _ _ _ _ _)
   | (with_reducible exact flongref02_One.mono _ _)
   | (with_reducible exact flongref02_Width.mono _ _)
   | (with_reducible exact flongref18_times.mono _ _ _)
   | (with_reducible exact LeO.refl _)
   | (with_reducible exact LeO.none _)
   | (with_reducible refine LeO.ite ?_ ?_)
   | (with_reducible refine LeO.bind ?_ (fun _ => ?_))
theorem flongref18_One.mono : ∀ a0 a1 k, LeO (flongref18_One.f k a0 a1) (flongref18_One.f (k + 1) a0 a1) := by
 intro a0 a1 k
 obtain ⟨ih0, ih1⟩ := flongref18_One.mono_l k
 unfold flongref18_One.f
 repeat' first
   | (with_reducible exact ih0 _ _ _)
   | (with_reducible exact ih1 _ _ _ _ _ _ _)
   | (with_reducible exact flongref02_One.mono _ _)
   | (with_reducible exact flongref02_Width.mono _ _)
   | (with_reducible exact flongref18_times.mono _ _ _)
   | (with_reducible exact LeO.refl _)
   | (with_reducible exact LeO.none _)
   | (with_reducible refine LeO.ite ?_ ?_)
   | (with_reducible refine LeO.bind ?_ (fun _ => ?_))
theorem flongref18_One.calls (k : Nat) (a0_0 : Int) (a0_1 : Int) (r : List Int) (w : World) (h : flongref18_One.f k a0_0 a0_1 = some r) :
  Calls Tryd.prog 40 #[.agg #[.int .i32 a0_0, .int .u8 a0_1]] w fun e w' => ∃ v0_ : Value, e = .returned (v0_) ∧ Kd.V (Kd.int .u8) 5 w' w.heap.size (fun k_ => (w.heap.size ≤ k_)) v0_ r ∧ Below w.heap.size w w' := by
 have hu35 := Tryd.underlying35
 have HB := Aside0.mk (Below.refl w.heap.size w)
 have H : ((flongref02_Safe.f a0_0).bind fun t380 => (if a0_0 = 160 then (flongref18_One.j0 k 32 a0_0 a0_1) else (flongref18_One.j0 k t380 a0_0 a0_1))) = some r := h
 clear h
 replace H := Option.bind_eq_some_iff.mp H
 obtain ⟨t380, A20, H⟩ := H
 replace H : (if a0_0 = 160 then (flongref18_One.j0 k 32 a0_0 a0_1) else (flongref18_One.j0 k t380 a0_0 a0_1)) = some r := H
 have A2 := Aside0.mk A20
 clear A20
 have HC3 := Aside0.mk H
 clear H
 go_enter Tryd.func40, Tryd.ntmps40
 go_upto_if 12 with (first | ((with_reducible refine gate_dst (N := 1) rfl ?_); refine box_event ?hg (N := 1) ?hd (cs := #[.int .i32 a0_0, .int .u8 a0_1]) (t := 35) ?hr ?_; (case hd => rfl); (case hg => rfl); (case hr => first | (go_simp; done) | (go_simp; rfl)); intro gb379 hg w4 hbox hb; have BK379 := Aside0.mk (hbox); have GW379 := Aside0.mk ((geA hg : w.heap.size ≤ gb379)); have GE379 := Aside0.mk ((geA hg : w.heap.size ≤ gb379)); replace HB := Aside0.mk (below_step bA hb); clear hb hbox hg; have hcz5_0 : w4.cell? ⟨gb379, 0, none⟩ = some (.int .i32 a0_0) := (blk_cell BK379.out 0).trans rfl; have hcz5_1 : w4.cell? ⟨gb379, 1, none⟩ = some (.int .u8 a0_1) := (blk_cell BK379.out 1).trans rfl; have hfz5_0 := blk_frozen BK379.out 0; have hfz5_1 := blk_frozen BK379.out 1) | ((with_reducible refine gate_callee (f := 56) rfl ?_); refine goesL_ (some 9) rfl rfl Tryd.func56 (by kernel_rfl) rfl #[.int .i32 a0_0] rfl aP ?_; (with_reducible refine (flongref02_Safe.calls a0_0 t380 _ A2.out).mono ?_); rintro e w' ⟨rfl, ⟨nd, rfl⟩⟩; refine ⟨_, rfl, ?_⟩))
 (try simp only [Act.put, List.setIfInBounds_toArray, List.set_cons_zero, List.set_cons_succ])
 go_cut [3] (fun v3 wc => ∃ (kq : Nat) (x3_2 : Int), v3 = .int .i32 x3_2 ∧ Aside0 (flongref18_One.j0 kq x3_2 a0_0 a0_1 = some r) ∧ Aside0 (kq ≤ k) ∧ Aside0 (wc.heap[gb379]? = some (.cells #[.int .i32 a0_0, .int .u8 a0_1] 35 (0, 0))) ∧ Aside0 (Below w.heap.size w wc))
 case first =>
  have H := HC3.out
  clear HC3
  by_cases c6 : a0_0 = 160
  ·rw [if_pos c6] at H
   have c6b0 : (a0_0 == 160) = true := beq_iff_eq.mpr c6
   have c6b1 : (a0_0 != 160) = false := bne_eq_false_iff_eq.mpr c6
   clear c6
   (first | rw [c6b0] | (simp only [i64_w, i32_w]; rw [c6b0]) | skip)
   have H' := Aside0.mk H
   clear H
   go_wp2
   go_meet
   case rel => exact ⟨_, (32), sA, H', ⟨by first | omega | exact Nat.le_refl _⟩, ⟨kB BK379⟩, ⟨bG⟩⟩
  ·rw [if_neg c6] at H
   have c6b0 : (a0_0 == 160) = false := beq_eq_false_iff_ne.mpr c6
   have c6b1 : (a0_0 != 160) = true := bne_iff_ne.mpr c6
   (first | rw [c6b0] | (simp only [i64_w, i32_w]; rw [c6b0]) | skip)
   have H' := Aside0.mk H
   clear H
   go_wp2
   go_meet
   case rel => exact ⟨_, (t380), sA, H', ⟨by first | omega | exact Nat.le_refl _⟩, ⟨kB BK379⟩, ⟨bG⟩⟩
 case rest =>
  clear HC3
  try clear p2
  try clear c4
  try clear c5
  try clear c6
  try clear c6b0
  try clear c6b1
  try clear hcz5_0
  try clear hcz5_1
  try clear hfz5_0
  try clear hfz5_1
  obtain ⟨kq, x3_2, rfl, HA, HJ2, BK379, HB⟩ := hcut
  cases kq with
  | zero => exact absurd HA.out (by simp [flongref18_One.j0])
  | succ kj2 =>
   have H := HA.out
   clear HA
   simp only [flongref18_One.j0] at H
   replace H := Option.bind_eq_some_iff.mp H
   obtain ⟨t381, A70, H⟩ := H
   replace H : ((flongref02_Width.f kj2 x3_2).bind fun t384 => (if t384 > 0 then (if x3_2 = 32 then (flongref18_One.j1 kj2 x3_2 (strOfNums t381) t384 (⟨#[]⟩ : ByteArray) false a0_0 a0_1) else (flongref18_One.j1 kj2 x3_2 (strOfNums t381) t384 (⟨#[]⟩ : ByteArray) ((((Int.tdiv a0_1 2) % 256) % 2) == 1) a0_0 a0_1)) else (flongref18_One.j1 kj2 x3_2 (strOfNums t381) t384 (⟨#[]⟩ : ByteArray) false a0_0 a0_1))) = some r := H
   have A7 := Aside0.mk A70
   clear A70
   replace H := Option.bind_eq_some_iff.mp H
   obtain ⟨t384, A80, H⟩ := H
   replace H : (if t384 > 0 then (if x3_2 = 32 then (flongref18_One.j1 kj2 x3_2 (strOfNums t381) t384 (⟨#[]⟩ : ByteArray) false a0_0 a0_1) else (flongref18_One.j1 kj2 x3_2 (strOfNums t381) t384 (⟨#[]⟩ : ByteArray) ((((Int.tdiv a0_1 2) % 256) % 2) == 1) a0_0 a0_1)) else (flongref18_One.j1 kj2 x3_2 (strOfNums t381) t384 (⟨#[]⟩ : ByteArray) false a0_0 a0_1)) = some r := H
   have A8 := Aside0.mk A80
   clear A80
   have HC9 := Aside0.mk H
   clear H
   go_upto_region 7 with (first | ((with_reducible refine gate_callee (f := 28) rfl ?_); refine goesL_ (some 14) rfl rfl Tryd.func28 (by kernel_rfl) rfl #[.int .i32 x3_2] rfl aP ?_; (with_reducible refine (flongref02_One.calls kj2 x3_2 t381 _ A7.out).mono ?_); rintro e w10 ⟨v382, rfl, ho0, hb⟩; refine ⟨_, rfl, ?_⟩; have HO383 := Aside0.mk (Kd.R_lower (Kd.R_newM (M := fun k_ => (w.heap.size ≤ k_)) ho0 (below_size bG) (fun k_ h_ => h_)) (below_size bG)); replace BK379 := Aside0.mk (blk_below (g := gb379) (o := .cells #[.int .i32 a0_0, .int .u8 a0_1] 35 (0, 0)) (kB BK379) hb); replace HB := Aside0.mk (below_step bG hb); (try clear hb); (try clear hb2); (try clear hk); (try clear hi); (try clear ho0); have hcv11 := own_string (P := Tryd.prog) Tryd.underlying25 Tryd.underlying5 Tryd.underlying9 (Kd.own_of_R HO383.out)) | ((with_reducible refine gate_callee (f := 31) rfl ?_); refine goesL_ (some 17) rfl rfl Tryd.func31 (by kernel_rfl) rfl #[.int .i32 x3_2] rfl aP ?_; (with_reducible refine (flongref02_Width.calls kj2 x3_2 t384 _ A8.out).mono ?_); rintro e w12 ⟨rfl, hb⟩; refine ⟨_, rfl, ?_⟩; replace HO383 := Aside0.mk (Kd.R_below (kR HO383) hb); replace BK379 := Aside0.mk (blk_below (g := gb379) (o := .cells #[.int .i32 a0_0, .int .u8 a0_1] 35 (0, 0)) (kB BK379) hb); replace HB := Aside0.mk (below_step bG hb); (try clear hb); (try clear hb2); (try clear hk); (try clear hi)))
   (try simp only [Act.put, List.setIfInBounds_toArray, List.set_cons_zero, List.set_cons_succ])
   go_cut [30] (fun v30 wc => ∃ (kq : Nat) (x30_8 : Bool), v30 = .bool x30_8 ∧ Aside0 (flongref18_One.j1 kq x3_2 (strOfNums t381) t384 (⟨#[]⟩ : ByteArray) x30_8 a0_0 a0_1 = some r) ∧ Aside0 (kq ≤ kj2) ∧ Aside0 (wc.heap[gb379]? = some (.cells #[.int .i32 a0_0, .int .u8 a0_1] 35 (0, 0))) ∧ Aside0 (Below w.heap.size w wc))
   case first =>
    have H := HC9.out
    clear HC9
    by_cases c13 : t384 > 0
    ·rw [if_pos c13] at H
     have c13b0 : decide (0 < t384) = true := decide_eq_true c13
     clear c13
     (first | rw [c13b0] | (simp only [i64_w, i32_w]; rw [c13b0]) | skip)
     by_cases c14 : x3_2 = 32
     ·rw [if_pos c14] at H
      have c14b0 : (x3_2 == 32) = true := beq_iff_eq.mpr c14
      have c14b1 : (x3_2 != 32) = false := bne_eq_false_iff_eq.mpr c14
      clear c14
      have H' := Aside0.mk H
      clear H
      go_wp2
      go_meet
      case rel => exact ⟨_, (false), sA, H', ⟨by have := HJ2.out; first | omega | exact Nat.le_refl _⟩, ⟨kB BK379⟩, ⟨bG⟩⟩
     ·rw [if_neg c14] at H
      have c14b0 : (x3_2 == 32) = false := beq_eq_false_iff_ne.mpr c14
      have c14b1 : (x3_2 != 32) = true := bne_iff_ne.mpr c14
      have H' := Aside0.mk H
      clear H
      have hcz15_0 : w12.cell? ⟨gb379, 0, none⟩ = some (.int .i32 a0_0) := (blk_cell BK379.out 0).trans rfl
      have hcz15_1 : w12.cell? ⟨gb379, 1, none⟩ = some (.int .u8 a0_1) := (blk_cell BK379.out 1).trans rfl
      have hfz15_0 := blk_frozen BK379.out 0
      have hfz15_1 := blk_frozen BK379.out 1
      go_wp2
      go_meet
      case rel => exact ⟨_, (((((Int.tdiv a0_1 2) % 256) % 2) == 1)), sA, H', ⟨by have := HJ2.out; first | omega | exact Nat.le_refl _⟩, ⟨kB BK379⟩, ⟨bG⟩⟩
    ·rw [if_neg c13] at H
     have c13b0 : decide (0 < t384) = false := decide_eq_false c13
     clear c13
     (first | rw [c13b0] | (simp only [i64_w, i32_w]; rw [c13b0]) | skip)
     have H' := Aside0.mk H
     clear H
     go_wp2
     go_meet
     case rel => exact ⟨_, (false), sA, H', ⟨by have := HJ2.out; first | omega | exact Nat.le_refl _⟩, ⟨kB BK379⟩, ⟨bG⟩⟩
   case rest =>
    clear HC9
    try clear c1
    try clear hcv1
    try clear c2
    try clear p2
    try clear c3
    try clear c4
    try clear c5
    try clear c6
    try clear c6b0
    try clear c6b1
    try clear hcv11
    try clear c13
    try clear c13b0
    try clear c14
    try clear c14b0
    try clear c14b1
    try clear hcz15_0
    try clear hcz15_1
    try clear hcz5_0
    try clear hcz5_1
    try clear hfz15_0
    try clear hfz15_1
    try clear hfz5_0
    try clear hfz5_1
    try clear p2
    obtain ⟨kq, x30_8, rfl, HA, HJ8, BK379, HB⟩ := hcut
    cases kq with
    | zero => exact absurd HA.out (by simp [flongref18_One.j1])
    | succ kj8 =>
     have H := HA.out
     clear HA
     simp only [flongref18_One.j1] at H
     by_cases c16 : x30_8 = true
     ·subst c16
      have H1 : ((flongref18_times.f kj8 (⟨#[95]⟩ : ByteArray) t384).bind fun t385 => ((flongref18_times.f kj8 (⟨#[8]⟩ : ByteArray) t384).bind fun t386 => (if t385.size + t386.size ≤ 9223372036854775807 then (if t384 > 0 then (if x3_2 = 32 then (if (t385 ++ t386).size + (strOfNums t381).size ≤ 9223372036854775807 then ((conv_bytes.f ((t385 ++ t386) ++ (strOfNums t381))).bind fun t387 => (some t387)) else (none)) else (if (Int.tmod a0_1 2) = 1 then (if (t385 ++ t386).size + (strOfNums t381).size ≤ 9223372036854775807 then ((flongref18_times.f kj8 (⟨#[8]⟩ : ByteArray) t384).bind fun t390 => (if ((t385 ++ t386) ++ (strOfNums t381)).size + t390.size ≤ 9223372036854775807 then (if (((t385 ++ t386) ++ (strOfNums t381)) ++ t390).size + (strOfNums t381).size ≤ 9223372036854775807 then ((conv_bytes.f ((((t385 ++ t386) ++ (strOfNums t381)) ++ t390) ++ (strOfNums t381))).bind fun t391 => (some t391)) else (none)) else (none))) else (none)) else (if (t385 ++ t386).size + (strOfNums t381).size ≤ 9223372036854775807 then ((conv_bytes.f ((t385 ++ t386) ++ (strOfNums t381))).bind fun t394 => (some t394)) else (none)))) else (if (t385 ++ t386).size + (strOfNums t381).size ≤ 9223372036854775807 then ((conv_bytes.f ((t385 ++ t386) ++ (strOfNums t381))).bind fun t397 => (some t397)) else (none))) else (none)))) = some r := by rw [if_pos rfl] at H; exact H
      clear H
      have H := H1
      clear H1
      replace H := Option.bind_eq_some_iff.mp H
      obtain ⟨t385, A170, H⟩ := H
      replace H : ((flongref18_times.f kj8 (⟨#[8]⟩ : ByteArray) t384).bind fun t386 => (if t385.size + t386.size ≤ 9223372036854775807 then (if t384 > 0 then (if x3_2 = 32 then (if (t385 ++ t386).size + (strOfNums t381).size ≤ 9223372036854775807 then ((conv_bytes.f ((t385 ++ t386) ++ (strOfNums t381))).bind fun t387 => (some t387)) else (none)) else (if (Int.tmod a0_1 2) = 1 then (if (t385 ++ t386).size + (strOfNums t381).size ≤ 9223372036854775807 then ((flongref18_times.f kj8 (⟨#[8]⟩ : ByteArray) t384).bind fun t390 => (if ((t385 ++ t386) ++ (strOfNums t381)).size + t390.size ≤ 9223372036854775807 then (if (((t385 ++ t386) ++ (strOfNums t381)) ++ t390).size + (strOfNums t381).size ≤ 9223372036854775807 then ((conv_bytes.f ((((t385 ++ t386) ++ (strOfNums t381)) ++ t390) ++ (strOfNums t381))).bind fun t391 => (some t391)) else (none)) else (none))) else (none)) else (if (t385 ++ t386).size + (strOfNums t381).size ≤ 9223372036854775807 then ((conv_bytes.f ((t385 ++ t386) ++ (strOfNums t381))).bind fun t394 => (some t394)) else (none)))) else (if (t385 ++ t386).size + (strOfNums t381).size ≤ 9223372036854775807 then ((conv_bytes.f ((t385 ++ t386) ++ (strOfNums t381))).bind fun t397 => (some t397)) else (none))) else (none))) = some r := H
      have A17 := Aside0.mk A170
      clear A170
      replace H := Option.bind_eq_some_iff.mp H
      obtain ⟨t386, A180, H⟩ := H
      replace H : (if t385.size + t386.size ≤ 9223372036854775807 then (if t384 > 0 then (if x3_2 = 32 then (if (t385 ++ t386).size + (strOfNums t381).size ≤ 9223372036854775807 then ((conv_bytes.f ((t385 ++ t386) ++ (strOfNums t381))).bind fun t387 => (some t387)) else (none)) else (if (Int.tmod a0_1 2) = 1 then (if (t385 ++ t386).size + (strOfNums t381).size ≤ 9223372036854775807 then ((flongref18_times.f kj8 (⟨#[8]⟩ : ByteArray) t384).bind fun t390 => (if ((t385 ++ t386) ++ (strOfNums t381)).size + t390.size ≤ 9223372036854775807 then (if (((t385 ++ t386) ++ (strOfNums t381)) ++ t390).size + (strOfNums t381).size ≤ 9223372036854775807 then ((conv_bytes.f ((((t385 ++ t386) ++ (strOfNums t381)) ++ t390) ++ (strOfNums t381))).bind fun t391 => (some t391)) else (none)) else (none))) else (none)) else (if (t385 ++ t386).size + (strOfNums t381).size ≤ 9223372036854775807 then ((conv_bytes.f ((t385 ++ t386) ++ (strOfNums t381))).bind fun t394 => (some t394)) else (none)))) else (if (t385 ++ t386).size + (strOfNums t381).size ≤ 9223372036854775807 then ((conv_bytes.f ((t385 ++ t386) ++ (strOfNums t381))).bind fun t397 => (some t397)) else (none))) else (none)) = some r := H
      have A18 := Aside0.mk A180
      clear A180
      by_cases c19 : t385.size + t386.size ≤ 9223372036854775807
      ·rw [if_pos c19] at H
       have c19b0 := eq_true c19
       have c19b1 : decide (t385.size + t386.size ≤ 9223372036854775807) = true := decide_eq_true c19
       try have c19b2 : (9223372036854775807 < t385.size + t386.size) = False := eq_false (Nat.not_lt.2 c19)
       by_cases c20 : t384 > 0
       ·rw [if_pos c20] at H
        have c20b0 : decide (0 < t384) = true := decide_eq_true c20
        clear c20
        by_cases c21 : x3_2 = 32
        ·rw [if_pos c21] at H
         have c21b0 : (x3_2 == 32) = true := beq_iff_eq.mpr c21
         have c21b1 : (x3_2 != 32) = false := bne_eq_false_iff_eq.mpr c21
         clear c21
         by_cases c22 : (t385 ++ t386).size + (strOfNums t381).size ≤ 9223372036854775807
         ·rw [if_pos c22] at H
          have c22b0 := eq_true c22
          have c22b1 : decide ((t385 ++ t386).size + (strOfNums t381).size ≤ 9223372036854775807) = true := decide_eq_true c22
          try have c22b2 : (9223372036854775807 < (t385 ++ t386).size + (strOfNums t381).size) = False := eq_false (Nat.not_lt.2 c22)
          (try (have c22n := c22; simp only [ByteArray.size_append'] at c22n; have c22b3 := eq_false (Nat.not_lt.2 c22n); have c22b4 := eq_true c22n; clear c22n))
          replace H := Option.bind_eq_some_iff.mp H
          obtain ⟨t387, A230, H⟩ := H
          replace H : (some t387) = some r := H
          have A23 := Aside0.mk A230
          clear A230
          obtain rfl := Option.some.inj H
          go_wp2_with (first | ((with_reducible refine gate_callee (f := 66) rfl ?_); refine goesL_ (some 32) rfl rfl Tryd.func66 (by kernel_rfl) rfl #[.string (⟨#[95]⟩ : ByteArray), .int .i64 t384] rfl aP ?_; (with_reducible refine (flongref18_times.calls kj8 (⟨#[95]⟩ : ByteArray) t384 t385 _ A17.out).mono ?_); rintro e w' ⟨rfl, ⟨nd, rfl⟩⟩; refine ⟨_, rfl, ?_⟩) | ((with_reducible refine gate_callee (f := 66) rfl ?_); refine goesL_ (some 34) rfl rfl Tryd.func66 (by kernel_rfl) rfl #[.string (⟨#[8]⟩ : ByteArray), .int .i64 t384] rfl aP ?_; (with_reducible refine (flongref18_times.calls kj8 (⟨#[8]⟩ : ByteArray) t384 t386 _ A18.out).mono ?_); rintro e w' ⟨rfl, ⟨nd, rfl⟩⟩; refine ⟨_, rfl, ?_⟩) | ((with_reducible refine gate_convert (src := 9) (dst := 25) rfl ?_); refine convL_ _ rfl rfl ((t385 ++ t386) ++ (strOfNums t381)) rfl rfl ?_; (with_reducible refine (conv_bytes.calls ((t385 ++ t386) ++ (strOfNums t381)) t387 _ A23.out).mono ?_); rintro e w24 ⟨v388, rfl, ho0, hb⟩; refine ⟨_, rfl, ?_⟩; have n0_ := Aside0.mk (Kd.V_lower (Kd.V_mono (ok' := fun k_ => (w.heap.size ≤ k_) ∧ k_ ≠ gb379) ho0 (fun k_ hk_ => ⟨(Nat.le_trans (below_size bG) hk_), (Kd.freshB (g := gb379) (o := .cells #[.int .i32 a0_0, .int .u8 a0_1] 35 (0, 0)) (kB BK379) k_ hk_)⟩)) (below_size bG)); have n1_ := Aside0.mk (blk_below (g := gb379) (o := .cells #[.int .i32 a0_0, .int .u8 a0_1] 35 (0, 0)) (kB BK379) hb); have n2_ := Aside0.mk (below_step bG hb); clear BK379; clear HB; have HO389 := n0_; have BK379 := n1_; have HB := n2_; clear n0_ n1_ n2_; (try clear hb); (try clear hb2); (try clear hk); (try clear hi); (try clear ho0)))
          go_ret
          exact ⟨_, eW, by (with_reducible repeat (first | apply Kd.V_alloc | apply Kd.V_drewN | apply Kd.V_drew)); exact Kd.V_mono HO389.out (fun _ hk => hk.1), bG⟩
         ·rw [if_neg c22] at H
          exact absurd H (by simp)
        ·rw [if_neg c21] at H
         have c21b0 : (x3_2 == 32) = false := beq_eq_false_iff_ne.mpr c21
         have c21b1 : (x3_2 != 32) = true := bne_iff_ne.mpr c21
         by_cases c25 : (Int.tmod a0_1 2) = 1
         ·rw [if_pos c25] at H
          have c25b0 : ((Int.tmod a0_1 2) == 1) = true := beq_iff_eq.mpr c25
          have c25b1 : ((Int.tmod a0_1 2) != 1) = false := bne_eq_false_iff_eq.mpr c25
          clear c25
          by_cases c26 : (t385 ++ t386).size + (strOfNums t381).size ≤ 9223372036854775807
          ·rw [if_pos c26] at H
           have c26b0 := eq_true c26
           have c26b1 : decide ((t385 ++ t386).size + (strOfNums t381).size ≤ 9223372036854775807) = true := decide_eq_true c26
           try have c26b2 : (9223372036854775807 < (t385 ++ t386).size + (strOfNums t381).size) = False := eq_false (Nat.not_lt.2 c26)
           (try (have c26n := c26; simp only [ByteArray.size_append'] at c26n; have c26b3 := eq_false (Nat.not_lt.2 c26n); have c26b4 := eq_true c26n; clear c26n))
           replace H := Option.bind_eq_some_iff.mp H
           obtain ⟨t390, A270, H⟩ := H
           replace H : (if ((t385 ++ t386) ++ (strOfNums t381)).size + t390.size ≤ 9223372036854775807 then (if (((t385 ++ t386) ++ (strOfNums t381)) ++ t390).size + (strOfNums t381).size ≤ 9223372036854775807 then ((conv_bytes.f ((((t385 ++ t386) ++ (strOfNums t381)) ++ t390) ++ (strOfNums t381))).bind fun t391 => (some t391)) else (none)) else (none)) = some r := H
           have A27 := Aside0.mk A270
           clear A270
           by_cases c28 : ((t385 ++ t386) ++ (strOfNums t381)).size + t390.size ≤ 9223372036854775807
           ·rw [if_pos c28] at H
            have c28b0 := eq_true c28
            have c28b1 : decide (((t385 ++ t386) ++ (strOfNums t381)).size + t390.size ≤ 9223372036854775807) = true := decide_eq_true c28
            try have c28b2 : (9223372036854775807 < ((t385 ++ t386) ++ (strOfNums t381)).size + t390.size) = False := eq_false (Nat.not_lt.2 c28)
            (try (have c28n := c28; simp only [ByteArray.size_append'] at c28n; have c28b3 := eq_false (Nat.not_lt.2 c28n); have c28b4 := eq_true c28n; clear c28n))
            by_cases c29 : (((t385 ++ t386) ++ (strOfNums t381)) ++ t390).size + (strOfNums t381).size ≤ 9223372036854775807
            ·rw [if_pos c29] at H
             have c29b0 := eq_true c29
             have c29b1 : decide ((((t385 ++ t386) ++ (strOfNums t381)) ++ t390).size + (strOfNums t381).size ≤ 9223372036854775807) = true := decide_eq_true c29
             try have c29b2 : (9223372036854775807 < (((t385 ++ t386) ++ (strOfNums t381)) ++ t390).size + (strOfNums t381).size) = False := eq_false (Nat.not_lt.2 c29)
             (try (have c29n := c29; simp only [ByteArray.size_append'] at c29n; have c29b3 := eq_false (Nat.not_lt.2 c29n); have c29b4 := eq_true c29n; clear c29n))
             replace H := Option.bind_eq_some_iff.mp H
             obtain ⟨t391, A300, H⟩ := H
             replace H : (some t391) = some r := H
             have A30 := Aside0.mk A300
             clear A300
             obtain rfl := Option.some.inj H
             go_wp2_with (first | ((with_reducible refine gate_callee (f := 66) rfl ?_); refine goesL_ (some 32) rfl rfl Tryd.func66 (by kernel_rfl) rfl #[.string (⟨#[95]⟩ : ByteArray), .int .i64 t384] rfl aP ?_; (with_reducible refine (flongref18_times.calls kj8 (⟨#[95]⟩ : ByteArray) t384 t385 _ A17.out).mono ?_); rintro e w' ⟨rfl, ⟨nd, rfl⟩⟩; refine ⟨_, rfl, ?_⟩) | ((with_reducible refine gate_callee (f := 66) rfl ?_); refine goesL_ (some 34) rfl rfl Tryd.func66 (by kernel_rfl) rfl #[.string (⟨#[8]⟩ : ByteArray), .int .i64 t384] rfl aP ?_; (with_reducible refine (flongref18_times.calls kj8 (⟨#[8]⟩ : ByteArray) t384 t386 _ A18.out).mono ?_); rintro e w' ⟨rfl, ⟨nd, rfl⟩⟩; refine ⟨_, rfl, ?_⟩; have hcz31_0 : wc.cell? ⟨gb379, 0, none⟩ = some (.int .i32 a0_0) := (blk_cell BK379.out 0).trans rfl; have hcz31_1 : wc.cell? ⟨gb379, 1, none⟩ = some (.int .u8 a0_1) := (blk_cell BK379.out 1).trans rfl; have hfz31_0 := blk_frozen BK379.out 0; have hfz31_1 := blk_frozen BK379.out 1) | ((with_reducible refine gate_callee (f := 66) rfl ?_); refine goesL_ (some 52) rfl rfl Tryd.func66 (by kernel_rfl) rfl #[.string (⟨#[8]⟩ : ByteArray), .int .i64 t384] rfl aP ?_; (with_reducible refine (flongref18_times.calls kj8 (⟨#[8]⟩ : ByteArray) t384 t390 _ A27.out).mono ?_); rintro e w' ⟨rfl, ⟨nd, rfl⟩⟩; refine ⟨_, rfl, ?_⟩) | ((with_reducible refine gate_convert (src := 9) (dst := 25) rfl ?_); refine convL_ _ rfl rfl ((((t385 ++ t386) ++ (strOfNums t381)) ++ t390) ++ (strOfNums t381)) rfl rfl ?_; (with_reducible refine (conv_bytes.calls ((((t385 ++ t386) ++ (strOfNums t381)) ++ t390) ++ (strOfNums t381)) t391 _ A30.out).mono ?_); rintro e w32 ⟨v392, rfl, ho0, hb⟩; refine ⟨_, rfl, ?_⟩; have n0_ := Aside0.mk (Kd.V_lower (Kd.V_mono (ok' := fun k_ => (w.heap.size ≤ k_) ∧ k_ ≠ gb379) ho0 (fun k_ hk_ => ⟨(Nat.le_trans (below_size bG) hk_), (Kd.freshB (g := gb379) (o := .cells #[.int .i32 a0_0, .int .u8 a0_1] 35 (0, 0)) (kB BK379) k_ hk_)⟩)) (below_size bG)); have n1_ := Aside0.mk (blk_below (g := gb379) (o := .cells #[.int .i32 a0_0, .int .u8 a0_1] 35 (0, 0)) (kB BK379) hb); have n2_ := Aside0.mk (below_step bG hb); clear BK379; clear HB; have HO393 := n0_; have BK379 := n1_; have HB := n2_; clear n0_ n1_ n2_; (try clear hb); (try clear hb2); (try clear hk); (try clear hi); (try clear ho0)))
             go_ret
             exact ⟨_, eW, by (with_reducible repeat (first | apply Kd.V_alloc | apply Kd.V_drewN | apply Kd.V_drew)); exact Kd.V_mono HO393.out (fun _ hk => hk.1), bG⟩
            ·rw [if_neg c29] at H
             exact absurd H (by simp)
           ·rw [if_neg c28] at H
            exact absurd H (by simp)
          ·rw [if_neg c26] at H
           exact absurd H (by simp)
         ·rw [if_neg c25] at H
          have c25b0 : ((Int.tmod a0_1 2) == 1) = false := beq_eq_false_iff_ne.mpr c25
          have c25b1 : ((Int.tmod a0_1 2) != 1) = true := bne_iff_ne.mpr c25
          by_cases c33 : (t385 ++ t386).size + (strOfNums t381).size ≤ 9223372036854775807
          ·rw [if_pos c33] at H
           have c33b0 := eq_true c33
           have c33b1 : decide ((t385 ++ t386).size + (strOfNums t381).size ≤ 9223372036854775807) = true := decide_eq_true c33
           try have c33b2 : (9223372036854775807 < (t385 ++ t386).size + (strOfNums t381).size) = False := eq_false (Nat.not_lt.2 c33)
           (try (have c33n := c33; simp only [ByteArray.size_append'] at c33n; have c33b3 := eq_false (Nat.not_lt.2 c33n); have c33b4 := eq_true c33n; clear c33n))
           replace H := Option.bind_eq_some_iff.mp H
           obtain ⟨t394, A340, H⟩ := H
           replace H : (some t394) = some r := H
           have A34 := Aside0.mk A340
           clear A340
           obtain rfl := Option.some.inj H
           go_wp2_with (first | ((with_reducible refine gate_callee (f := 66) rfl ?_); refine goesL_ (some 32) rfl rfl Tryd.func66 (by kernel_rfl) rfl #[.string (⟨#[95]⟩ : ByteArray), .int .i64 t384] rfl aP ?_; (with_reducible refine (flongref18_times.calls kj8 (⟨#[95]⟩ : ByteArray) t384 t385 _ A17.out).mono ?_); rintro e w' ⟨rfl, ⟨nd, rfl⟩⟩; refine ⟨_, rfl, ?_⟩) | ((with_reducible refine gate_callee (f := 66) rfl ?_); refine goesL_ (some 34) rfl rfl Tryd.func66 (by kernel_rfl) rfl #[.string (⟨#[8]⟩ : ByteArray), .int .i64 t384] rfl aP ?_; (with_reducible refine (flongref18_times.calls kj8 (⟨#[8]⟩ : ByteArray) t384 t386 _ A18.out).mono ?_); rintro e w' ⟨rfl, ⟨nd, rfl⟩⟩; refine ⟨_, rfl, ?_⟩; have hcz35_0 : wc.cell? ⟨gb379, 0, none⟩ = some (.int .i32 a0_0) := (blk_cell BK379.out 0).trans rfl; have hcz35_1 : wc.cell? ⟨gb379, 1, none⟩ = some (.int .u8 a0_1) := (blk_cell BK379.out 1).trans rfl; have hfz35_0 := blk_frozen BK379.out 0; have hfz35_1 := blk_frozen BK379.out 1) | ((with_reducible refine gate_convert (src := 9) (dst := 25) rfl ?_); refine convL_ _ rfl rfl ((t385 ++ t386) ++ (strOfNums t381)) rfl rfl ?_; (with_reducible refine (conv_bytes.calls ((t385 ++ t386) ++ (strOfNums t381)) t394 _ A34.out).mono ?_); rintro e w36 ⟨v395, rfl, ho0, hb⟩; refine ⟨_, rfl, ?_⟩; have n0_ := Aside0.mk (Kd.V_lower (Kd.V_mono (ok' := fun k_ => (w.heap.size ≤ k_) ∧ k_ ≠ gb379) ho0 (fun k_ hk_ => ⟨(Nat.le_trans (below_size bG) hk_), (Kd.freshB (g := gb379) (o := .cells #[.int .i32 a0_0, .int .u8 a0_1] 35 (0, 0)) (kB BK379) k_ hk_)⟩)) (below_size bG)); have n1_ := Aside0.mk (blk_below (g := gb379) (o := .cells #[.int .i32 a0_0, .int .u8 a0_1] 35 (0, 0)) (kB BK379) hb); have n2_ := Aside0.mk (below_step bG hb); clear BK379; clear HB; have HO396 := n0_; have BK379 := n1_; have HB := n2_; clear n0_ n1_ n2_; (try clear hb); (try clear hb2); (try clear hk); (try clear hi); (try clear ho0)))
           go_ret
           exact ⟨_, eW, by (with_reducible repeat (first | apply Kd.V_alloc | apply Kd.V_drewN | apply Kd.V_drew)); exact Kd.V_mono HO396.out (fun _ hk => hk.1), bG⟩
          ·rw [if_neg c33] at H
           exact absurd H (by simp)
       ·rw [if_neg c20] at H
        have c20b0 : decide (0 < t384) = false := decide_eq_false c20
        clear c20
        by_cases c37 : (t385 ++ t386).size + (strOfNums t381).size ≤ 9223372036854775807
        ·rw [if_pos c37] at H
         have c37b0 := eq_true c37
         have c37b1 : decide ((t385 ++ t386).size + (strOfNums t381).size ≤ 9223372036854775807) = true := decide_eq_true c37
         try have c37b2 : (9223372036854775807 < (t385 ++ t386).size + (strOfNums t381).size) = False := eq_false (Nat.not_lt.2 c37)
         (try (have c37n := c37; simp only [ByteArray.size_append'] at c37n; have c37b3 := eq_false (Nat.not_lt.2 c37n); have c37b4 := eq_true c37n; clear c37n))
         replace H := Option.bind_eq_some_iff.mp H
         obtain ⟨t397, A380, H⟩ := H
         replace H : (some t397) = some r := H
         have A38 := Aside0.mk A380
         clear A380
         obtain rfl := Option.some.inj H
         go_wp2_with (first | ((with_reducible refine gate_callee (f := 66) rfl ?_); refine goesL_ (some 32) rfl rfl Tryd.func66 (by kernel_rfl) rfl #[.string (⟨#[95]⟩ : ByteArray), .int .i64 t384] rfl aP ?_; (with_reducible refine (flongref18_times.calls kj8 (⟨#[95]⟩ : ByteArray) t384 t385 _ A17.out).mono ?_); rintro e w' ⟨rfl, ⟨nd, rfl⟩⟩; refine ⟨_, rfl, ?_⟩) | ((with_reducible refine gate_callee (f := 66) rfl ?_); refine goesL_ (some 34) rfl rfl Tryd.func66 (by kernel_rfl) rfl #[.string (⟨#[8]⟩ : ByteArray), .int .i64 t384] rfl aP ?_; (with_reducible refine (flongref18_times.calls kj8 (⟨#[8]⟩ : ByteArray) t384 t386 _ A18.out).mono ?_); rintro e w' ⟨rfl, ⟨nd, rfl⟩⟩; refine ⟨_, rfl, ?_⟩) | ((with_reducible refine gate_convert (src := 9) (dst := 25) rfl ?_); refine convL_ _ rfl rfl ((t385 ++ t386) ++ (strOfNums t381)) rfl rfl ?_; (with_reducible refine (conv_bytes.calls ((t385 ++ t386) ++ (strOfNums t381)) t397 _ A38.out).mono ?_); rintro e w39 ⟨v398, rfl, ho0, hb⟩; refine ⟨_, rfl, ?_⟩; have n0_ := Aside0.mk (Kd.V_lower (Kd.V_mono (ok' := fun k_ => (w.heap.size ≤ k_) ∧ k_ ≠ gb379) ho0 (fun k_ hk_ => ⟨(Nat.le_trans (below_size bG) hk_), (Kd.freshB (g := gb379) (o := .cells #[.int .i32 a0_0, .int .u8 a0_1] 35 (0, 0)) (kB BK379) k_ hk_)⟩)) (below_size bG)); have n1_ := Aside0.mk (blk_below (g := gb379) (o := .cells #[.int .i32 a0_0, .int .u8 a0_1] 35 (0, 0)) (kB BK379) hb); have n2_ := Aside0.mk (below_step bG hb); clear BK379; clear HB; have HO399 := n0_; have BK379 := n1_; have HB := n2_; clear n0_ n1_ n2_; (try clear hb); (try clear hb2); (try clear hk); (try clear hi); (try clear ho0)))
         go_ret
         exact ⟨_, eW, by (with_reducible repeat (first | apply Kd.V_alloc | apply Kd.V_drewN | apply Kd.V_drew)); exact Kd.V_mono HO399.out (fun _ hk => hk.1), bG⟩
        ·rw [if_neg c37] at H
         exact absurd H (by simp)
      ·rw [if_neg c19] at H
       exact absurd H (by simp)
     ·replace c16 := Bool.eq_false_iff.mpr c16
      subst c16
      have H1 : (if t384 > 0 then (if x3_2 = 32 then (if (⟨#[]⟩ : ByteArray).size + (strOfNums t381).size ≤ 9223372036854775807 then ((conv_bytes.f ((⟨#[]⟩ : ByteArray) ++ (strOfNums t381))).bind fun t400 => (some t400)) else (none)) else (if (Int.tmod a0_1 2) = 1 then (if (⟨#[]⟩ : ByteArray).size + (strOfNums t381).size ≤ 9223372036854775807 then ((flongref18_times.f kj8 (⟨#[8]⟩ : ByteArray) t384).bind fun t403 => (if ((⟨#[]⟩ : ByteArray) ++ (strOfNums t381)).size + t403.size ≤ 9223372036854775807 then (if (((⟨#[]⟩ : ByteArray) ++ (strOfNums t381)) ++ t403).size + (strOfNums t381).size ≤ 9223372036854775807 then ((conv_bytes.f ((((⟨#[]⟩ : ByteArray) ++ (strOfNums t381)) ++ t403) ++ (strOfNums t381))).bind fun t404 => (some t404)) else (none)) else (none))) else (none)) else (if (⟨#[]⟩ : ByteArray).size + (strOfNums t381).size ≤ 9223372036854775807 then ((conv_bytes.f ((⟨#[]⟩ : ByteArray) ++ (strOfNums t381))).bind fun t407 => (some t407)) else (none)))) else (if (⟨#[]⟩ : ByteArray).size + (strOfNums t381).size ≤ 9223372036854775807 then ((conv_bytes.f ((⟨#[]⟩ : ByteArray) ++ (strOfNums t381))).bind fun t410 => (some t410)) else (none))) = some r := by rw [if_neg (show ¬ (false = true) by decide)] at H; exact H
      clear H
      have H := H1
      clear H1
      by_cases c40 : t384 > 0
      ·rw [if_pos c40] at H
       have c40b0 : decide (0 < t384) = true := decide_eq_true c40
       clear c40
       by_cases c41 : x3_2 = 32
       ·rw [if_pos c41] at H
        have c41b0 : (x3_2 == 32) = true := beq_iff_eq.mpr c41
        have c41b1 : (x3_2 != 32) = false := bne_eq_false_iff_eq.mpr c41
        clear c41
        by_cases c42 : (⟨#[]⟩ : ByteArray).size + (strOfNums t381).size ≤ 9223372036854775807
        ·rw [if_pos c42] at H
         have c42b0 := eq_true c42
         have c42b1 : decide ((⟨#[]⟩ : ByteArray).size + (strOfNums t381).size ≤ 9223372036854775807) = true := decide_eq_true c42
         try have c42b2 : (9223372036854775807 < (⟨#[]⟩ : ByteArray).size + (strOfNums t381).size) = False := eq_false (Nat.not_lt.2 c42)
         (try (have c42m := c42; simp only [ByteArray.size_append', show (⟨#[]⟩ : ByteArray).size = 0 from rfl, Nat.zero_add] at c42m; have c42b5 := eq_false (Nat.not_lt.2 c42m); have c42b6 := eq_true c42m; clear c42m))
         replace H := Option.bind_eq_some_iff.mp H
         obtain ⟨t400, A430, H⟩ := H
         replace H : (some t400) = some r := H
         have A43 := Aside0.mk A430
         clear A430
         obtain rfl := Option.some.inj H
         go_wp2_with (first | ((with_reducible refine gate_convert (src := 9) (dst := 25) rfl ?_); refine convL_ _ rfl rfl ((⟨#[]⟩ : ByteArray) ++ (strOfNums t381)) rfl rfl ?_; (with_reducible refine (conv_bytes.calls ((⟨#[]⟩ : ByteArray) ++ (strOfNums t381)) t400 _ A43.out).mono ?_); rintro e w44 ⟨v401, rfl, ho0, hb⟩; refine ⟨_, rfl, ?_⟩; have n0_ := Aside0.mk (Kd.V_lower (Kd.V_mono (ok' := fun k_ => (w.heap.size ≤ k_) ∧ k_ ≠ gb379) ho0 (fun k_ hk_ => ⟨(Nat.le_trans (below_size bG) hk_), (Kd.freshB (g := gb379) (o := .cells #[.int .i32 a0_0, .int .u8 a0_1] 35 (0, 0)) (kB BK379) k_ hk_)⟩)) (below_size bG)); have n1_ := Aside0.mk (blk_below (g := gb379) (o := .cells #[.int .i32 a0_0, .int .u8 a0_1] 35 (0, 0)) (kB BK379) hb); have n2_ := Aside0.mk (below_step bG hb); clear BK379; clear HB; have HO402 := n0_; have BK379 := n1_; have HB := n2_; clear n0_ n1_ n2_; (try clear hb); (try clear hb2); (try clear hk); (try clear hi); (try clear ho0)))
         go_ret
         exact ⟨_, eW, by (with_reducible repeat (first | apply Kd.V_alloc | apply Kd.V_drewN | apply Kd.V_drew)); exact Kd.V_mono HO402.out (fun _ hk => hk.1), bG⟩
        ·rw [if_neg c42] at H
         exact absurd H (by simp)
       ·rw [if_neg c41] at H
        have c41b0 : (x3_2 == 32) = false := beq_eq_false_iff_ne.mpr c41
        have c41b1 : (x3_2 != 32) = true := bne_iff_ne.mpr c41
        by_cases c45 : (Int.tmod a0_1 2) = 1
        ·rw [if_pos c45] at H
         have c45b0 : ((Int.tmod a0_1 2) == 1) = true := beq_iff_eq.mpr c45
         have c45b1 : ((Int.tmod a0_1 2) != 1) = false := bne_eq_false_iff_eq.mpr c45
         clear c45
         by_cases c46 : (⟨#[]⟩ : ByteArray).size + (strOfNums t381).size ≤ 9223372036854775807
         ·rw [if_pos c46] at H
          have c46b0 := eq_true c46
          have c46b1 : decide ((⟨#[]⟩ : ByteArray).size + (strOfNums t381).size ≤ 9223372036854775807) = true := decide_eq_true c46
          try have c46b2 : (9223372036854775807 < (⟨#[]⟩ : ByteArray).size + (strOfNums t381).size) = False := eq_false (Nat.not_lt.2 c46)
          (try (have c46m := c46; simp only [ByteArray.size_append', show (⟨#[]⟩ : ByteArray).size = 0 from rfl, Nat.zero_add] at c46m; have c46b5 := eq_false (Nat.not_lt.2 c46m); have c46b6 := eq_true c46m; clear c46m))
          replace H := Option.bind_eq_some_iff.mp H
          obtain ⟨t403, A470, H⟩ := H
          replace H : (if ((⟨#[]⟩ : ByteArray) ++ (strOfNums t381)).size + t403.size ≤ 9223372036854775807 then (if (((⟨#[]⟩ : ByteArray) ++ (strOfNums t381)) ++ t403).size + (strOfNums t381).size ≤ 9223372036854775807 then ((conv_bytes.f ((((⟨#[]⟩ : ByteArray) ++ (strOfNums t381)) ++ t403) ++ (strOfNums t381))).bind fun t404 => (some t404)) else (none)) else (none)) = some r := H
          have A47 := Aside0.mk A470
          clear A470
          by_cases c48 : ((⟨#[]⟩ : ByteArray) ++ (strOfNums t381)).size + t403.size ≤ 9223372036854775807
          ·rw [if_pos c48] at H
           have c48b0 := eq_true c48
           have c48b1 : decide (((⟨#[]⟩ : ByteArray) ++ (strOfNums t381)).size + t403.size ≤ 9223372036854775807) = true := decide_eq_true c48
           try have c48b2 : (9223372036854775807 < ((⟨#[]⟩ : ByteArray) ++ (strOfNums t381)).size + t403.size) = False := eq_false (Nat.not_lt.2 c48)
           (try (have c48n := c48; simp only [ByteArray.size_append'] at c48n; have c48b3 := eq_false (Nat.not_lt.2 c48n); have c48b4 := eq_true c48n; clear c48n))
           (try (have c48m := c48; simp only [ByteArray.size_append', show (⟨#[]⟩ : ByteArray).size = 0 from rfl, Nat.zero_add] at c48m; have c48b5 := eq_false (Nat.not_lt.2 c48m); have c48b6 := eq_true c48m; clear c48m))
           by_cases c49 : (((⟨#[]⟩ : ByteArray) ++ (strOfNums t381)) ++ t403).size + (strOfNums t381).size ≤ 9223372036854775807
           ·rw [if_pos c49] at H
            have c49b0 := eq_true c49
            have c49b1 : decide ((((⟨#[]⟩ : ByteArray) ++ (strOfNums t381)) ++ t403).size + (strOfNums t381).size ≤ 9223372036854775807) = true := decide_eq_true c49
            try have c49b2 : (9223372036854775807 < (((⟨#[]⟩ : ByteArray) ++ (strOfNums t381)) ++ t403).size + (strOfNums t381).size) = False := eq_false (Nat.not_lt.2 c49)
            (try (have c49n := c49; simp only [ByteArray.size_append'] at c49n; have c49b3 := eq_false (Nat.not_lt.2 c49n); have c49b4 := eq_true c49n; clear c49n))
            (try (have c49m := c49; simp only [ByteArray.size_append', show (⟨#[]⟩ : ByteArray).size = 0 from rfl, Nat.zero_add] at c49m; have c49b5 := eq_false (Nat.not_lt.2 c49m); have c49b6 := eq_true c49m; clear c49m))
            replace H := Option.bind_eq_some_iff.mp H
            obtain ⟨t404, A500, H⟩ := H
            replace H : (some t404) = some r := H
            have A50 := Aside0.mk A500
            clear A500
            obtain rfl := Option.some.inj H
            have hcz51_0 : wc.cell? ⟨gb379, 0, none⟩ = some (.int .i32 a0_0) := (blk_cell BK379.out 0).trans rfl
            have hcz51_1 : wc.cell? ⟨gb379, 1, none⟩ = some (.int .u8 a0_1) := (blk_cell BK379.out 1).trans rfl
            have hfz51_0 := blk_frozen BK379.out 0
            have hfz51_1 := blk_frozen BK379.out 1
            go_wp2_with (first | ((with_reducible refine gate_callee (f := 66) rfl ?_); refine goesL_ (some 52) rfl rfl Tryd.func66 (by kernel_rfl) rfl #[.string (⟨#[8]⟩ : ByteArray), .int .i64 t384] rfl aP ?_; (with_reducible refine (flongref18_times.calls kj8 (⟨#[8]⟩ : ByteArray) t384 t403 _ A47.out).mono ?_); rintro e w' ⟨rfl, ⟨nd, rfl⟩⟩; refine ⟨_, rfl, ?_⟩) | ((with_reducible refine gate_convert (src := 9) (dst := 25) rfl ?_); refine convL_ _ rfl rfl ((((⟨#[]⟩ : ByteArray) ++ (strOfNums t381)) ++ t403) ++ (strOfNums t381)) rfl rfl ?_; (with_reducible refine (conv_bytes.calls ((((⟨#[]⟩ : ByteArray) ++ (strOfNums t381)) ++ t403) ++ (strOfNums t381)) t404 _ A50.out).mono ?_); rintro e w52 ⟨v405, rfl, ho0, hb⟩; refine ⟨_, rfl, ?_⟩; have n0_ := Aside0.mk (Kd.V_lower (Kd.V_mono (ok' := fun k_ => (w.heap.size ≤ k_) ∧ k_ ≠ gb379) ho0 (fun k_ hk_ => ⟨(Nat.le_trans (below_size bG) hk_), (Kd.freshB (g := gb379) (o := .cells #[.int .i32 a0_0, .int .u8 a0_1] 35 (0, 0)) (kB BK379) k_ hk_)⟩)) (below_size bG)); have n1_ := Aside0.mk (blk_below (g := gb379) (o := .cells #[.int .i32 a0_0, .int .u8 a0_1] 35 (0, 0)) (kB BK379) hb); have n2_ := Aside0.mk (below_step bG hb); clear BK379; clear HB; have HO406 := n0_; have BK379 := n1_; have HB := n2_; clear n0_ n1_ n2_; (try clear hb); (try clear hb2); (try clear hk); (try clear hi); (try clear ho0)))
            go_ret
            exact ⟨_, eW, by (with_reducible repeat (first | apply Kd.V_alloc | apply Kd.V_drewN | apply Kd.V_drew)); exact Kd.V_mono HO406.out (fun _ hk => hk.1), bG⟩
           ·rw [if_neg c49] at H
            exact absurd H (by simp)
          ·rw [if_neg c48] at H
           exact absurd H (by simp)
         ·rw [if_neg c46] at H
          exact absurd H (by simp)
        ·rw [if_neg c45] at H
         have c45b0 : ((Int.tmod a0_1 2) == 1) = false := beq_eq_false_iff_ne.mpr c45
         have c45b1 : ((Int.tmod a0_1 2) != 1) = true := bne_iff_ne.mpr c45
         by_cases c53 : (⟨#[]⟩ : ByteArray).size + (strOfNums t381).size ≤ 9223372036854775807
         ·rw [if_pos c53] at H
          have c53b0 := eq_true c53
          have c53b1 : decide ((⟨#[]⟩ : ByteArray).size + (strOfNums t381).size ≤ 9223372036854775807) = true := decide_eq_true c53
          try have c53b2 : (9223372036854775807 < (⟨#[]⟩ : ByteArray).size + (strOfNums t381).size) = False := eq_false (Nat.not_lt.2 c53)
          (try (have c53m := c53; simp only [ByteArray.size_append', show (⟨#[]⟩ : ByteArray).size = 0 from rfl, Nat.zero_add] at c53m; have c53b5 := eq_false (Nat.not_lt.2 c53m); have c53b6 := eq_true c53m; clear c53m))
          replace H := Option.bind_eq_some_iff.mp H
          obtain ⟨t407, A540, H⟩ := H
          replace H : (some t407) = some r := H
          have A54 := Aside0.mk A540
          clear A540
          obtain rfl := Option.some.inj H
          have hcz55_0 : wc.cell? ⟨gb379, 0, none⟩ = some (.int .i32 a0_0) := (blk_cell BK379.out 0).trans rfl
          have hcz55_1 : wc.cell? ⟨gb379, 1, none⟩ = some (.int .u8 a0_1) := (blk_cell BK379.out 1).trans rfl
          have hfz55_0 := blk_frozen BK379.out 0
          have hfz55_1 := blk_frozen BK379.out 1
          go_wp2_with (first | ((with_reducible refine gate_convert (src := 9) (dst := 25) rfl ?_); refine convL_ _ rfl rfl ((⟨#[]⟩ : ByteArray) ++ (strOfNums t381)) rfl rfl ?_; (with_reducible refine (conv_bytes.calls ((⟨#[]⟩ : ByteArray) ++ (strOfNums t381)) t407 _ A54.out).mono ?_); rintro e w56 ⟨v408, rfl, ho0, hb⟩; refine ⟨_, rfl, ?_⟩; have n0_ := Aside0.mk (Kd.V_lower (Kd.V_mono (ok' := fun k_ => (w.heap.size ≤ k_) ∧ k_ ≠ gb379) ho0 (fun k_ hk_ => ⟨(Nat.le_trans (below_size bG) hk_), (Kd.freshB (g := gb379) (o := .cells #[.int .i32 a0_0, .int .u8 a0_1] 35 (0, 0)) (kB BK379) k_ hk_)⟩)) (below_size bG)); have n1_ := Aside0.mk (blk_below (g := gb379) (o := .cells #[.int .i32 a0_0, .int .u8 a0_1] 35 (0, 0)) (kB BK379) hb); have n2_ := Aside0.mk (below_step bG hb); clear BK379; clear HB; have HO409 := n0_; have BK379 := n1_; have HB := n2_; clear n0_ n1_ n2_; (try clear hb); (try clear hb2); (try clear hk); (try clear hi); (try clear ho0)))
          go_ret
          exact ⟨_, eW, by (with_reducible repeat (first | apply Kd.V_alloc | apply Kd.V_drewN | apply Kd.V_drew)); exact Kd.V_mono HO409.out (fun _ hk => hk.1), bG⟩
         ·rw [if_neg c53] at H
          exact absurd H (by simp)
      ·rw [if_neg c40] at H
       have c40b0 : decide (0 < t384) = false := decide_eq_false c40
       clear c40
       by_cases c57 : (⟨#[]⟩ : ByteArray).size + (strOfNums t381).size ≤ 9223372036854775807
       ·rw [if_pos c57] at H
        have c57b0 := eq_true c57
        have c57b1 : decide ((⟨#[]⟩ : ByteArray).size + (strOfNums t381).size ≤ 9223372036854775807) = true := decide_eq_true c57
        try have c57b2 : (9223372036854775807 < (⟨#[]⟩ : ByteArray).size + (strOfNums t381).size) = False := eq_false (Nat.not_lt.2 c57)
        (try (have c57m := c57; simp only [ByteArray.size_append', show (⟨#[]⟩ : ByteArray).size = 0 from rfl, Nat.zero_add] at c57m; have c57b5 := eq_false (Nat.not_lt.2 c57m); have c57b6 := eq_true c57m; clear c57m))
        replace H := Option.bind_eq_some_iff.mp H
        obtain ⟨t410, A580, H⟩ := H
        replace H : (some t410) = some r := H
        have A58 := Aside0.mk A580
        clear A580
        obtain rfl := Option.some.inj H
        go_wp2_with (first | ((with_reducible refine gate_convert (src := 9) (dst := 25) rfl ?_); refine convL_ _ rfl rfl ((⟨#[]⟩ : ByteArray) ++ (strOfNums t381)) rfl rfl ?_; (with_reducible refine (conv_bytes.calls ((⟨#[]⟩ : ByteArray) ++ (strOfNums t381)) t410 _ A58.out).mono ?_); rintro e w59 ⟨v411, rfl, ho0, hb⟩; refine ⟨_, rfl, ?_⟩; have n0_ := Aside0.mk (Kd.V_lower (Kd.V_mono (ok' := fun k_ => (w.heap.size ≤ k_) ∧ k_ ≠ gb379) ho0 (fun k_ hk_ => ⟨(Nat.le_trans (below_size bG) hk_), (Kd.freshB (g := gb379) (o := .cells #[.int .i32 a0_0, .int .u8 a0_1] 35 (0, 0)) (kB BK379) k_ hk_)⟩)) (below_size bG)); have n1_ := Aside0.mk (blk_below (g := gb379) (o := .cells #[.int .i32 a0_0, .int .u8 a0_1] 35 (0, 0)) (kB BK379) hb); have n2_ := Aside0.mk (below_step bG hb); clear BK379; clear HB; have HO412 := n0_; have BK379 := n1_; have HB := n2_; clear n0_ n1_ n2_; (try clear hb); (try clear hb2); (try clear hk); (try clear hi); (try clear ho0)))
        go_ret
        exact ⟨_, eW, by (with_reducible repeat (first | apply Kd.V_alloc | apply Kd.V_drewN | apply Kd.V_drew)); exact Kd.V_mono HO412.out (fun _ hk => hk.1), bG⟩
       ·rw [if_neg c57] at H
        exact absurd H (by simp)

/-! ### flongref18_Row: function 17 -/
def flongref18_Row.l0 : Nat → List (S35) → List Int → Int → Option (List Int)
 | 0, _, _, _ => none
 | k + 1, x3, x4, x5 => if x5 < (x3.length : Int) then (if 0 ≤ x5 then ((flongref18_One.f k ((rd_T35 x3 x5).f0) ((rd_T35 x3 x5).f1)).bind fun t417 => (if x4.length + t417.length < 140737488355328 then (flongref18_Row.l0 k x3 (x4 ++ t417) (wrap64 (x5 + 1))) else (none))) else (none)) else (some x4)
def flongref18_Row.f (k : Nat) (l0 : List (S35)) : Option (List Int) := (flongref17_Normal.f k l0).bind fun t413 => (flongref18_Row.l0 k t413 ([] : List Int) 0)
theorem flongref18_Row.mono_l : ∀ k, (∀ y0 y1 y2, LeO (flongref18_Row.l0 k y0 y1 y2) (flongref18_Row.l0 (k + 1) y0 y1 y2))
 | 0 => fun _ _ _ r h => by simp [flongref18_Row.l0] at h
 | k + 1 => by
  have ih0 := flongref18_Row.mono_l k
  ·intro y0 y1 y2
   unfold flongref18_Row.l0
   repeat' first
   | (with_reducible exact ih0 _ _ _)
   | (with_reducible exact flongref17_Normal.mono _ _)
   | (with_reducible exact flongref18_One.mono _ _ _)
   | (with_reducible exact LeO.refl _)
   | (with_reducible exact LeO.none _)
   | (with_reducible refine LeO.ite ?_ ?_)
   | (with_reducible refine LeO.bind ?_ (fun _ => ?_))
theorem flongref18_Row.mono : ∀ a0 k, LeO (flongref18_Row.f k a0) (flongref18_Row.f (k + 1) a0) := by
 intro a0 k
 have ih0 := flongref18_Row.mono_l k
 unfold flongref18_Row.f
 repeat' first
   | (with_reducible exact ih0 _ _ _)
   | (with_reducible exact flongref17_Normal.mono _ _)
   | (with_reducible exact flongref18_One.mono _ _ _)
   | (with_reducible exact LeO.refl _)
   | (with_reducible exact LeO.none _)
   | (with_reducible refine LeO.ite ?_ ?_)
   | (with_reducible refine LeO.bind ?_ (fun _ => ?_))
theorem flongref18_Row.calls (k : Nat) (A0 : Option Addr) (c0 : Nat) (l0 : List (S35)) (r : List Int) (w : World) (hr0 : Kd.C k35 w A0 l0.length l0) (hc0 : l0.length ≤ c0) (h : flongref18_Row.f k l0 = some r) :
  Calls Tryd.prog 17 #[.slice A0 l0.length c0] w fun e w' => ∃ v0_ : Value, e = .returned (v0_) ∧ Kd.R (Kd.int .u8) 5 w' w.heap.size (fun _ => True) v0_ r ∧ Below w.heap.size w w' := by
 have hu35 := Tryd.underlying35
 have HR0 := Aside0.mk hr0
 have HC0 := Aside0.mk hc0
 clear hr0 hc0
 have HB := Aside0.mk (Below.refl w.heap.size w)
 have H : ((flongref17_Normal.f k l0).bind fun t413 => (flongref18_Row.l0 k t413 ([] : List Int) 0)) = some r := h
 clear h
 replace H := Option.bind_eq_some_iff.mp H
 obtain ⟨t413, A20, H⟩ := H
 replace H : (flongref18_Row.l0 k t413 ([] : List Int) 0) = some r := H
 have A2 := Aside0.mk A20
 clear A20
 have H' := Aside0.mk H
 clear H
 go_enter Tryd.func17, Tryd.ntmps17
 go_wp2_with (first | ((with_reducible refine gate_callee (f := 14) rfl ?_); refine goesL_ (some 7) rfl rfl Tryd.func14 (by kernel_rfl) rfl #[.slice A0 l0.length c0] rfl aP ?_; (with_reducible refine (flongref17_Normal.calls k _ _ l0 t413 _ ?side1 ?side2 A2.out).mono ?_); (case side1 => repeat (first | exact HR0.out | (with_reducible refine Kd.C_alloc ?_ _) | (with_reducible refine Kd.C_drewN ?_ _) | (with_reducible refine Kd.C_drew ?_))); (case side2 => exact HC0.out); rintro e w3 ⟨v414, rfl, ho0, hb⟩; refine ⟨_, rfl, ?_⟩; have HO415 := Aside0.mk (Kd.R_lower ho0 (below_size bA)); replace HB := Aside0.mk (below_step bA hb); (try clear hb); (try clear hb2); (try clear hk); (try clear hi); (try clear ho0)))
 go_loopg [4, 5] k (fun kq v4 v5 w' => ∃ (x4_1 : List Int) (x5_1 : Int), v5 = .int .i64 x5_1 ∧ Aside0 (flongref18_Row.l0 kq t413 x4_1 x5_1 = some r) ∧ Aside0 (kq ≤ k) ∧ Aside0 (Kd.R k35 35 w' w.heap.size (fun _ => True) v414 t413) ∧ Aside0 (Kd.R (Kd.int .u8) 5 w' w.heap.size (fun _ => True) v4 x4_1) ∧ Aside0 (Below w.heap.size w w'))
 case atStart => exact ⟨(([] : List Int)), (0), sA, H', ⟨Nat.le_refl _⟩, ⟨kR HO415⟩, ⟨by first | exact Kd.R_nil _ _ _ _ _ | exact Kd.N_nil _ _ _ _ _ | exact Kd.V_nil _ _ _ _ _ | exact Kd.Q_nil _ _ _ _ _ | exact Kd.S_nil _ _ _ _ _⟩, ⟨bA⟩⟩
 case round =>
  clear H'
  try clear c1
  try clear p2
  obtain ⟨x4_1, x5_1, rfl, HA, HK1, HO_3, HO_4, HB⟩ := hrel
  cases gk with
  | zero => exact absurd HA.out (by simp [flongref18_Row.l0])
  | succ k1 =>
   have H := HA.out
   clear HA
   simp only [flongref18_Row.l0] at H
   by_cases c4 : x5_1 < (t413.length : Int)
   ·rw [if_pos c4] at H
    have c4b0 : decide (x5_1 < (t413.length : Int)) = true := decide_eq_true c4
    clear c4
    by_cases c5 : 0 ≤ x5_1
    ·rw [if_pos c5] at H
     have c5b0 : decide (0 ≤ x5_1) = true := decide_eq_true c5
     clear c5
     replace H := Option.bind_eq_some_iff.mp H
     obtain ⟨t417, A60, H⟩ := H
     replace H : (if x4_1.length + t417.length < 140737488355328 then (flongref18_Row.l0 k1 t413 (x4_1 ++ t417) (wrap64 (x5_1 + 1))) else (none)) = some r := H
     have A6 := Aside0.mk A60
     clear A60
     by_cases c7 : x4_1.length + t417.length < 140737488355328
     ·rw [if_pos c7] at H
      have LMc7 := Aside0.mk c7
      clear c7
      obtain ⟨y420, hy420⟩ : ∃ y_ : List Int, y_ = (x4_1 ++ t417) := ⟨_, rfl⟩
      replace H : (flongref18_Row.l0 k1 t413 y420 (wrap64 (x5_1 + 1))) = some r := hyA hy420 H
      have Ny420 := Aside0.mk hy420
      clear hy420
      have H' := Aside0.mk H
      clear H
      obtain ⟨Ao8, co8, eo8⟩ := Kd.R_slice HO_3.out
      subst eo8
      have p416 : 0 ≤ (x5_1 : Int) := of_decide_eq_true asA
      have q416 : x5_1 < (t413.length : Int) := of_decide_eq_true asA
      obtain ⟨ad416, e416, hx416_0, hx416_1⟩ := at_T35 (Kd.R_reads' HO_3.out).2.2 x5_1 p416 q416
      cases e416
      replace p416 := eq_true p416
      replace q416 := eq_true q416
      go_wp2_with (first | ((with_reducible refine gate_callee (f := 40) rfl ?_); refine goesL_ (some 19) rfl rfl Tryd.func40 (by kernel_rfl) rfl #[.agg #[.int .i32 ((rd_T35 t413 x5_1).f0), .int .u8 ((rd_T35 t413 x5_1).f1)]] rfl aP ?_; (with_reducible refine (flongref18_One.calls k1 ((rd_T35 t413 x5_1).f0) ((rd_T35 t413 x5_1).f1) t417 _ A6.out).mono ?_); rintro e w9 ⟨v418, rfl, ho0, hb⟩; refine ⟨_, rfl, ?_⟩; have n0_ := Aside0.mk (Kd.R_below (kR HO_3) hb); have n1_ := Aside0.mk (Kd.R_below (kR HO_4) hb); have n2_ := Aside0.mk (Kd.V_lower (Kd.V_mono (ok' := fun k_ => some k_ ≠ (.slice (some ad416) t413.length co8 : Value).ownBlock ∧ some k_ ≠ (u4 : Value).ownBlock) ho0 (fun k_ hk_ => ⟨(Kd.fresh' (Kd.R_lt (kR HO_3)) k_ hk_), (Kd.fresh' (Kd.R_lt (kR HO_4)) k_ hk_)⟩)) (below_size bA)); have n3_ := Aside0.mk (below_step bA hb); clear HO_3; clear HO_4; clear HB; have HO_3 := n0_; have HO_4 := n1_; have HO419 := n2_; have HB := n3_; clear n0_ n1_ n2_ n3_; (try clear hb); (try clear hb2); (try clear hk); (try clear hi); (try clear ho0); obtain ⟨Ao11, co11, eo11⟩ := Kd.V_slice HO419.out; subst eo11) | ((with_reducible refine gate_builtin (b := .append) (xs := #[.tmp 14, .tmp 19]) rfl ?_); at_builtin; refine Kd.R_append_rows (Kd.int .u8) (w0 := w) w.heap.size rfl (.tmp 14) (.tmp 19) 25 5 (.int .u8 0) 1 rfl Tryd.underlying25 info5 rfl (by decide) (by omega) u4 x4_1 t417 _ _ _ (fun _ => True) (fun _ => False) rfl rfl ?aO ?aR (fun _ _ h => h) (fun _ h => h.elim) ?aF ?aB ?aS ?aL ?_; (case aR => repeat (first | exact (Kd.V_reads' HO419.out).2.2 | (with_reducible refine Kd.C_alloc ?_ _) | (with_reducible refine Kd.C_drewN ?_ _) | (with_reducible refine Kd.C_drew ?_))); (case aB => exact bA); (case aF => exact (fun _ _ => trivial)); (case aO => exact (kR HO_4)); (case aS => exact (below_size bA)); (case aL => have := LMc7.out; omega); intro v421 w10 ho hb hg hat; rw [← Ny420.out] at ho; have n0_ := Aside0.mk (Kd.R_over' (kR HO_3) (Kd.R_typed (kR HO_4)) (by decide) hg); have n1_ := Aside0.mk (Kd.V_afterv (ok := (fun k_ => some k_ ≠ (.slice (some ad416) t413.length co8 : Value).ownBlock)) (kV HO419) hg hat); have n2_ := Aside0.mk (hb); have n3_ := Aside0.mk (ho); clear HO_3; clear HO419; clear HB; clear HO_4; have HO_3 := n0_; have HO419 := n1_; have HB := n2_; have HO422 := n3_; clear n0_ n1_ n2_ n3_; clear ho hb hg hat))
      go_roundg k1
      case measure => have := HK1.out; omega
      case rel => exact ⟨(y420), (wrap64 (x5_1 + 1)), sA, H', ⟨by have := HK1.out; omega⟩, ⟨kR HO_3⟩, ⟨kR HO422⟩, ⟨bA⟩⟩
     ·rw [if_neg c7] at H
      exact absurd H (by simp)
    ·rw [if_neg c5] at H
     exact absurd H (by simp)
   ·rw [if_neg c4] at H
    have c4b0 : decide (x5_1 < (t413.length : Int)) = false := decide_eq_false c4
    clear c4
    obtain rfl := Option.some.inj H
    obtain ⟨Ao12, co12, eo12⟩ := Kd.R_slice HO_3.out
    subst eo12
    go_wp2
    go_ret
    exact ⟨_, eW, kR HO_4, bA⟩

/-! ### flongref18_begins: function 50 -/
def flongref18_begins.f (l0 : List Int) (l1 : List Int) : Option (Bool) := if (l0.length : Int) ≥ (l1.length : Int) then (if 0 ≤ (l1.length : Int) then (if (l1.length : Int) ≤ (l0.length : Int) then (some ((strOfNums (l0.take ((l1.length : Int) : Int).toNat)).toList == (strOfNums l1).toList)) else (none)) else (none)) else (some false)
theorem flongref18_begins.calls (A0 : Option Addr) (c0 : Nat) (l0 : List Int) (A1 : Option Addr) (c1 : Nat) (l1 : List Int) (r : Bool) (w : World) (hr0 : Kd.C (Kd.int .u8) w A0 l0.length l0) (hc0 : l0.length ≤ c0) (hr1 : Kd.C (Kd.int .u8) w A1 l1.length l1) (hc1 : l1.length ≤ c1) (h : flongref18_begins.f l0 l1 = some r) :
  Calls Tryd.prog 50 #[.slice A0 l0.length c0, .slice A1 l1.length c1] w fun e w' => e = .returned (.bool r) ∧ Drawn0 w w' := by
 have HR0 := Aside0.mk hr0
 have HC0 := Aside0.mk hc0
 clear hr0 hc0
 have HR1 := Aside0.mk hr1
 have HC1 := Aside0.mk hc1
 clear hr1 hc1
 have H : (if (l0.length : Int) ≥ (l1.length : Int) then (if 0 ≤ (l1.length : Int) then (if (l1.length : Int) ≤ (l0.length : Int) then (some ((strOfNums (l0.take ((l1.length : Int) : Int).toNat)).toList == (strOfNums l1).toList)) else (none)) else (none)) else (some false)) = some r := h
 clear h
 by_cases c3 : (l0.length : Int) ≥ (l1.length : Int)
 ·rw [if_pos c3] at H
  have c3b0 : decide ((l1.length : Int) ≤ (l0.length : Int)) = true := decide_eq_true c3
  have c3b1 : decide (l1.length ≤ l0.length) = true := decide_eq_true (Int.ofNat_le.mp c3)
  clear c3
  by_cases c4 : 0 ≤ (l1.length : Int)
  ·rw [if_pos c4] at H
   have c4b0 := eq_true c4
   have c4b1 : decide (0 ≤ (l1.length : Int)) = true := decide_eq_true c4
   clear c4
   by_cases c5 : (l1.length : Int) ≤ (l0.length : Int)
   ·rw [if_pos c5] at H
    have c5b0 := eq_true c5
    have c5b1 : decide ((l1.length : Int) ≤ (l0.length : Int)) = true := decide_eq_true c5
    clear c5
    obtain rfl := Option.some.inj H
    obtain ⟨i06, hi06, _, hsz6, _⟩ := info_parts info5
    obtain ⟨hcut6, hA6, hC6⟩ := print_take_of (P := Tryd.prog) (Value.int .u8) 0 25 5 .i64 Tryd.underlying25 hi06 hsz6 A0 c0 l0 (l1.length : Int) (of_decide_eq_true asA) (of_decide_eq_true asA) HC0.out
    have HR423 := Aside0.mk (Kd.C_of_reads (h1 := fun _ => rfl) (hA6 _ (Kd.reads_of_C HR0.out)))
    have HC423 := Aside0.mk hC6
    clear hA6 hC6 hi06 hsz6
    have hcv7 := Kd.C_string (P := Tryd.prog) (A := A0) (c := c0) Tryd.underlying25 Tryd.underlying5 Tryd.underlying9 HR423.out
    have hcv7t := hcv7
    (try simp only [List.length_take, Int.toNat_natCast] at hcv7t)
    (try (have hcv7u := hcv7; rw [List.length_take, Nat.min_eq_left (show ((l1.length : Int) : Int).toNat ≤ l0.length by have h_ := of_decide_eq_true (show decide (((l1.length : Int) : Int) ≤ (l0.length : Int)) = true from asA); omega)] at hcv7u))
    (try (have hcv7v := fun m_ : Nat => Kd.C_string (P := Tryd.prog) (A := A0) (c := c0) Tryd.underlying25 Tryd.underlying5 Tryd.underlying9 (Kd.C_drewN HR423.out m_); try simp only [List.length_take, Int.toNat_natCast] at hcv7v))
    have hcv8 := Kd.C_string (P := Tryd.prog) (A := A1) (c := c1) Tryd.underlying25 Tryd.underlying5 Tryd.underlying9 HR1.out
    (try (have hcv8v := fun m_ : Nat => Kd.C_string (P := Tryd.prog) (A := A1) (c := c1) Tryd.underlying25 Tryd.underlying5 Tryd.underlying9 (Kd.C_drewN HR1.out m_); try simp only [List.length_take, Int.toNat_natCast] at hcv8v))
    go_enter Tryd.func50, Tryd.ntmps50
    go_wp2
    repeat (go_quiet (fail); try go_wp2)
    go_ret
    exact ⟨sA, by repeat (first | exact Drawn0.refl _ | apply Drawn0.step)⟩
   ·rw [if_neg c5] at H
    exact absurd H (by simp)
  ·rw [if_neg c4] at H
   exact absurd H (by simp)
 ·rw [if_neg c3] at H
  have c3b0 : decide ((l1.length : Int) ≤ (l0.length : Int)) = false := decide_eq_false c3
  have c3b1 : decide (l1.length ≤ l0.length) = false := decide_eq_false (fun h => c3 (Int.ofNat_le.mpr h))
  clear c3
  obtain rfl := Option.some.inj H
  go_enter Tryd.func50, Tryd.ntmps50
  go_wp2
  repeat (go_quiet (fail); try go_wp2)
  go_ret
  exact ⟨sA, by repeat (first | exact Drawn0.refl _ | apply Drawn0.step)⟩

/-! ### flongref02_value: function 86 -/
mutual
def flongref02_value.j0 : Nat → List Int → Int → Option (Int)
 | 0, _, _ => none
 | k + 1, x0, x3 => flongref02_value.l0 k x0 x3 1
def flongref02_value.l0 : Nat → List Int → Int → Int → Option (Int)
 | 0, _, _, _ => none
 | k + 1, x0, x3, x4 => if x4 < (x0.length : Int) then (if 0 ≤ x4 then (flongref02_value.l0 k x0 (wrap64 ((wrap64 ((wrap64 (x3 * 64)) + (wrap64 (rd x0 x4)))) - 128)) (wrap64 (x4 + 1))) else (none)) else (some x3)
end
def flongref02_value.f (k : Nat) (l0 : List Int) : Option (Int) := if 0 < (l0.length : Int) then (if (l0.length : Int) = 2 then (flongref02_value.j0 k l0 (wrap64 ((wrap64 (rd l0 0)) - 192))) else (if (l0.length : Int) = 3 then (flongref02_value.j0 k l0 (wrap64 ((wrap64 (rd l0 0)) - 224))) else (if (l0.length : Int) = 4 then (flongref02_value.j0 k l0 (wrap64 ((wrap64 (rd l0 0)) - 240))) else (flongref02_value.j0 k l0 (wrap64 (rd l0 0)))))) else (none)
theorem flongref02_value.mono_l : ∀ k, (∀ y0 y1, LeO (flongref02_value.j0 k y0 y1) (flongref02_value.j0 (k + 1) y0 y1)) ∧ (∀ y0 y1 y2, LeO (flongref02_value.l0 k y0 y1 y2) (flongref02_value.l0 (k + 1) y0 y1 y2))
 | 0 => ⟨fun _ _ r h => by simp [flongref02_value.j0] at h, fun _ _ _ r h => by simp [flongref02_value.l0] at h⟩
 | k + 1 => by
  obtain ⟨ih0, ih1⟩ := flongref02_value.mono_l k
  refine ⟨?_, ?_⟩
  ·intro y0 y1
   unfold flongref02_value.j0
   repeat' first
   | (with_reducible exact ih0 _ _)
   | (with_reducible exact ih1 _ _ _)
   | (with_reducible exact LeO.refl _)
   | (with_reducible exact LeO.none _)
   | (with_reducible refine LeO.ite ?_ ?_)
   | (with_reducible refine LeO.bind ?_ (fun _ => ?_))
  ·intro y0 y1 y2
   unfold flongref02_value.l0
   repeat' first
   | (with_reducible exact ih0 _ _)
   | (with_reducible exact ih1 _ _ _)
   | (with_reducible exact LeO.refl _)
   | (with_reducible exact LeO.none _)
   | (with_reducible refine LeO.ite ?_ ?_)
   | (with_reducible refine LeO.bind ?_ (fun _ => ?_))
theorem flongref02_value.mono : ∀ a0 k, LeO (flongref02_value.f k a0) (flongref02_value.f (k + 1) a0) := by
 intro a0 k
 obtain ⟨ih0, ih1⟩ := flongref02_value.mono_l k
 unfold flongref02_value.f
 repeat' first
   | (with_reducible exact ih0 _ _)
   | (with_reducible exact ih1 _ _ _)
   | (with_reducible exact LeO.refl _)
   | (with_reducible exact LeO.none _)
   | (with_reducible refine LeO.ite ?_ ?_)
   | (with_reducible refine LeO.bind ?_ (fun _ => ?_))
theorem flongref02_value.calls (k : Nat) (A0 : Option Addr) (c0 : Nat) (l0 : List Int) (r : Int) (w : World) (hr0 : Kd.C (Kd.int .u8) w A0 l0.length l0) (hc0 : l0.length ≤ c0) (h : flongref02_value.f k l0 = some r) :
  Calls Tryd.prog 86 #[.slice A0 l0.length c0] w fun e w' => e = .returned (.int .i64 r) ∧ Drawn0 w w' := by
 have HR0 := Aside0.mk hr0
 have HC0 := Aside0.mk hc0
 clear hr0 hc0
 have H : (if 0 < (l0.length : Int) then (if (l0.length : Int) = 2 then (flongref02_value.j0 k l0 (wrap64 ((wrap64 (rd l0 0)) - 192))) else (if (l0.length : Int) = 3 then (flongref02_value.j0 k l0 (wrap64 ((wrap64 (rd l0 0)) - 224))) else (if (l0.length : Int) = 4 then (flongref02_value.j0 k l0 (wrap64 ((wrap64 (rd l0 0)) - 240))) else (flongref02_value.j0 k l0 (wrap64 (rd l0 0)))))) else (none)) = some r := h
 clear h
 by_cases c2 : 0 < (l0.length : Int)
 ·rw [if_pos c2] at H
  have c2b0 : decide (0 < (l0.length : Int)) = true := decide_eq_true c2
  have c2b1 : decide (0 < l0.length) = true := decide_eq_true (by omega)
  clear c2
  have HC3 := Aside0.mk H
  clear H
  have p424 : 0 ≤ (0 : Int) := (by omega)
  have q424 : 0 < (l0.length : Int) := of_decide_eq_true asA
  obtain ⟨ad424, e424, hx424_0⟩ := Kd.at_int HR0.out 0 p424 q424
  cases e424
  have qi424 : (0 < l0.length) = True := eq_true (by omega)
  (try rw [show ((0 : Int)).toNat = 0 from rfl] at hx424_0)
  (try rw [Addr.add_zero'] at hx424_0)
  replace p424 := eq_true p424
  replace q424 := eq_true q424
  go_enter Tryd.func86, Tryd.ntmps86
  go_upto_block 0 with (fail)
  go_cut [3] (fun v3 wc => ∃ (kq : Nat) (x3_2 : Int), v3 = .int .i64 x3_2 ∧ Aside0 (flongref02_value.j0 kq l0 x3_2 = some r) ∧ Aside0 (kq ≤ k) ∧ Drawn0 w wc)
  case first =>
   have H := HC3.out
   clear HC3
   by_cases c4 : (l0.length : Int) = 2
   ·rw [if_pos c4] at H
    have c4b0 : ((l0.length : Int) == 2) = true := beq_iff_eq.mpr c4
    have c4b1 : ((l0.length : Int) != 2) = false := bne_eq_false_iff_eq.mpr c4
    clear c4
    (first | rw [c4b0] | (simp only [i64_w, i32_w]; rw [c4b0]) | skip)
    have H' := Aside0.mk H
    clear H
    go_wp2
    go_meet
    case rel => exact ⟨_, (wrap64 ((wrap64 (rd l0 0)) - 192)), sA, H', ⟨by first | omega | exact Nat.le_refl _⟩, by repeat (first | exact Drawn0.refl _ | apply Drawn0.step)⟩
   ·rw [if_neg c4] at H
    have c4b0 : ((l0.length : Int) == 2) = false := beq_eq_false_iff_ne.mpr c4
    have c4b1 : ((l0.length : Int) != 2) = true := bne_iff_ne.mpr c4
    (first | rw [c4b0] | (simp only [i64_w, i32_w]; rw [c4b0]) | skip)
    by_cases c5 : (l0.length : Int) = 3
    ·rw [if_pos c5] at H
     have c5b0 : ((l0.length : Int) == 3) = true := beq_iff_eq.mpr c5
     have c5b1 : ((l0.length : Int) != 3) = false := bne_eq_false_iff_eq.mpr c5
     clear c5
     have H' := Aside0.mk H
     clear H
     go_wp2
     go_meet
     case rel => exact ⟨_, (wrap64 ((wrap64 (rd l0 0)) - 224)), sA, H', ⟨by first | omega | exact Nat.le_refl _⟩, by repeat (first | exact Drawn0.refl _ | apply Drawn0.step)⟩
    ·rw [if_neg c5] at H
     have c5b0 : ((l0.length : Int) == 3) = false := beq_eq_false_iff_ne.mpr c5
     have c5b1 : ((l0.length : Int) != 3) = true := bne_iff_ne.mpr c5
     by_cases c6 : (l0.length : Int) = 4
     ·rw [if_pos c6] at H
      have c6b0 : ((l0.length : Int) == 4) = true := beq_iff_eq.mpr c6
      have c6b1 : ((l0.length : Int) != 4) = false := bne_eq_false_iff_eq.mpr c6
      clear c6
      have H' := Aside0.mk H
      clear H
      go_wp2
      go_meet
      case rel => exact ⟨_, (wrap64 ((wrap64 (rd l0 0)) - 240)), sA, H', ⟨by first | omega | exact Nat.le_refl _⟩, by repeat (first | exact Drawn0.refl _ | apply Drawn0.step)⟩
     ·rw [if_neg c6] at H
      have c6b0 : ((l0.length : Int) == 4) = false := beq_eq_false_iff_ne.mpr c6
      have c6b1 : ((l0.length : Int) != 4) = true := bne_iff_ne.mpr c6
      have H' := Aside0.mk H
      clear H
      go_wp2
      go_meet
      case rel => exact ⟨_, (wrap64 (rd l0 0)), sA, H', ⟨by first | omega | exact Nat.le_refl _⟩, by repeat (first | exact Drawn0.refl _ | apply Drawn0.step)⟩
  case rest =>
   clear HC3
   try clear c2
   try clear c2b0
   try clear c2b1
   try clear p2
   try clear c4
   try clear c4b0
   try clear c4b1
   try clear p4
   try clear q4
   try clear hx4
   try clear qi4
   try clear c5
   try clear c5b0
   try clear c5b1
   try clear c6
   try clear c6b0
   try clear c6b1
   try clear p6
   try clear hx424_0
   try clear p424
   try clear q424
   obtain ⟨kq, x3_2, rfl, HA, HJ2, ⟨mc2, rfl⟩⟩ := hcut
   cases kq with
   | zero => exact absurd HA.out (by simp [flongref02_value.j0])
   | succ kj2 =>
    have H := HA.out
    clear HA
    simp only [flongref02_value.j0] at H
    have H' := Aside0.mk H
    clear H
    go_wp2
    go_loopg [3, 4] kj2 (fun kq v3 v4 w' => ∃ (x3_2 : Int) (x4_2 : Int), v3 = .int .i64 x3_2 ∧ v4 = .int .i64 x4_2 ∧ Aside0 (flongref02_value.l0 kq l0 x3_2 x4_2 = some r) ∧ Aside0 (kq ≤ kj2) ∧ Drawn0 w w')
    case atStart => exact ⟨(x3_2), (1), sA, sA, H', ⟨Nat.le_refl _⟩, by repeat (first | exact Drawn0.refl _ | apply Drawn0.step)⟩
    case round =>
     clear H'
     try clear c2
     try clear c2b0
     try clear c2b1
     try clear p2
     try clear c4
     try clear c4b0
     try clear c4b1
     try clear p4
     try clear q4
     try clear hx4
     try clear qi4
     try clear c5
     try clear c5b0
     try clear c5b1
     try clear c6
     try clear c6b0
     try clear c6b1
     try clear p6
     try clear hx424_0
     try clear p2
     try clear p4
     try clear p424
     try clear p6
     try clear q4
     try clear q424
     obtain ⟨x3_2, x4_2, rfl, rfl, HA, HK2, ⟨m2, rfl⟩⟩ := hrel
     cases gk with
     | zero => exact absurd HA.out (by simp [flongref02_value.l0])
     | succ k2 =>
      have H := HA.out
      clear HA
      simp only [flongref02_value.l0] at H
      by_cases c7 : x4_2 < (l0.length : Int)
      ·rw [if_pos c7] at H
       have c7b0 : decide (x4_2 < (l0.length : Int)) = true := decide_eq_true c7
       clear c7
       by_cases c8 : 0 ≤ x4_2
       ·rw [if_pos c8] at H
        have c8b0 : decide (0 ≤ x4_2) = true := decide_eq_true c8
        clear c8
        have H' := Aside0.mk H
        clear H
        have p425 : 0 ≤ (x4_2 : Int) := of_decide_eq_true asA
        have q425 : x4_2 < (l0.length : Int) := of_decide_eq_true asA
        obtain ⟨ad425, e425, hx425_0⟩ := Kd.at_int HR0.out x4_2 p425 q425
        obtain rfl : ad424 = ad425 := (by injection e425)
        replace p425 := eq_true p425
        replace q425 := eq_true q425
        go_wp2
        go_roundg k2
        case measure => have := HJ2.out; have := HK2.out; omega
        case rel => exact ⟨(wrap64 ((wrap64 ((wrap64 (x3_2 * 64)) + (wrap64 (rd l0 x4_2)))) - 128)), (wrap64 (x4_2 + 1)), sA, sA, H', ⟨by have := HJ2.out; have := HK2.out; omega⟩, by repeat (first | exact Drawn0.refl _ | apply Drawn0.step)⟩
       ·rw [if_neg c8] at H
        exact absurd H (by simp)
      ·rw [if_neg c7] at H
       have c7b0 : decide (x4_2 < (l0.length : Int)) = false := decide_eq_false c7
       clear c7
       obtain rfl := Option.some.inj H
       go_wp2
       go_ret
       exact ⟨sA, by repeat (first | exact Drawn0.refl _ | apply Drawn0.step)⟩
 ·rw [if_neg c2] at H
  exact absurd H (by simp)

end Go.Proofs.YtmeinakeiefcdaaDoor.X
