-- Written by this session's xprint.py (a variant of the kit's printer). Not trusted: Lean checks it.
import Derived.Test.YtmeinakeiefcdaaDoorX0
import Derived.Test.YtmeinakeiefcdaaDoorX3
import Derived.Test.YtmeinakeiefcdaaDoorHandA
namespace Go.Proofs.YtmeinakeiefcdaaDoor.X
open Go.Proofs.YtmeinakeiefcdaaDoor.Hand
open Go.RowKit Go.Proofs.YtmeinakeiefcdaaDoorW.PrintWords Go.Proofs.YtmeinakeiefcdaaDoorW.PrintLast Go.Proofs.YtmeinakeiefcdaaDoorW.PrintMore
attribute [local go_sem] max2_int min2_int max_two min_two max_three min_three max_four min_four   -- for this text's walks alone
set_option linter.unusedVariables false
set_option maxHeartbeats 8000000
set_option maxRecDepth 100000
set_option linter.unusedSimpArgs false

/-! ### flongref17_Normal: function 14 -/
mutual
def flongref17_Normal.l0 : Nat → List (S35) → List (S35) → Int → Option ((List (S35)))
 | 0, _, _, _ => none
 | k + 1, x3, x4, x5 => if x5 < (x3.length : Int) then (if 0 ≤ x5 then (if x5 > 0 then ((flongref02_Width.f k ((rd_T35 x3 x5).f0)).bind fun t281 => (flongref17_Normal.j1 k x3 x4 x5 (t281 == 0) ((rd_T35 x3 x5).f0) ((rd_T35 x3 x5).f1))) else (flongref17_Normal.j1 k x3 x4 x5 false ((rd_T35 x3 x5).f0) ((rd_T35 x3 x5).f1))) else (none)) else (some x4)
def flongref17_Normal.j1 : Nat → List (S35) → List (S35) → Int → Bool → Int → Int → Option ((List (S35)))
 | 0, _, _, _, _, _, _ => none
 | k + 1, x3, x4, x5, x27, x281000, x281001 => if x27 = true then (if 0 ≤ (wrap64 (x5 - 1)) then (if (wrap64 (x5 - 1)) < (x4.length : Int) then (if x281000 = 32 then (if x4.length < 17592186044416 then (flongref17_Normal.l0 k x3 (x4 ++ [(⟨x281000, 0⟩ : S35)]) (wrap64 (x5 + 1))) else (none)) else (if x4.length < 17592186044416 then (flongref17_Normal.l0 k x3 (x4 ++ [(⟨x281000, (rd_T35 x4 (wrap64 (x5 - 1))).f1⟩ : S35)]) (wrap64 (x5 + 1))) else (none))) else (none)) else (none)) else (if x281000 = 32 then (if x4.length < 17592186044416 then (flongref17_Normal.l0 k x3 (x4 ++ [(⟨x281000, 0⟩ : S35)]) (wrap64 (x5 + 1))) else (none)) else (if x4.length < 17592186044416 then (flongref17_Normal.l0 k x3 (x4 ++ [(⟨x281000, x281001⟩ : S35)]) (wrap64 (x5 + 1))) else (none)))
end
def flongref17_Normal.f (k : Nat) (l0 : List (S35)) : Option ((List (S35))) := (flongref03_Clean.f k l0).bind fun t273 => ((flongref03_Trim.f k t273).bind fun t276 => (flongref17_Normal.l0 k t276 ([] : List (S35)) 0))
theorem flongref17_Normal.mono_l : ∀ k, (∀ y0 y1 y2, LeO (flongref17_Normal.l0 k y0 y1 y2) (flongref17_Normal.l0 (k + 1) y0 y1 y2)) ∧ (∀ y0 y1 y2 y3 y4 y5, LeO (flongref17_Normal.j1 k y0 y1 y2 y3 y4 y5) (flongref17_Normal.j1 (k + 1) y0 y1 y2 y3 y4 y5))
 | 0 => ⟨fun _ _ _ r h => by simp [flongref17_Normal.l0] at h, fun _ _ _ _ _ _ r h => by simp [flongref17_Normal.j1] at h⟩
 | k + 1 => by
  obtain ⟨ih0, ih1⟩ := flongref17_Normal.mono_l k
  refine ⟨?_, ?_⟩
  ·intro y0 y1 y2
   unfold flongref17_Normal.l0
   repeat' first
   | (with_reducible exact ih0 _ _ _)
   | (with_reducible exact ih1 _ _ _ _ _ _)
   | (with_reducible exact flongref02_Width.mono _ _)
   | (with_reducible exact flongref03_Clean.mono _ _)
   | (with_reducible exact flongref03_Trim.mono _ _)
   | (with_reducible exact LeO.refl _)
   | (with_reducible exact LeO.none _)
   | (with_reducible refine LeO.ite ?_ ?_)
   | (with_reducible refine LeO.bind ?_ (fun _ => ?_))
  ·intro y0 y1 y2 y3 y4 y5
   unfold flongref17_Normal.j1
   repeat' first
   | (with_reducible exact ih0 _ _ _)
   | (with_reducible exact ih1 _ _ _ _ _ _)
   | (with_reducible exact flongref02_Width.mono _ _)
   | (with_reducible exact flongref03_Clean.mono _ _)
   | (with_reducible exact flongref03_Trim.mono _ _)
   | (with_reducible exact LeO.refl _)
   | (with_reducible exact LeO.none _)
   | (with_reducible refine LeO.ite ?_ ?_)
   | (with_reducible refine LeO.bind ?_ (fun _ => ?_))
theorem flongref17_Normal.mono : ∀ a0 k, LeO (flongref17_Normal.f k a0) (flongref17_Normal.f (k + 1) a0) := by
 intro a0 k
 obtain ⟨ih0, ih1⟩ := flongref17_Normal.mono_l k
 unfold flongref17_Normal.f
 repeat' first
   | (with_reducible exact ih0 _ _ _)
   | (with_reducible exact ih1 _ _ _ _ _ _)
   | (with_reducible exact flongref02_Width.mono _ _)
   | (with_reducible exact flongref03_Clean.mono _ _)
   | (with_reducible exact flongref03_Trim.mono _ _)
   | (with_reducible exact LeO.refl _)
   | (with_reducible exact LeO.none _)
   | (with_reducible refine LeO.ite ?_ ?_)
   | (with_reducible refine LeO.bind ?_ (fun _ => ?_))
theorem flongref17_Normal.calls (k : Nat) (A0 : Option Addr) (c0 : Nat) (l0 : List (S35)) (r : List (S35)) (w : World) (hr0 : Kd.C k35 w A0 l0.length l0) (hc0 : l0.length ≤ c0) (h : flongref17_Normal.f k l0 = some r) :
  Calls Tryd.prog 14 #[.slice A0 l0.length c0] w fun e w' => ∃ v0_ : Value, e = .returned (v0_) ∧ Kd.R k35 35 w' w.heap.size (fun _ => True) v0_ r ∧ Below w.heap.size w w' := by
 have hu35 := Tryd.underlying35
 have HR0 := Aside0.mk hr0
 have HC0 := Aside0.mk hc0
 clear hr0 hc0
 have HB := Aside0.mk (Below.refl w.heap.size w)
 have H : ((flongref03_Clean.f k l0).bind fun t273 => ((flongref03_Trim.f k t273).bind fun t276 => (flongref17_Normal.l0 k t276 ([] : List (S35)) 0))) = some r := h
 clear h
 replace H := Option.bind_eq_some_iff.mp H
 obtain ⟨t273, A20, H⟩ := H
 replace H : ((flongref03_Trim.f k t273).bind fun t276 => (flongref17_Normal.l0 k t276 ([] : List (S35)) 0)) = some r := H
 have A2 := Aside0.mk A20
 clear A20
 replace H := Option.bind_eq_some_iff.mp H
 obtain ⟨t276, A30, H⟩ := H
 replace H : (flongref17_Normal.l0 k t276 ([] : List (S35)) 0) = some r := H
 have A3 := Aside0.mk A30
 clear A30
 have H' := Aside0.mk H
 clear H
 go_enter Tryd.func14, Tryd.ntmps14
 go_wp2_with (first | ((with_reducible refine gate_callee (f := 30) rfl ?_); refine goesL_ (some 8) rfl rfl Tryd.func30 (by kernel_rfl) rfl #[.slice A0 l0.length c0] rfl (by (try simp only [List.map_toArray, List.map_cons, List.map_nil]); first | done | rfl | (simp only [List.length_drop, List.length_take]; rfl)) ?_; (with_reducible refine (flongref03_Clean.calls k _ _ l0 t273 _ ?side1 ?side2 A2.out).mono ?_); (case side1 => repeat (first | exact HR0.out | (with_reducible refine Kd.C_alloc ?_ _) | (with_reducible refine Kd.C_drewN ?_ _) | (with_reducible refine Kd.C_drew ?_))); (case side2 => exact HC0.out); rintro e w4 ⟨v274, rfl, ho0, hb⟩; refine ⟨_, rfl, ?_⟩; have n0_ := Aside0.mk (Kd.R_lower ho0 (below_size (by repeat (first | (with_reducible first | exact HB.out | apply below_alloc | apply pw_below_drewN | apply below_drew1) | exact HB.out)))); have n1_ := Aside0.mk (below_step (by repeat (first | (with_reducible first | exact HB.out | apply below_alloc | apply pw_below_drewN | apply below_drew1) | exact HB.out)) hb); clear HB; have HO275 := n0_; have HB := n1_; clear n0_ n1_; (try clear hb); (try clear hb2); (try clear hk); (try clear hi); (try clear ho0); obtain ⟨Ao5, co5, eo5⟩ := Kd.R_slice HO275.out; subst eo5) | ((with_reducible refine gate_callee (f := 29) rfl ?_); refine goesL_ (some 9) rfl rfl Tryd.func29 (by kernel_rfl) rfl #[.slice Ao5 t273.length co5] rfl (by (try simp only [List.map_toArray, List.map_cons, List.map_nil]); first | done | rfl | (simp only [List.length_drop, List.length_take]; rfl)) ?_; (with_reducible refine (flongref03_Trim.calls k (fun k_ => some k_ = (.slice Ao5 t273.length co5 : Value).ownBlock) _ _ t273 t276 _ ?side1 A3.out).mono ?_); (case side1 => exact Kd.R_V (Kd.R_tight rfl (HO275.out))); rintro e w6 ⟨v277, rfl, ho0, hb⟩; refine ⟨_, rfl, ?_⟩; have n0_ := Aside0.mk (Kd.R_below (by (with_reducible repeat (first | apply Kd.R_alloc | apply Kd.R_drewN | apply Kd.R_drew)); exact HO275.out) hb); have n1_ := Aside0.mk (Kd.V_lower (Kd.V_mono (ok' := fun k_ => True) ho0 (fun k_ hk_ => trivial)) (below_size (by repeat (first | (with_reducible first | exact HB.out | apply below_alloc | apply pw_below_drewN | apply below_drew1) | exact HB.out)))); have n2_ := Aside0.mk (below_step (by repeat (first | (with_reducible first | exact HB.out | apply below_alloc | apply pw_below_drewN | apply below_drew1) | exact HB.out)) hb); clear HO275; clear HB; have HO275 := n0_; have HO278 := n1_; have HB := n2_; clear n0_ n1_ n2_; (try clear hb); (try clear hb2); (try clear hk); (try clear hi); (try clear ho0)))
 go_loopg [4, 5] k (fun kq v4 v5 w' => ∃ (x4_1 : List (S35)) (x5_1 : Int), v5 = .int .i64 x5_1 ∧ Aside0 (flongref17_Normal.l0 kq t276 x4_1 x5_1 = some r) ∧ Aside0 (kq ≤ k) ∧ Aside0 (Kd.V k35 35 w' w.heap.size (fun k_ => some k_ ≠ (v4 : Value).ownBlock) v277 t276) ∧ Aside0 (Kd.R k35 35 w' w.heap.size (fun _ => True) v4 x4_1) ∧ Aside0 (Below w.heap.size w w'))
 case atStart => exact ⟨(([] : List (S35))), (0), (by first | rfl | (simp; done) | (simp [*]; done)), H', ⟨Nat.le_refl _⟩, ⟨by (with_reducible repeat (first | apply Kd.V_alloc | apply Kd.V_drewN | apply Kd.V_drew)); exact Kd.V_mono HO278.out (fun _ hk => (by simp [Value.ownBlock]))⟩, ⟨by first | exact Kd.R_nil _ _ _ _ _ | exact Kd.N_nil _ _ _ _ _ | exact Kd.V_nil _ _ _ _ _ | exact Kd.Q_nil _ _ _ _ _ | exact Kd.S_nil _ _ _ _ _⟩, ⟨by repeat (first | (with_reducible first | exact HB.out | apply below_alloc | apply pw_below_drewN | apply below_drew1) | exact HB.out)⟩⟩
 case round =>
  clear H'
  try clear c1
  try clear c2
  try clear p2
  try clear c3
  obtain ⟨x4_1, x5_1, rfl, HA, HK1, HO_3, HO_4, HB⟩ := hrel
  cases gk with
  | zero => exact absurd HA.out (by simp [flongref17_Normal.l0])
  | succ k1 =>
   have H := HA.out
   clear HA
   simp only [flongref17_Normal.l0] at H
   by_cases c7 : x5_1 < (t276.length : Int)
   ·rw [if_pos c7] at H
    have c7b0 : decide (x5_1 < (t276.length : Int)) = true := decide_eq_true c7
    clear c7
    by_cases c8 : 0 ≤ x5_1
    ·rw [if_pos c8] at H
     have c8b0 : decide (0 ≤ x5_1) = true := decide_eq_true c8
     clear c8
     have HC9 := Aside0.mk H
     clear H
     obtain ⟨Ao10, co10, eo10⟩ := Kd.V_slice HO_3.out
     subst eo10
     have p279 : 0 ≤ (x5_1 : Int) := of_decide_eq_true (by first | (with_reducible assumption) | assumption)
     have q279 : x5_1 < (t276.length : Int) := of_decide_eq_true (by first | (with_reducible assumption) | assumption)
     obtain ⟨ad279, e279, hx279_0, hx279_1⟩ := at_T35 (Kd.V_reads' HO_3.out).2.2 x5_1 p279 q279
     cases e279
     replace p279 := eq_true p279
     replace q279 := eq_true q279
     go_upto_region 7 with (first | ((with_reducible refine gate_dst (N := 6) rfl ?_); refine box_event ?hg (N := 6) ?hd (cs := #[.int .i32 0, .int .u8 0]) (t := 35) ?hr ?_; (case hd => rfl); (case hg => rfl); (case hr => first | (go_simp; done) | (go_simp; rfl)); intro gb280 hg w11 hbox hb; have n0_ := Aside0.mk (Kd.V_below (Kd.V_elderB (by (with_reducible repeat (first | apply Kd.V_alloc | apply Kd.V_drewN | apply Kd.V_drew)); exact HO_3.out) gb280 (Nat.le_of_eq hg.symm)) hb); have n1_ := Aside0.mk (Kd.R_below (Kd.R_elderB (by (with_reducible repeat (first | apply Kd.R_alloc | apply Kd.R_drewN | apply Kd.R_drew)); exact HO_4.out) gb280 (Nat.le_of_eq hg.symm)) hb); have n2_ := Aside0.mk (below_step (by repeat (first | (with_reducible first | exact HB.out | apply below_alloc | apply pw_below_drewN | apply below_drew1) | exact HB.out)) hb); have n3_ := Aside0.mk (hbox); have n4_ := Aside0.mk ((by rw [hg]; exact (below_size (by repeat (first | (with_reducible first | exact HB.out | apply below_alloc | apply pw_below_drewN | apply below_drew1) | exact HB.out))) : w.heap.size ≤ gb280)); have n5_ := Aside0.mk ((by rw [hg]; exact (below_size (by repeat (first | (with_reducible first | exact HB.out | apply below_alloc | apply pw_below_drewN | apply below_drew1) | exact HB.out))) : w.heap.size ≤ gb280)); clear HO_3; clear HO_4; clear HB; have HO_3 := n0_; have HO_4 := n1_; have HB := n2_; have BK280 := n3_; have GW280 := n4_; have GE280 := n5_; clear n0_ n1_ n2_ n3_ n4_ n5_; clear hb hbox hg; have hcz12_0 : w11.cell? ⟨gb280, 0, none⟩ = some (.int .i32 0) := (blk_cell BK280.out 0).trans rfl; have hcz12_1 : w11.cell? ⟨gb280, 1, none⟩ = some (.int .u8 0) := (blk_cell BK280.out 1).trans rfl; have hfz12_0 := blk_frozen BK280.out 0; have hfz12_1 := blk_frozen BK280.out 1))
     (try simp only [Act.put, List.setIfInBounds_toArray, List.set_cons_zero, List.set_cons_succ])
     go_cut [27] (fun v27 wc => ∃ (kq : Nat) (x27_8 : Bool), v27 = .bool x27_8 ∧ Aside0 (flongref17_Normal.j1 kq t276 x4_1 x5_1 x27_8 ((rd_T35 t276 x5_1).f0) ((rd_T35 t276 x5_1).f1) = some r) ∧ Aside0 (kq ≤ k1) ∧ Aside0 (Kd.V k35 35 wc w.heap.size (fun k_ => some k_ ≠ (u4 : Value).ownBlock ∧ k_ ≠ gb280) (.slice (some ad279) t276.length co10) t276) ∧ Aside0 (Kd.R k35 35 wc w.heap.size (fun k_ => k_ ≠ gb280) u4 x4_1) ∧ Aside0 (wc.heap[gb280]? = some (.cells #[.int .i32 ((rd_T35 t276 x5_1).f0), .int .u8 ((rd_T35 t276 x5_1).f1)] 35 (0, 0))) ∧ Aside0 (Below w.heap.size w wc))
     case first =>
      have H := HC9.out
      clear HC9
      by_cases c13 : x5_1 > 0
      ·rw [if_pos c13] at H
       have c13b0 : decide (0 < x5_1) = true := decide_eq_true c13
       clear c13
       (first | rw [c13b0] | (simp only [i64_w, i32_w]; rw [c13b0]) | skip)
       replace H := Option.bind_eq_some_iff.mp H
       obtain ⟨t281, A140, H⟩ := H
       replace H : (flongref17_Normal.j1 k1 t276 x4_1 x5_1 (t281 == 0) ((rd_T35 t276 x5_1).f0) ((rd_T35 t276 x5_1).f1)) = some r := H
       have A14 := Aside0.mk A140
       clear A140
       have H' := Aside0.mk H
       clear H
       have hcz15_0 : w11.cell? ⟨gb280, 0, none⟩ = some (.int .i32 0) := (blk_cell BK280.out 0).trans rfl
       have hcz15_1 : w11.cell? ⟨gb280, 1, none⟩ = some (.int .u8 0) := (blk_cell BK280.out 1).trans rfl
       have hfz15_0 := blk_frozen BK280.out 0
       have hfz15_1 := blk_frozen BK280.out 1
       go_wp2_with (first | (go_at_call 31; (with_reducible refine (flongref02_Width.calls k1 ((rd_T35 t276 x5_1).f0) t281 _ A14.out).mono ?_); rintro e w16 ⟨rfl, hb⟩; have n0_ := Aside0.mk (Kd.V_below (by (with_reducible repeat (first | apply Kd.V_alloc | apply Kd.V_drewN | apply Kd.V_drew)); exact (Kd.V_mono (Kd.V_far (p := ⟨gb280, 1, none⟩) (Kd.V_far (p := ⟨gb280, 0, none⟩) (Kd.V_mono HO_3.out (fun k_ hk => (⟨hk, hk.2⟩ : _ ∧ k_ ≠ gb280))) (fun _ hk => hk.2) (.int .i32 ((rd_T35 t276 x5_1).f0))) (fun _ hk => hk.2) (.int .u8 ((rd_T35 t276 x5_1).f1))) (fun _ h_ => h_.1))) hb); have n1_ := Aside0.mk (Kd.R_below (by (with_reducible repeat (first | apply Kd.R_alloc | apply Kd.R_drewN | apply Kd.R_drew)); exact (Kd.R_mono (Kd.R_far (p := ⟨gb280, 1, none⟩) (Kd.R_far (p := ⟨gb280, 0, none⟩) (Kd.R_mono HO_4.out (fun k_ hk => (⟨hk, hk.2⟩ : _ ∧ k_ ≠ gb280))) (fun _ hk => hk.2) (.int .i32 ((rd_T35 t276 x5_1).f0))) (fun _ hk => hk.2) (.int .u8 ((rd_T35 t276 x5_1).f1))) (fun _ h_ => h_.1))) hb); have n2_ := Aside0.mk (blk_below (g := gb280) (o := .cells #[.int .i32 ((rd_T35 t276 x5_1).f0), .int .u8 ((rd_T35 t276 x5_1).f1)] 35 (0, 0)) (by (with_reducible repeat (first | refine blk_drewN ?_ _ | refine blk_drew ?_ | refine blk_alloc ?_ _)); refine blk_put (cs := #[.int .i32 ((rd_T35 t276 x5_1).f0), .int .u8 0]) ?_ 1 _ rfl; (with_reducible repeat (first | refine blk_drewN ?_ _ | refine blk_drew ?_ | refine blk_alloc ?_ _)); refine blk_put (cs := #[.int .i32 0, .int .u8 0]) ?_ 0 _ rfl; (with_reducible repeat (first | refine blk_drewN ?_ _ | refine blk_drew ?_ | refine blk_alloc ?_ _)); exact BK280.out) hb); have n3_ := Aside0.mk (below_step (by repeat (first | (with_reducible first | exact HB.out | apply below_alloc | apply pw_below_drewN | apply below_drew1 | refine below_set ?_ GE280.out) | exact HB.out)) hb); clear HO_3; clear HO_4; clear BK280; clear HB; have HO_3 := n0_; have HO_4 := n1_; have BK280 := n2_; have HB := n3_; clear n0_ n1_ n2_ n3_; (try clear hb); (try clear hb2); (try clear hk); (try clear hi)))
       go_meet
       case rel => exact ⟨_, ((t281 == 0)), (by first | rfl | (simp; done) | (simp [*]; done)), H', ⟨by have := HK1.out; first | omega | exact Nat.le_refl _⟩, ⟨by (with_reducible repeat (first | apply Kd.V_alloc | apply Kd.V_drewN | apply Kd.V_drew)); exact HO_3.out⟩, ⟨by (with_reducible repeat (first | apply Kd.R_alloc | apply Kd.R_drewN | apply Kd.R_drew)); exact Kd.R_mono HO_4.out (fun _ hk => hk.2)⟩, ⟨by (with_reducible repeat (first | refine blk_drewN ?_ _ | refine blk_drew ?_ | refine blk_alloc ?_ _)); exact BK280.out⟩, ⟨by repeat (first | (with_reducible first | exact HB.out | apply below_alloc | apply pw_below_drewN | apply below_drew1 | refine below_set ?_ GE280.out) | exact HB.out)⟩⟩
      ·rw [if_neg c13] at H
       have c13b0 : decide (0 < x5_1) = false := decide_eq_false c13
       clear c13
       (first | rw [c13b0] | (simp only [i64_w, i32_w]; rw [c13b0]) | skip)
       have H' := Aside0.mk H
       clear H
       go_wp2
       go_meet
       case rel => exact ⟨_, (false), (by first | rfl | (simp; done) | (simp [*]; done)), H', ⟨by have := HK1.out; first | omega | exact Nat.le_refl _⟩, ⟨by (with_reducible repeat (first | apply Kd.V_alloc | apply Kd.V_drewN | apply Kd.V_drew)); exact Kd.V_mono (Kd.V_far (p := ⟨gb280, 1, none⟩) (Kd.V_far (p := ⟨gb280, 0, none⟩) (Kd.V_mono HO_3.out (fun k_ hk => (⟨hk, hk.2⟩ : _ ∧ k_ ≠ gb280))) (fun _ hk => hk.2) (.int .i32 ((rd_T35 t276 x5_1).f0))) (fun _ hk => hk.2) (.int .u8 ((rd_T35 t276 x5_1).f1))) (fun _ hk => ⟨hk.1.1, hk.1.2⟩)⟩, ⟨by (with_reducible repeat (first | apply Kd.R_alloc | apply Kd.R_drewN | apply Kd.R_drew)); exact Kd.R_mono (Kd.R_far (p := ⟨gb280, 1, none⟩) (Kd.R_far (p := ⟨gb280, 0, none⟩) (Kd.R_mono HO_4.out (fun k_ hk => (⟨hk, hk.2⟩ : _ ∧ k_ ≠ gb280))) (fun _ hk => hk.2) (.int .i32 ((rd_T35 t276 x5_1).f0))) (fun _ hk => hk.2) (.int .u8 ((rd_T35 t276 x5_1).f1))) (fun _ hk => hk.1.2)⟩, ⟨by (with_reducible repeat (first | refine blk_drewN ?_ _ | refine blk_drew ?_ | refine blk_alloc ?_ _)); refine blk_put (cs := #[.int .i32 ((rd_T35 t276 x5_1).f0), .int .u8 0]) ?_ 1 _ rfl; (with_reducible repeat (first | refine blk_drewN ?_ _ | refine blk_drew ?_ | refine blk_alloc ?_ _)); refine blk_put (cs := #[.int .i32 0, .int .u8 0]) ?_ 0 _ rfl; (with_reducible repeat (first | refine blk_drewN ?_ _ | refine blk_drew ?_ | refine blk_alloc ?_ _)); exact BK280.out⟩, ⟨by repeat (first | (with_reducible first | exact HB.out | apply below_alloc | apply pw_below_drewN | apply below_drew1 | refine below_set ?_ GE280.out) | exact HB.out)⟩⟩
     case rest =>
      clear HC9
      try clear c1
      try clear c2
      try clear p2
      try clear q2
      try clear hx2
      try clear c3
      try clear c7
      try clear c7b0
      try clear c8
      try clear c8b0
      try clear c13
      try clear c13b0
      try clear c14
      try clear hcz12_0
      try clear hcz12_1
      try clear hcz15_0
      try clear hcz15_1
      try clear hfz12_0
      try clear hfz12_1
      try clear hfz15_0
      try clear hfz15_1
      try clear hx279_0
      try clear hx279_1
      try clear p2
      try clear p279
      try clear q279
      obtain ⟨kq, x27_8, rfl, HA, HJ8, HO_3, HO_4, BK280, HB⟩ := hcut
      cases kq with
      | zero => exact absurd HA.out (by simp [flongref17_Normal.j1])
      | succ kj8 =>
       have H := HA.out
       clear HA
       simp only [flongref17_Normal.j1] at H
       by_cases c17 : x27_8 = true
       ·subst c17
        have H1 : (if 0 ≤ (wrap64 (x5_1 - 1)) then (if (wrap64 (x5_1 - 1)) < (x4_1.length : Int) then (if ((rd_T35 t276 x5_1).f0) = 32 then (if x4_1.length < 17592186044416 then (flongref17_Normal.l0 kj8 t276 (x4_1 ++ [(⟨((rd_T35 t276 x5_1).f0), 0⟩ : S35)]) (wrap64 (x5_1 + 1))) else (none)) else (if x4_1.length < 17592186044416 then (flongref17_Normal.l0 kj8 t276 (x4_1 ++ [(⟨((rd_T35 t276 x5_1).f0), (rd_T35 x4_1 (wrap64 (x5_1 - 1))).f1⟩ : S35)]) (wrap64 (x5_1 + 1))) else (none))) else (none)) else (none)) = some r := by rw [if_pos rfl] at H; exact H
        clear H
        have H := H1
        clear H1
        obtain ⟨ji18, hji18⟩ : ∃ j_ : Int, (wrap64 (x5_1 - 1)) = j_ := ⟨_, rfl⟩
        replace H : (if 0 ≤ (ji18) then (if (ji18) < (x4_1.length : Int) then (if ((rd_T35 t276 x5_1).f0) = 32 then (if x4_1.length < 17592186044416 then (flongref17_Normal.l0 kj8 t276 (x4_1 ++ [(⟨((rd_T35 t276 x5_1).f0), 0⟩ : S35)]) (wrap64 (x5_1 + 1))) else (none)) else (if x4_1.length < 17592186044416 then (flongref17_Normal.l0 kj8 t276 (x4_1 ++ [(⟨((rd_T35 t276 x5_1).f0), (rd_T35 x4_1 (ji18)).f1⟩ : S35)]) (wrap64 (x5_1 + 1))) else (none))) else (none)) else (none)) = some r := by first | (rw [hji18] at H; exact H) | (simp only [hji18] at H ⊢; exact H)
        have hji18w : (IntKind.i64.wrap (x5_1 - 1)) = ji18 := (i64_w _).trans hji18
        by_cases c19 : 0 ≤ (ji18)
        ·rw [if_pos c19] at H
         have c19b0 : decide (0 ≤ (ji18)) = true := decide_eq_true c19
         clear c19
         by_cases c20 : (ji18) < (x4_1.length : Int)
         ·rw [if_pos c20] at H
          have c20b0 : decide ((ji18) < (x4_1.length : Int)) = true := decide_eq_true c20
          clear c20
          by_cases c21 : ((rd_T35 t276 x5_1).f0) = 32
          ·rw [if_pos c21] at H
           have c21b0 : (((rd_T35 t276 x5_1).f0) == 32) = true := beq_iff_eq.mpr c21
           have c21b1 : (((rd_T35 t276 x5_1).f0) != 32) = false := bne_eq_false_iff_eq.mpr c21
           clear c21
           by_cases c22 : x4_1.length < 17592186044416
           ·rw [if_pos c22] at H
            have LMc22 := Aside0.mk c22
            clear c22
            obtain ⟨y283, hy283⟩ : ∃ y_ : List (S35), y_ = (x4_1 ++ [(⟨((rd_T35 t276 x5_1).f0), 0⟩ : S35)]) := ⟨_, rfl⟩
            replace H : (flongref17_Normal.l0 kj8 t276 y283 (wrap64 (x5_1 + 1))) = some r := by first | (rw [hy283]; with_reducible exact H) | (have H2_ := (Option.bind_some _ _).symm.trans H; rw [hy283]; with_reducible exact H2_) | (have H2_ := (Option.bind_some _ _).symm.trans H; with_reducible exact H2_) | with_reducible exact H | (rw [hy283]; exact H) | exact H
            have Ny283 := Aside0.mk hy283
            clear hy283
            have H' := Aside0.mk H
            clear H
            obtain ⟨Ao23, co23, eo23⟩ := Kd.R_slice HO_4.out
            subst eo23
            have p282 : 0 ≤ ((ji18) : Int) := of_decide_eq_true (by first | (with_reducible assumption) | assumption)
            have q282 : (ji18) < (x4_1.length : Int) := of_decide_eq_true (by first | (with_reducible assumption) | assumption)
            obtain ⟨ad282, e282, hx282_0, hx282_1⟩ := at_T35 (Kd.R_reads' HO_4.out).2.2 (ji18) p282 q282
            cases e282
            replace p282 := eq_true p282
            replace q282 := eq_true q282
            have hcz24_0 : wc.cell? ⟨gb280, 0, none⟩ = some (.int .i32 ((rd_T35 t276 x5_1).f0)) := (blk_cell BK280.out 0).trans rfl
            have hcz24_1 : wc.cell? ⟨gb280, 1, none⟩ = some (.int .u8 ((rd_T35 t276 x5_1).f1)) := (blk_cell BK280.out 1).trans rfl
            have hfz24_0 := blk_frozen BK280.out 0
            have hfz24_1 := blk_frozen BK280.out 1
            go_wp2_with (first | ((with_reducible refine gate_builtin (b := .append) (xs := #[.tmp 39, .tmp 41]) rfl ?_); at_builtin; refine Kd.R_append k35 (w0 := w) w.heap.size rfl (.tmp 39) (.tmp 41) 27 35 (.agg #[(.int .i32 0), (.int .u8 0)]) 8 rfl Tryd.underlying27 info35 rfl (by decide) (by omega) (.slice (some ad282) x4_1.length co23) x4_1 (⟨((rd_T35 t276 x5_1).f0), 0⟩ : S35) [.int .i32 ((rd_T35 t276 x5_1).f0), .int .u8 0] (fun k_ => k_ ≠ gb280) (fun _ => False) rfl (by first | (go_simp; done) | (go_simp; rfl)) ?aP (fun _ hk => hk.elim) ?aF ?aO ?aB ?aS ?aL ?_; (case aP => exact k35_mkM _ _ _ (⟨((rd_T35 t276 x5_1).f0), 0⟩ : S35)); (case aB => exact (by repeat (first | (with_reducible first | exact HB.out | apply below_alloc | apply pw_below_drewN | apply below_drew1 | refine below_set ?_ GE280.out) | exact HB.out))); (case aF => exact (fun k_ hk => Kd.freshB (g := gb280) (o := .cells #[.int .i32 ((rd_T35 t276 x5_1).f0), .int .u8 0] 35 (0, 0)) (by (with_reducible repeat (first | refine blk_drewN ?_ _ | refine blk_drew ?_ | refine blk_alloc ?_ _)); refine blk_put (cs := #[.int .i32 ((rd_T35 t276 x5_1).f0), .int .u8 ((rd_T35 x4_1 (ji18)).f1)]) ?_ 1 _ rfl; (with_reducible repeat (first | refine blk_drewN ?_ _ | refine blk_drew ?_ | refine blk_alloc ?_ _)); refine blk_put (cs := #[.int .i32 ((rd_T35 t276 x5_1).f0), .int .u8 ((rd_T35 t276 x5_1).f1)]) ?_ 1 _ rfl; (with_reducible repeat (first | refine blk_drewN ?_ _ | refine blk_drew ?_ | refine blk_alloc ?_ _)); exact BK280.out) k_ hk)); (case aO => exact (by (with_reducible repeat (first | apply Kd.R_alloc | apply Kd.R_drewN | apply Kd.R_drew)); exact Kd.R_mono (Kd.R_far (p := ⟨gb280, 1, none⟩) (Kd.R_far (p := ⟨gb280, 1, none⟩) (Kd.R_mono HO_4.out (fun k_ hk => (⟨hk, hk⟩ : _ ∧ k_ ≠ gb280))) (fun _ hk => hk.2) (.int .u8 ((rd_T35 x4_1 (ji18)).f1))) (fun _ hk => hk.2) (.int .u8 0)) (fun _ hk => hk.1))); (case aS => exact (below_size (by repeat (first | (with_reducible first | exact HB.out | apply below_alloc | apply pw_below_drewN | apply below_drew1 | refine below_set ?_ GE280.out) | exact HB.out)))); (case aL => have := LMc22.out; omega); intro v284 w25 ho hb hg hat; rw [← Ny283.out] at ho; have n0_ := Aside0.mk (Kd.V_afterv (ok := (fun k_ => k_ ≠ gb280)) (by (with_reducible repeat (first | apply Kd.V_alloc | apply Kd.V_drewN | apply Kd.V_drew)); exact Kd.V_mono (Kd.V_far (p := ⟨gb280, 1, none⟩) (Kd.V_far (p := ⟨gb280, 1, none⟩) (Kd.V_mono HO_3.out (fun k_ hk => (⟨hk, hk.2⟩ : _ ∧ k_ ≠ gb280))) (fun _ hk => hk.2) (.int .u8 ((rd_T35 x4_1 (ji18)).f1))) (fun _ hk => hk.2) (.int .u8 0)) (fun _ hk => ⟨hk.1.2, hk.1.1⟩)) hg hat); have n1_ := Aside0.mk (blk_grown (g := gb280) (o := .cells #[.int .i32 ((rd_T35 t276 x5_1).f0), .int .u8 0] 35 (0, 0)) (by (with_reducible repeat (first | refine blk_drewN ?_ _ | refine blk_drew ?_ | refine blk_alloc ?_ _)); refine blk_put (cs := #[.int .i32 ((rd_T35 t276 x5_1).f0), .int .u8 ((rd_T35 x4_1 (ji18)).f1)]) ?_ 1 _ rfl; (with_reducible repeat (first | refine blk_drewN ?_ _ | refine blk_drew ?_ | refine blk_alloc ?_ _)); refine blk_put (cs := #[.int .i32 ((rd_T35 t276 x5_1).f0), .int .u8 ((rd_T35 t276 x5_1).f1)]) ?_ 1 _ rfl; (with_reducible repeat (first | refine blk_drewN ?_ _ | refine blk_drew ?_ | refine blk_alloc ?_ _)); exact BK280.out) hg (Kd.R_away HO_4.out (fun _ hk => hk))); have n2_ := Aside0.mk (hb); have n3_ := Aside0.mk (ho); clear HO_3; clear BK280; clear HB; clear HO_4; have HO_3 := n0_; have BK280 := n1_; have HB := n2_; have HO285 := n3_; clear n0_ n1_ n2_ n3_; clear ho hb hg hat))
            go_roundg kj8
            case measure => have := HK1.out; have := HJ8.out; omega
            case rel => exact ⟨(y283), (wrap64 (x5_1 + 1)), (by first | rfl | (simp; done) | (simp [*]; done)), H', ⟨by have := HK1.out; have := HJ8.out; omega⟩, ⟨by (with_reducible repeat (first | apply Kd.V_alloc | apply Kd.V_drewN | apply Kd.V_drew)); exact Kd.V_mono HO_3.out (fun _ hk => hk.2)⟩, ⟨by (with_reducible repeat (first | apply Kd.R_alloc | apply Kd.R_drewN | apply Kd.R_drew)); exact Kd.R_mono HO285.out (fun _ hk => trivial)⟩, ⟨by repeat (first | (with_reducible first | exact HB.out | apply below_alloc | apply pw_below_drewN | apply below_drew1 | refine below_set ?_ GE280.out) | exact HB.out)⟩⟩
           ·rw [if_neg c22] at H
            exact absurd H (by simp)
          ·rw [if_neg c21] at H
           have c21b0 : (((rd_T35 t276 x5_1).f0) == 32) = false := beq_eq_false_iff_ne.mpr c21
           have c21b1 : (((rd_T35 t276 x5_1).f0) != 32) = true := bne_iff_ne.mpr c21
           by_cases c26 : x4_1.length < 17592186044416
           ·rw [if_pos c26] at H
            have LMc26 := Aside0.mk c26
            clear c26
            obtain ⟨y286, hy286⟩ : ∃ y_ : List (S35), y_ = (x4_1 ++ [(⟨((rd_T35 t276 x5_1).f0), (rd_T35 x4_1 (ji18)).f1⟩ : S35)]) := ⟨_, rfl⟩
            replace H : (flongref17_Normal.l0 kj8 t276 y286 (wrap64 (x5_1 + 1))) = some r := by first | (rw [hy286]; with_reducible exact H) | (have H2_ := (Option.bind_some _ _).symm.trans H; rw [hy286]; with_reducible exact H2_) | (have H2_ := (Option.bind_some _ _).symm.trans H; with_reducible exact H2_) | with_reducible exact H | (rw [hy286]; exact H) | exact H
            have Ny286 := Aside0.mk hy286
            clear hy286
            have H' := Aside0.mk H
            clear H
            obtain ⟨Ao27, co27, eo27⟩ := Kd.R_slice HO_4.out
            subst eo27
            have p282 : 0 ≤ ((ji18) : Int) := of_decide_eq_true (by first | (with_reducible assumption) | assumption)
            have q282 : (ji18) < (x4_1.length : Int) := of_decide_eq_true (by first | (with_reducible assumption) | assumption)
            obtain ⟨ad282, e282, hx282_0, hx282_1⟩ := at_T35 (Kd.R_reads' HO_4.out).2.2 (ji18) p282 q282
            cases e282
            replace p282 := eq_true p282
            replace q282 := eq_true q282
            have hcz28_0 : wc.cell? ⟨gb280, 0, none⟩ = some (.int .i32 ((rd_T35 t276 x5_1).f0)) := (blk_cell BK280.out 0).trans rfl
            have hcz28_1 : wc.cell? ⟨gb280, 1, none⟩ = some (.int .u8 ((rd_T35 t276 x5_1).f1)) := (blk_cell BK280.out 1).trans rfl
            have hfz28_0 := blk_frozen BK280.out 0
            have hfz28_1 := blk_frozen BK280.out 1
            go_wp2_with (first | ((with_reducible refine gate_builtin (b := .append) (xs := #[.tmp 39, .tmp 41]) rfl ?_); at_builtin; refine Kd.R_append k35 (w0 := w) w.heap.size rfl (.tmp 39) (.tmp 41) 27 35 (.agg #[(.int .i32 0), (.int .u8 0)]) 8 rfl Tryd.underlying27 info35 rfl (by decide) (by omega) (.slice (some ad282) x4_1.length co27) x4_1 (⟨((rd_T35 t276 x5_1).f0), (rd_T35 x4_1 (ji18)).f1⟩ : S35) [.int .i32 ((rd_T35 t276 x5_1).f0), .int .u8 ((rd_T35 x4_1 (ji18)).f1)] (fun k_ => k_ ≠ gb280) (fun _ => False) rfl (by first | (go_simp; done) | (go_simp; rfl)) ?aP (fun _ hk => hk.elim) ?aF ?aO ?aB ?aS ?aL ?_; (case aP => exact k35_mkM _ _ _ (⟨((rd_T35 t276 x5_1).f0), (rd_T35 x4_1 (ji18)).f1⟩ : S35)); (case aB => exact (by repeat (first | (with_reducible first | exact HB.out | apply below_alloc | apply pw_below_drewN | apply below_drew1 | refine below_set ?_ GE280.out) | exact HB.out))); (case aF => exact (fun k_ hk => Kd.freshB (g := gb280) (o := .cells #[.int .i32 ((rd_T35 t276 x5_1).f0), .int .u8 ((rd_T35 x4_1 (ji18)).f1)] 35 (0, 0)) (by (with_reducible repeat (first | refine blk_drewN ?_ _ | refine blk_drew ?_ | refine blk_alloc ?_ _)); refine blk_put (cs := #[.int .i32 ((rd_T35 t276 x5_1).f0), .int .u8 ((rd_T35 t276 x5_1).f1)]) ?_ 1 _ rfl; (with_reducible repeat (first | refine blk_drewN ?_ _ | refine blk_drew ?_ | refine blk_alloc ?_ _)); exact BK280.out) k_ hk)); (case aO => exact (by (with_reducible repeat (first | apply Kd.R_alloc | apply Kd.R_drewN | apply Kd.R_drew)); exact Kd.R_mono (Kd.R_far (p := ⟨gb280, 1, none⟩) (Kd.R_mono HO_4.out (fun k_ hk => (⟨hk, hk⟩ : _ ∧ k_ ≠ gb280))) (fun _ hk => hk.2) (.int .u8 ((rd_T35 x4_1 (ji18)).f1))) (fun _ hk => hk.1))); (case aS => exact (below_size (by repeat (first | (with_reducible first | exact HB.out | apply below_alloc | apply pw_below_drewN | apply below_drew1 | refine below_set ?_ GE280.out) | exact HB.out)))); (case aL => have := LMc26.out; omega); intro v287 w29 ho hb hg hat; rw [← Ny286.out] at ho; have n0_ := Aside0.mk (Kd.V_afterv (ok := (fun k_ => k_ ≠ gb280)) (by (with_reducible repeat (first | apply Kd.V_alloc | apply Kd.V_drewN | apply Kd.V_drew)); exact Kd.V_mono (Kd.V_far (p := ⟨gb280, 1, none⟩) (Kd.V_mono HO_3.out (fun k_ hk => (⟨hk, hk.2⟩ : _ ∧ k_ ≠ gb280))) (fun _ hk => hk.2) (.int .u8 ((rd_T35 x4_1 (ji18)).f1))) (fun _ hk => ⟨hk.1.2, hk.1.1⟩)) hg hat); have n1_ := Aside0.mk (blk_grown (g := gb280) (o := .cells #[.int .i32 ((rd_T35 t276 x5_1).f0), .int .u8 ((rd_T35 x4_1 (ji18)).f1)] 35 (0, 0)) (by (with_reducible repeat (first | refine blk_drewN ?_ _ | refine blk_drew ?_ | refine blk_alloc ?_ _)); refine blk_put (cs := #[.int .i32 ((rd_T35 t276 x5_1).f0), .int .u8 ((rd_T35 t276 x5_1).f1)]) ?_ 1 _ rfl; (with_reducible repeat (first | refine blk_drewN ?_ _ | refine blk_drew ?_ | refine blk_alloc ?_ _)); exact BK280.out) hg (Kd.R_away HO_4.out (fun _ hk => hk))); have n2_ := Aside0.mk (hb); have n3_ := Aside0.mk (ho); clear HO_3; clear BK280; clear HB; clear HO_4; have HO_3 := n0_; have BK280 := n1_; have HB := n2_; have HO288 := n3_; clear n0_ n1_ n2_ n3_; clear ho hb hg hat))
            go_roundg kj8
            case measure => have := HK1.out; have := HJ8.out; omega
            case rel => exact ⟨(y286), (wrap64 (x5_1 + 1)), (by first | rfl | (simp; done) | (simp [*]; done)), H', ⟨by have := HK1.out; have := HJ8.out; omega⟩, ⟨by (with_reducible repeat (first | apply Kd.V_alloc | apply Kd.V_drewN | apply Kd.V_drew)); exact Kd.V_mono HO_3.out (fun _ hk => hk.2)⟩, ⟨by (with_reducible repeat (first | apply Kd.R_alloc | apply Kd.R_drewN | apply Kd.R_drew)); exact Kd.R_mono HO288.out (fun _ hk => trivial)⟩, ⟨by repeat (first | (with_reducible first | exact HB.out | apply below_alloc | apply pw_below_drewN | apply below_drew1 | refine below_set ?_ GE280.out) | exact HB.out)⟩⟩
           ·rw [if_neg c26] at H
            exact absurd H (by simp)
         ·rw [if_neg c20] at H
          exact absurd H (by simp)
        ·rw [if_neg c19] at H
         exact absurd H (by simp)
       ·replace c17 := Bool.eq_false_iff.mpr c17
        subst c17
        have H1 : (if ((rd_T35 t276 x5_1).f0) = 32 then (if x4_1.length < 17592186044416 then (flongref17_Normal.l0 kj8 t276 (x4_1 ++ [(⟨((rd_T35 t276 x5_1).f0), 0⟩ : S35)]) (wrap64 (x5_1 + 1))) else (none)) else (if x4_1.length < 17592186044416 then (flongref17_Normal.l0 kj8 t276 (x4_1 ++ [(⟨((rd_T35 t276 x5_1).f0), ((rd_T35 t276 x5_1).f1)⟩ : S35)]) (wrap64 (x5_1 + 1))) else (none))) = some r := by rw [if_neg (show ¬ (false = true) by decide)] at H; exact H
        clear H
        have H := H1
        clear H1
        by_cases c30 : ((rd_T35 t276 x5_1).f0) = 32
        ·rw [if_pos c30] at H
         have c30b0 : (((rd_T35 t276 x5_1).f0) == 32) = true := beq_iff_eq.mpr c30
         have c30b1 : (((rd_T35 t276 x5_1).f0) != 32) = false := bne_eq_false_iff_eq.mpr c30
         clear c30
         by_cases c31 : x4_1.length < 17592186044416
         ·rw [if_pos c31] at H
          have LMc31 := Aside0.mk c31
          clear c31
          obtain ⟨y289, hy289⟩ : ∃ y_ : List (S35), y_ = (x4_1 ++ [(⟨((rd_T35 t276 x5_1).f0), 0⟩ : S35)]) := ⟨_, rfl⟩
          replace H : (flongref17_Normal.l0 kj8 t276 y289 (wrap64 (x5_1 + 1))) = some r := by first | (rw [hy289]; with_reducible exact H) | (have H2_ := (Option.bind_some _ _).symm.trans H; rw [hy289]; with_reducible exact H2_) | (have H2_ := (Option.bind_some _ _).symm.trans H; with_reducible exact H2_) | with_reducible exact H | (rw [hy289]; exact H) | exact H
          have Ny289 := Aside0.mk hy289
          clear hy289
          have H' := Aside0.mk H
          clear H
          have hcz32_0 : wc.cell? ⟨gb280, 0, none⟩ = some (.int .i32 ((rd_T35 t276 x5_1).f0)) := (blk_cell BK280.out 0).trans rfl
          have hcz32_1 : wc.cell? ⟨gb280, 1, none⟩ = some (.int .u8 ((rd_T35 t276 x5_1).f1)) := (blk_cell BK280.out 1).trans rfl
          have hfz32_0 := blk_frozen BK280.out 0
          have hfz32_1 := blk_frozen BK280.out 1
          go_wp2_with (first | ((with_reducible refine gate_builtin (b := .append) (xs := #[.tmp 39, .tmp 41]) rfl ?_); at_builtin; refine Kd.R_append k35 (w0 := w) w.heap.size rfl (.tmp 39) (.tmp 41) 27 35 (.agg #[(.int .i32 0), (.int .u8 0)]) 8 rfl Tryd.underlying27 info35 rfl (by decide) (by omega) u4 x4_1 (⟨((rd_T35 t276 x5_1).f0), 0⟩ : S35) [.int .i32 ((rd_T35 t276 x5_1).f0), .int .u8 0] (fun k_ => k_ ≠ gb280) (fun _ => False) rfl (by first | (go_simp; done) | (go_simp; rfl)) ?aP (fun _ hk => hk.elim) ?aF ?aO ?aB ?aS ?aL ?_; (case aP => exact k35_mkM _ _ _ (⟨((rd_T35 t276 x5_1).f0), 0⟩ : S35)); (case aB => exact (by repeat (first | (with_reducible first | exact HB.out | apply below_alloc | apply pw_below_drewN | apply below_drew1 | refine below_set ?_ GE280.out) | exact HB.out))); (case aF => exact (fun k_ hk => Kd.freshB (g := gb280) (o := .cells #[.int .i32 ((rd_T35 t276 x5_1).f0), .int .u8 0] 35 (0, 0)) (by (with_reducible repeat (first | refine blk_drewN ?_ _ | refine blk_drew ?_ | refine blk_alloc ?_ _)); refine blk_put (cs := #[.int .i32 ((rd_T35 t276 x5_1).f0), .int .u8 ((rd_T35 t276 x5_1).f1)]) ?_ 1 _ rfl; (with_reducible repeat (first | refine blk_drewN ?_ _ | refine blk_drew ?_ | refine blk_alloc ?_ _)); exact BK280.out) k_ hk)); (case aO => exact (by (with_reducible repeat (first | apply Kd.R_alloc | apply Kd.R_drewN | apply Kd.R_drew)); exact Kd.R_mono (Kd.R_far (p := ⟨gb280, 1, none⟩) (Kd.R_mono HO_4.out (fun k_ hk => (⟨hk, hk⟩ : _ ∧ k_ ≠ gb280))) (fun _ hk => hk.2) (.int .u8 0)) (fun _ hk => hk.1))); (case aS => exact (below_size (by repeat (first | (with_reducible first | exact HB.out | apply below_alloc | apply pw_below_drewN | apply below_drew1 | refine below_set ?_ GE280.out) | exact HB.out)))); (case aL => have := LMc31.out; omega); intro v290 w33 ho hb hg hat; rw [← Ny289.out] at ho; have n0_ := Aside0.mk (Kd.V_afterv (ok := (fun k_ => k_ ≠ gb280)) (by (with_reducible repeat (first | apply Kd.V_alloc | apply Kd.V_drewN | apply Kd.V_drew)); exact Kd.V_mono (Kd.V_far (p := ⟨gb280, 1, none⟩) (Kd.V_mono HO_3.out (fun k_ hk => (⟨hk, hk.2⟩ : _ ∧ k_ ≠ gb280))) (fun _ hk => hk.2) (.int .u8 0)) (fun _ hk => ⟨hk.1.2, hk.1.1⟩)) hg hat); have n1_ := Aside0.mk (blk_grown (g := gb280) (o := .cells #[.int .i32 ((rd_T35 t276 x5_1).f0), .int .u8 0] 35 (0, 0)) (by (with_reducible repeat (first | refine blk_drewN ?_ _ | refine blk_drew ?_ | refine blk_alloc ?_ _)); refine blk_put (cs := #[.int .i32 ((rd_T35 t276 x5_1).f0), .int .u8 ((rd_T35 t276 x5_1).f1)]) ?_ 1 _ rfl; (with_reducible repeat (first | refine blk_drewN ?_ _ | refine blk_drew ?_ | refine blk_alloc ?_ _)); exact BK280.out) hg (Kd.R_away HO_4.out (fun _ hk => hk))); have n2_ := Aside0.mk (hb); have n3_ := Aside0.mk (ho); clear HO_3; clear BK280; clear HB; clear HO_4; have HO_3 := n0_; have BK280 := n1_; have HB := n2_; have HO291 := n3_; clear n0_ n1_ n2_ n3_; clear ho hb hg hat))
          go_roundg kj8
          case measure => have := HK1.out; have := HJ8.out; omega
          case rel => exact ⟨(y289), (wrap64 (x5_1 + 1)), (by first | rfl | (simp; done) | (simp [*]; done)), H', ⟨by have := HK1.out; have := HJ8.out; omega⟩, ⟨by (with_reducible repeat (first | apply Kd.V_alloc | apply Kd.V_drewN | apply Kd.V_drew)); exact Kd.V_mono HO_3.out (fun _ hk => hk.2)⟩, ⟨by (with_reducible repeat (first | apply Kd.R_alloc | apply Kd.R_drewN | apply Kd.R_drew)); exact Kd.R_mono HO291.out (fun _ hk => trivial)⟩, ⟨by repeat (first | (with_reducible first | exact HB.out | apply below_alloc | apply pw_below_drewN | apply below_drew1 | refine below_set ?_ GE280.out) | exact HB.out)⟩⟩
         ·rw [if_neg c31] at H
          exact absurd H (by simp)
        ·rw [if_neg c30] at H
         have c30b0 : (((rd_T35 t276 x5_1).f0) == 32) = false := beq_eq_false_iff_ne.mpr c30
         have c30b1 : (((rd_T35 t276 x5_1).f0) != 32) = true := bne_iff_ne.mpr c30
         by_cases c34 : x4_1.length < 17592186044416
         ·rw [if_pos c34] at H
          have LMc34 := Aside0.mk c34
          clear c34
          obtain ⟨y292, hy292⟩ : ∃ y_ : List (S35), y_ = (x4_1 ++ [(⟨((rd_T35 t276 x5_1).f0), ((rd_T35 t276 x5_1).f1)⟩ : S35)]) := ⟨_, rfl⟩
          replace H : (flongref17_Normal.l0 kj8 t276 y292 (wrap64 (x5_1 + 1))) = some r := by first | (rw [hy292]; with_reducible exact H) | (have H2_ := (Option.bind_some _ _).symm.trans H; rw [hy292]; with_reducible exact H2_) | (have H2_ := (Option.bind_some _ _).symm.trans H; with_reducible exact H2_) | with_reducible exact H | (rw [hy292]; exact H) | exact H
          have Ny292 := Aside0.mk hy292
          clear hy292
          have H' := Aside0.mk H
          clear H
          have hcz35_0 : wc.cell? ⟨gb280, 0, none⟩ = some (.int .i32 ((rd_T35 t276 x5_1).f0)) := (blk_cell BK280.out 0).trans rfl
          have hcz35_1 : wc.cell? ⟨gb280, 1, none⟩ = some (.int .u8 ((rd_T35 t276 x5_1).f1)) := (blk_cell BK280.out 1).trans rfl
          have hfz35_0 := blk_frozen BK280.out 0
          have hfz35_1 := blk_frozen BK280.out 1
          go_wp2_with (first | ((with_reducible refine gate_builtin (b := .append) (xs := #[.tmp 39, .tmp 41]) rfl ?_); at_builtin; refine Kd.R_append k35 (w0 := w) w.heap.size rfl (.tmp 39) (.tmp 41) 27 35 (.agg #[(.int .i32 0), (.int .u8 0)]) 8 rfl Tryd.underlying27 info35 rfl (by decide) (by omega) u4 x4_1 (⟨((rd_T35 t276 x5_1).f0), ((rd_T35 t276 x5_1).f1)⟩ : S35) [.int .i32 ((rd_T35 t276 x5_1).f0), .int .u8 ((rd_T35 t276 x5_1).f1)] (fun k_ => k_ ≠ gb280) (fun _ => False) rfl rfl ?aP (fun _ hk => hk.elim) ?aF ?aO ?aB ?aS ?aL ?_; (case aP => exact k35_mkM _ _ _ (⟨((rd_T35 t276 x5_1).f0), ((rd_T35 t276 x5_1).f1)⟩ : S35)); (case aB => exact (by repeat (first | (with_reducible first | exact HB.out | apply below_alloc | apply pw_below_drewN | apply below_drew1 | refine below_set ?_ GE280.out) | exact HB.out))); (case aF => exact (fun k_ hk => Kd.freshB (g := gb280) (o := .cells #[.int .i32 ((rd_T35 t276 x5_1).f0), .int .u8 ((rd_T35 t276 x5_1).f1)] 35 (0, 0)) (by (with_reducible repeat (first | refine blk_drewN ?_ _ | refine blk_drew ?_ | refine blk_alloc ?_ _)); exact BK280.out) k_ hk)); (case aO => exact (by (with_reducible repeat (first | apply Kd.R_alloc | apply Kd.R_drewN | apply Kd.R_drew)); exact HO_4.out)); (case aS => exact (below_size (by repeat (first | (with_reducible first | exact HB.out | apply below_alloc | apply pw_below_drewN | apply below_drew1 | refine below_set ?_ GE280.out) | exact HB.out)))); (case aL => have := LMc34.out; omega); intro v293 w36 ho hb hg hat; rw [← Ny292.out] at ho; have n0_ := Aside0.mk (Kd.V_afterv (ok := (fun k_ => k_ ≠ gb280)) (by (with_reducible repeat (first | apply Kd.V_alloc | apply Kd.V_drewN | apply Kd.V_drew)); exact Kd.V_mono HO_3.out (fun _ hk => ⟨hk.2, hk.1⟩)) hg hat); have n1_ := Aside0.mk (blk_grown (g := gb280) (o := .cells #[.int .i32 ((rd_T35 t276 x5_1).f0), .int .u8 ((rd_T35 t276 x5_1).f1)] 35 (0, 0)) (by (with_reducible repeat (first | refine blk_drewN ?_ _ | refine blk_drew ?_ | refine blk_alloc ?_ _)); exact BK280.out) hg (Kd.R_away HO_4.out (fun _ hk => hk))); have n2_ := Aside0.mk (hb); have n3_ := Aside0.mk (ho); clear HO_3; clear BK280; clear HB; clear HO_4; have HO_3 := n0_; have BK280 := n1_; have HB := n2_; have HO294 := n3_; clear n0_ n1_ n2_ n3_; clear ho hb hg hat))
          go_roundg kj8
          case measure => have := HK1.out; have := HJ8.out; omega
          case rel => exact ⟨(y292), (wrap64 (x5_1 + 1)), (by first | rfl | (simp; done) | (simp [*]; done)), H', ⟨by have := HK1.out; have := HJ8.out; omega⟩, ⟨by (with_reducible repeat (first | apply Kd.V_alloc | apply Kd.V_drewN | apply Kd.V_drew)); exact Kd.V_mono HO_3.out (fun _ hk => hk.2)⟩, ⟨by (with_reducible repeat (first | apply Kd.R_alloc | apply Kd.R_drewN | apply Kd.R_drew)); exact Kd.R_mono HO294.out (fun _ hk => trivial)⟩, ⟨by repeat (first | (with_reducible first | exact HB.out | apply below_alloc | apply pw_below_drewN | apply below_drew1 | refine below_set ?_ GE280.out) | exact HB.out)⟩⟩
         ·rw [if_neg c34] at H
          exact absurd H (by simp)
    ·rw [if_neg c8] at H
     exact absurd H (by simp)
   ·rw [if_neg c7] at H
    have c7b0 : decide (x5_1 < (t276.length : Int)) = false := decide_eq_false c7
    clear c7
    obtain rfl := Option.some.inj H
    obtain ⟨Ao37, co37, eo37⟩ := Kd.V_slice HO_3.out
    subst eo37
    go_wp2
    go_ret
    exact ⟨_, by first | rfl | (simp [errW_none, errW_some] <;> rfl) | (simp [*, errW_none, errW_some] <;> rfl), by (with_reducible repeat (first | apply Kd.R_alloc | apply Kd.R_drewN | apply Kd.R_drew)); exact HO_4.out, by repeat (first | (with_reducible first | exact HB.out | apply below_alloc | apply pw_below_drewN | apply below_drew1) | exact HB.out)⟩

/-! ### flongref00_Same: function 16 -/
def flongref00_Same.f (l0 : List Int) (l1 : List Int) : Option (Bool) := some ((strOfNums l0).toList == (strOfNums l1).toList)
theorem flongref00_Same.calls (A0 : Option Addr) (c0 : Nat) (l0 : List Int) (A1 : Option Addr) (c1 : Nat) (l1 : List Int) (r : Bool) (w : World) (hr0 : Kd.C (Kd.int .u8) w A0 l0.length l0) (hc0 : l0.length ≤ c0) (hr1 : Kd.C (Kd.int .u8) w A1 l1.length l1) (hc1 : l1.length ≤ c1) (h : flongref00_Same.f l0 l1 = some r) :
  Calls Tryd.prog 16 #[.slice A0 l0.length c0, .slice A1 l1.length c1] w fun e w' => e = .returned (.bool r) ∧ Drawn0 w w' := by
 have HR0 := Aside0.mk hr0
 have HC0 := Aside0.mk hc0
 clear hr0 hc0
 have HR1 := Aside0.mk hr1
 have HC1 := Aside0.mk hc1
 clear hr1 hc1
 have H : (some ((strOfNums l0).toList == (strOfNums l1).toList)) = some r := h
 clear h
 obtain rfl := Option.some.inj H
 have hcv3 := Kd.C_string (P := Tryd.prog) (A := A0) (c := c0) Tryd.underlying25 Tryd.underlying5 Tryd.underlying9 HR0.out
 (try (have hcv3v := fun m_ : Nat => Kd.C_string (P := Tryd.prog) (A := A0) (c := c0) Tryd.underlying25 Tryd.underlying5 Tryd.underlying9 (Kd.C_drewN HR0.out m_); simp only [List.length_take, Int.toNat_natCast] at hcv3v))
 have hcv4 := Kd.C_string (P := Tryd.prog) (A := A1) (c := c1) Tryd.underlying25 Tryd.underlying5 Tryd.underlying9 HR1.out
 (try (have hcv4v := fun m_ : Nat => Kd.C_string (P := Tryd.prog) (A := A1) (c := c1) Tryd.underlying25 Tryd.underlying5 Tryd.underlying9 (Kd.C_drewN HR1.out m_); simp only [List.length_take, Int.toNat_natCast] at hcv4v))
 go_enter Tryd.func16, Tryd.ntmps16
 go_wp2
 go_ret
 exact ⟨by first | rfl | (simp; done) | (simp [*]; done), by repeat (first | exact Drawn0.refl _ | apply Drawn0.step)⟩

/-! ### flongref02_One: function 28 -/
def flongref02_One.j0 : Nat → Int → Option (List Int)
 | 0, _ => none
 | k + 1, x3 => if x3 < 128 then (some (([(x3) % 256] : List Int))) else (if x3 < 2048 then (some (([(wrap64 (192 + (wrap64 (Int.tdiv x3 64)))) % 256, (wrap64 (128 + (Int.tmod x3 64))) % 256] : List Int))) else (if x3 < 65536 then (some (([(wrap64 (224 + (wrap64 (Int.tdiv x3 4096)))) % 256, (wrap64 (128 + (Int.tmod (wrap64 (Int.tdiv x3 64)) 64))) % 256, (wrap64 (128 + (Int.tmod x3 64))) % 256] : List Int))) else (some (([(wrap64 (240 + (wrap64 (Int.tdiv x3 262144)))) % 256, (wrap64 (128 + (Int.tmod (wrap64 (Int.tdiv x3 4096)) 64))) % 256, (wrap64 (128 + (Int.tmod (wrap64 (Int.tdiv x3 64)) 64))) % 256, (wrap64 (128 + (Int.tmod x3 64))) % 256] : List Int)))))
def flongref02_One.f (k : Nat) (a0 : Int) : Option (List Int) := (flongref02_Valid.f a0).bind fun t295 => (if t295 = true then (flongref02_One.j0 k (wrap64 (a0))) else (flongref02_One.j0 k 65533))
theorem flongref02_One.mono_l : ∀ k, (∀ y0, LeO (flongref02_One.j0 k y0) (flongref02_One.j0 (k + 1) y0))
 | 0 => fun _ r h => by simp [flongref02_One.j0] at h
 | k + 1 => by
  have ih0 := flongref02_One.mono_l k
  ·intro y0
   unfold flongref02_One.j0
   repeat' first
   | (with_reducible exact ih0 _)
   | (with_reducible exact LeO.refl _)
   | (with_reducible exact LeO.none _)
   | (with_reducible refine LeO.ite ?_ ?_)
   | (with_reducible refine LeO.bind ?_ (fun _ => ?_))
theorem flongref02_One.mono : ∀ a0 k, LeO (flongref02_One.f k a0) (flongref02_One.f (k + 1) a0) := by
 intro a0 k
 have ih0 := flongref02_One.mono_l k
 unfold flongref02_One.f
 repeat' first
   | (with_reducible exact ih0 _)
   | (with_reducible exact LeO.refl _)
   | (with_reducible exact LeO.none _)
   | (with_reducible refine LeO.ite ?_ ?_)
   | (with_reducible refine LeO.bind ?_ (fun _ => ?_))
theorem flongref02_One.calls (k : Nat) (a0 : Int) (r : List Int) (w : World) (h : flongref02_One.f k a0 = some r) :
  Calls Tryd.prog 28 #[.int .i32 a0] w fun e w' => ∃ v0_ : Value, e = .returned (v0_) ∧ Kd.R (Kd.int .u8) 5 w' w.heap.size (fun _ => True) v0_ r ∧ Below w.heap.size w w' := by
 have HB := Aside0.mk (Below.refl w.heap.size w)
 have H : ((flongref02_Valid.f a0).bind fun t295 => (if t295 = true then (flongref02_One.j0 k (wrap64 (a0))) else (flongref02_One.j0 k 65533))) = some r := h
 clear h
 replace H := Option.bind_eq_some_iff.mp H
 obtain ⟨t295, A20, H⟩ := H
 replace H : (if t295 = true then (flongref02_One.j0 k (wrap64 (a0))) else (flongref02_One.j0 k 65533)) = some r := H
 have A2 := Aside0.mk A20
 clear A20
 have HC3 := Aside0.mk H
 clear H
 go_enter Tryd.func28, Tryd.ntmps28
 go_upto_if 8 with (first | ((with_reducible refine gate_callee (f := 55) rfl ?_); refine goesL_ (some 7) rfl rfl Tryd.func55 (by kernel_rfl) rfl #[.int .i32 a0] rfl (by (try simp only [List.map_toArray, List.map_cons, List.map_nil]); first | done | rfl | (simp only [List.length_drop, List.length_take]; rfl)) ?_; (with_reducible refine (flongref02_Valid.calls a0 t295 _ A2.out).mono ?_); rintro e w' ⟨rfl, ⟨nd, rfl⟩⟩; refine ⟨_, rfl, ?_⟩))
 (try simp only [Act.put, List.setIfInBounds_toArray, List.set_cons_zero, List.set_cons_succ])
 go_cut [3] (fun v3 wc => ∃ (kq : Nat) (x3_2 : Int), v3 = .int .i64 x3_2 ∧ Aside0 (flongref02_One.j0 kq x3_2 = some r) ∧ Aside0 (kq ≤ k) ∧ Aside0 (Below w.heap.size w wc))
 case first =>
  have H := HC3.out
  clear HC3
  by_cases c4 : t295 = true
  ·subst c4
   have H1 : (flongref02_One.j0 k (wrap64 (a0))) = some r := by rw [if_pos rfl] at H; exact H
   clear H
   have H := H1
   clear H1
   have H' := Aside0.mk H
   clear H
   go_wp2
   go_meet
   case rel => exact ⟨_, (wrap64 (a0)), (by first | rfl | (simp; done) | (simp [*]; done)), H', ⟨by first | omega | exact Nat.le_refl _⟩, ⟨by repeat (first | (with_reducible first | exact HB.out | apply below_alloc | apply pw_below_drewN | apply below_drew1) | exact HB.out)⟩⟩
  ·replace c4 := Bool.eq_false_iff.mpr c4
   subst c4
   have H1 : (flongref02_One.j0 k 65533) = some r := by rw [if_neg (show ¬ (false = true) by decide)] at H; exact H
   clear H
   have H := H1
   clear H1
   have H' := Aside0.mk H
   clear H
   go_wp2
   go_meet
   case rel => exact ⟨_, (65533), (by first | rfl | (simp; done) | (simp [*]; done)), H', ⟨by first | omega | exact Nat.le_refl _⟩, ⟨by repeat (first | (with_reducible first | exact HB.out | apply below_alloc | apply pw_below_drewN | apply below_drew1) | exact HB.out)⟩⟩
 case rest =>
  clear HC3
  try clear c2
  try clear p2
  try clear c4
  obtain ⟨kq, x3_2, rfl, HA, HJ2, HB⟩ := hcut
  cases kq with
  | zero => exact absurd HA.out (by simp [flongref02_One.j0])
  | succ kj2 =>
   have H := HA.out
   clear HA
   simp only [flongref02_One.j0] at H
   by_cases c5 : x3_2 < 128
   ·rw [if_pos c5] at H
    have c5b0 : decide (x3_2 < 128) = true := decide_eq_true c5
    clear c5
    obtain ⟨y296, hy296⟩ : ∃ y_ : List Int, y_ = (([(x3_2) % 256] : List Int)) := ⟨_, rfl⟩
    replace H : (some y296) = some r := by first | (rw [hy296]; with_reducible exact H) | (have H2_ := (Option.bind_some _ _).symm.trans H; rw [hy296]; with_reducible exact H2_) | (have H2_ := (Option.bind_some _ _).symm.trans H; with_reducible exact H2_) | with_reducible exact H | (rw [hy296]; exact H) | exact H
    have Ny296 := Aside0.mk hy296
    clear hy296
    obtain rfl := Option.some.inj H
    go_wp2_with (first | ((with_reducible refine gate_dst (N := 13) rfl ?_); refine Kd.R_lit (Kd.int .u8) _ 5 ?hg (N := 13) ?hd (xs := ([(x3_2) % 256] : List Int)) (inner := [.int .u8 ((x3_2) % 256)]) (ok := fun _ => True) (okp := fun _ => True) ?hr ?hp (fun _ hk => hk) trivial (Below.refl _ _) (Nat.le_refl _) (by simp) ?_; (case hd => rfl); (case hg => rfl); (case hr => first | (go_simp; done) | (go_simp; rfl)); (case hp => exact (Reps.one (show Kd.M (Kd.int .u8) _ _ _ ((x3_2) % 256) [.int .u8 ((x3_2) % 256)] from rfl) (Reps.none _ _))); intro v297 w6 ho7 hb hg_ hnew_; clear hg_ hnew_; (first | rw [← Ny296.out] at ho7 | (simp only [Int.reduceToNat] at ho7; rw [← Ny296.out] at ho7)); have n0_ := Aside0.mk (Kd.R_lower ho7 (below_size (by repeat (first | (with_reducible first | exact HB.out | apply below_alloc | apply pw_below_drewN | apply below_drew1) | exact HB.out)))); have n1_ := Aside0.mk (below_step (by repeat (first | (with_reducible first | exact HB.out | apply below_alloc | apply pw_below_drewN | apply below_drew1) | exact HB.out)) hb); clear HB; have HO298 := n0_; have HB := n1_; clear n0_ n1_; clear hb ho7))
    go_ret
    exact ⟨_, by first | rfl | (simp [errW_none, errW_some] <;> rfl) | (simp [*, errW_none, errW_some] <;> rfl), by (with_reducible repeat (first | apply Kd.R_alloc | apply Kd.R_drewN | apply Kd.R_drew)); exact HO298.out, by repeat (first | (with_reducible first | exact HB.out | apply below_alloc | apply pw_below_drewN | apply below_drew1) | exact HB.out)⟩
   ·rw [if_neg c5] at H
    have c5b0 : decide (x3_2 < 128) = false := decide_eq_false c5
    clear c5
    by_cases c8 : x3_2 < 2048
    ·rw [if_pos c8] at H
     have c8b0 : decide (x3_2 < 2048) = true := decide_eq_true c8
     clear c8
     obtain ⟨y299, hy299⟩ : ∃ y_ : List Int, y_ = (([(wrap64 (192 + (wrap64 (Int.tdiv x3_2 64)))) % 256, (wrap64 (128 + (Int.tmod x3_2 64))) % 256] : List Int)) := ⟨_, rfl⟩
     replace H : (some y299) = some r := by first | (rw [hy299]; with_reducible exact H) | (have H2_ := (Option.bind_some _ _).symm.trans H; rw [hy299]; with_reducible exact H2_) | (have H2_ := (Option.bind_some _ _).symm.trans H; with_reducible exact H2_) | with_reducible exact H | (rw [hy299]; exact H) | exact H
     have Ny299 := Aside0.mk hy299
     clear hy299
     obtain rfl := Option.some.inj H
     go_wp2_with (first | ((with_reducible refine gate_dst (N := 24) rfl ?_); refine Kd.R_lit (Kd.int .u8) _ 5 ?hg (N := 24) ?hd (xs := ([(wrap64 (192 + (wrap64 (Int.tdiv x3_2 64)))) % 256, (wrap64 (128 + (Int.tmod x3_2 64))) % 256] : List Int)) (inner := [.int .u8 ((wrap64 (192 + (wrap64 (Int.tdiv x3_2 64)))) % 256), .int .u8 ((wrap64 (128 + (Int.tmod x3_2 64))) % 256)]) (ok := fun _ => True) (okp := fun _ => True) ?hr ?hp (fun _ hk => hk) trivial (Below.refl _ _) (Nat.le_refl _) (by simp) ?_; (case hd => rfl); (case hg => rfl); (case hr => first | (go_simp; done) | (go_simp; rfl)); (case hp => exact (Reps.one (show Kd.M (Kd.int .u8) _ _ _ ((wrap64 (192 + (wrap64 (Int.tdiv x3_2 64)))) % 256) [.int .u8 ((wrap64 (192 + (wrap64 (Int.tdiv x3_2 64)))) % 256)] from rfl) (Reps.one (show Kd.M (Kd.int .u8) _ _ _ ((wrap64 (128 + (Int.tmod x3_2 64))) % 256) [.int .u8 ((wrap64 (128 + (Int.tmod x3_2 64))) % 256)] from rfl) (Reps.none _ _)))); intro v300 w9 ho10 hb hg_ hnew_; clear hg_ hnew_; (first | rw [← Ny299.out] at ho10 | (simp only [Int.reduceToNat] at ho10; rw [← Ny299.out] at ho10)); have n0_ := Aside0.mk (Kd.R_lower ho10 (below_size (by repeat (first | (with_reducible first | exact HB.out | apply below_alloc | apply pw_below_drewN | apply below_drew1) | exact HB.out)))); have n1_ := Aside0.mk (below_step (by repeat (first | (with_reducible first | exact HB.out | apply below_alloc | apply pw_below_drewN | apply below_drew1) | exact HB.out)) hb); clear HB; have HO301 := n0_; have HB := n1_; clear n0_ n1_; clear hb ho10))
     go_ret
     exact ⟨_, by first | rfl | (simp [errW_none, errW_some] <;> rfl) | (simp [*, errW_none, errW_some] <;> rfl), by (with_reducible repeat (first | apply Kd.R_alloc | apply Kd.R_drewN | apply Kd.R_drew)); exact HO301.out, by repeat (first | (with_reducible first | exact HB.out | apply below_alloc | apply pw_below_drewN | apply below_drew1) | exact HB.out)⟩
    ·rw [if_neg c8] at H
     have c8b0 : decide (x3_2 < 2048) = false := decide_eq_false c8
     clear c8
     by_cases c11 : x3_2 < 65536
     ·rw [if_pos c11] at H
      have c11b0 : decide (x3_2 < 65536) = true := decide_eq_true c11
      clear c11
      obtain ⟨y302, hy302⟩ : ∃ y_ : List Int, y_ = (([(wrap64 (224 + (wrap64 (Int.tdiv x3_2 4096)))) % 256, (wrap64 (128 + (Int.tmod (wrap64 (Int.tdiv x3_2 64)) 64))) % 256, (wrap64 (128 + (Int.tmod x3_2 64))) % 256] : List Int)) := ⟨_, rfl⟩
      replace H : (some y302) = some r := by first | (rw [hy302]; with_reducible exact H) | (have H2_ := (Option.bind_some _ _).symm.trans H; rw [hy302]; with_reducible exact H2_) | (have H2_ := (Option.bind_some _ _).symm.trans H; with_reducible exact H2_) | with_reducible exact H | (rw [hy302]; exact H) | exact H
      have Ny302 := Aside0.mk hy302
      clear hy302
      obtain rfl := Option.some.inj H
      go_wp2_with (first | ((with_reducible refine gate_dst (N := 40) rfl ?_); refine Kd.R_lit (Kd.int .u8) _ 5 ?hg (N := 40) ?hd (xs := ([(wrap64 (224 + (wrap64 (Int.tdiv x3_2 4096)))) % 256, (wrap64 (128 + (Int.tmod (wrap64 (Int.tdiv x3_2 64)) 64))) % 256, (wrap64 (128 + (Int.tmod x3_2 64))) % 256] : List Int)) (inner := [.int .u8 ((wrap64 (224 + (wrap64 (Int.tdiv x3_2 4096)))) % 256), .int .u8 ((wrap64 (128 + (Int.tmod (wrap64 (Int.tdiv x3_2 64)) 64))) % 256), .int .u8 ((wrap64 (128 + (Int.tmod x3_2 64))) % 256)]) (ok := fun _ => True) (okp := fun _ => True) ?hr ?hp (fun _ hk => hk) trivial (Below.refl _ _) (Nat.le_refl _) (by simp) ?_; (case hd => rfl); (case hg => rfl); (case hr => first | (go_simp; done) | (go_simp; rfl)); (case hp => exact (Reps.one (show Kd.M (Kd.int .u8) _ _ _ ((wrap64 (224 + (wrap64 (Int.tdiv x3_2 4096)))) % 256) [.int .u8 ((wrap64 (224 + (wrap64 (Int.tdiv x3_2 4096)))) % 256)] from rfl) (Reps.one (show Kd.M (Kd.int .u8) _ _ _ ((wrap64 (128 + (Int.tmod (wrap64 (Int.tdiv x3_2 64)) 64))) % 256) [.int .u8 ((wrap64 (128 + (Int.tmod (wrap64 (Int.tdiv x3_2 64)) 64))) % 256)] from rfl) (Reps.one (show Kd.M (Kd.int .u8) _ _ _ ((wrap64 (128 + (Int.tmod x3_2 64))) % 256) [.int .u8 ((wrap64 (128 + (Int.tmod x3_2 64))) % 256)] from rfl) (Reps.none _ _))))); intro v303 w12 ho13 hb hg_ hnew_; clear hg_ hnew_; (first | rw [← Ny302.out] at ho13 | (simp only [Int.reduceToNat] at ho13; rw [← Ny302.out] at ho13)); have n0_ := Aside0.mk (Kd.R_lower ho13 (below_size (by repeat (first | (with_reducible first | exact HB.out | apply below_alloc | apply pw_below_drewN | apply below_drew1) | exact HB.out)))); have n1_ := Aside0.mk (below_step (by repeat (first | (with_reducible first | exact HB.out | apply below_alloc | apply pw_below_drewN | apply below_drew1) | exact HB.out)) hb); clear HB; have HO304 := n0_; have HB := n1_; clear n0_ n1_; clear hb ho13))
      go_ret
      exact ⟨_, by first | rfl | (simp [errW_none, errW_some] <;> rfl) | (simp [*, errW_none, errW_some] <;> rfl), by (with_reducible repeat (first | apply Kd.R_alloc | apply Kd.R_drewN | apply Kd.R_drew)); exact HO304.out, by repeat (first | (with_reducible first | exact HB.out | apply below_alloc | apply pw_below_drewN | apply below_drew1) | exact HB.out)⟩
     ·rw [if_neg c11] at H
      have c11b0 : decide (x3_2 < 65536) = false := decide_eq_false c11
      clear c11
      obtain ⟨y305, hy305⟩ : ∃ y_ : List Int, y_ = (([(wrap64 (240 + (wrap64 (Int.tdiv x3_2 262144)))) % 256, (wrap64 (128 + (Int.tmod (wrap64 (Int.tdiv x3_2 4096)) 64))) % 256, (wrap64 (128 + (Int.tmod (wrap64 (Int.tdiv x3_2 64)) 64))) % 256, (wrap64 (128 + (Int.tmod x3_2 64))) % 256] : List Int)) := ⟨_, rfl⟩
      replace H : (some y305) = some r := by first | (rw [hy305]; with_reducible exact H) | (have H2_ := (Option.bind_some _ _).symm.trans H; rw [hy305]; with_reducible exact H2_) | (have H2_ := (Option.bind_some _ _).symm.trans H; with_reducible exact H2_) | with_reducible exact H | (rw [hy305]; exact H) | exact H
      have Ny305 := Aside0.mk hy305
      clear hy305
      obtain rfl := Option.some.inj H
      go_wp2_with (first | ((with_reducible refine gate_dst (N := 59) rfl ?_); refine Kd.R_lit (Kd.int .u8) _ 5 ?hg (N := 59) ?hd (xs := ([(wrap64 (240 + (wrap64 (Int.tdiv x3_2 262144)))) % 256, (wrap64 (128 + (Int.tmod (wrap64 (Int.tdiv x3_2 4096)) 64))) % 256, (wrap64 (128 + (Int.tmod (wrap64 (Int.tdiv x3_2 64)) 64))) % 256, (wrap64 (128 + (Int.tmod x3_2 64))) % 256] : List Int)) (inner := [.int .u8 ((wrap64 (240 + (wrap64 (Int.tdiv x3_2 262144)))) % 256), .int .u8 ((wrap64 (128 + (Int.tmod (wrap64 (Int.tdiv x3_2 4096)) 64))) % 256), .int .u8 ((wrap64 (128 + (Int.tmod (wrap64 (Int.tdiv x3_2 64)) 64))) % 256), .int .u8 ((wrap64 (128 + (Int.tmod x3_2 64))) % 256)]) (ok := fun _ => True) (okp := fun _ => True) ?hr ?hp (fun _ hk => hk) trivial (Below.refl _ _) (Nat.le_refl _) (by simp) ?_; (case hd => rfl); (case hg => rfl); (case hr => first | (go_simp; done) | (go_simp; rfl)); (case hp => exact (Reps.one (show Kd.M (Kd.int .u8) _ _ _ ((wrap64 (240 + (wrap64 (Int.tdiv x3_2 262144)))) % 256) [.int .u8 ((wrap64 (240 + (wrap64 (Int.tdiv x3_2 262144)))) % 256)] from rfl) (Reps.one (show Kd.M (Kd.int .u8) _ _ _ ((wrap64 (128 + (Int.tmod (wrap64 (Int.tdiv x3_2 4096)) 64))) % 256) [.int .u8 ((wrap64 (128 + (Int.tmod (wrap64 (Int.tdiv x3_2 4096)) 64))) % 256)] from rfl) (Reps.one (show Kd.M (Kd.int .u8) _ _ _ ((wrap64 (128 + (Int.tmod (wrap64 (Int.tdiv x3_2 64)) 64))) % 256) [.int .u8 ((wrap64 (128 + (Int.tmod (wrap64 (Int.tdiv x3_2 64)) 64))) % 256)] from rfl) (Reps.one (show Kd.M (Kd.int .u8) _ _ _ ((wrap64 (128 + (Int.tmod x3_2 64))) % 256) [.int .u8 ((wrap64 (128 + (Int.tmod x3_2 64))) % 256)] from rfl) (Reps.none _ _)))))); intro v306 w14 ho15 hb hg_ hnew_; clear hg_ hnew_; (first | rw [← Ny305.out] at ho15 | (simp only [Int.reduceToNat] at ho15; rw [← Ny305.out] at ho15)); have n0_ := Aside0.mk (Kd.R_lower ho15 (below_size (by repeat (first | (with_reducible first | exact HB.out | apply below_alloc | apply pw_below_drewN | apply below_drew1) | exact HB.out)))); have n1_ := Aside0.mk (below_step (by repeat (first | (with_reducible first | exact HB.out | apply below_alloc | apply pw_below_drewN | apply below_drew1) | exact HB.out)) hb); clear HB; have HO307 := n0_; have HB := n1_; clear n0_ n1_; clear hb ho15))
      go_ret
      exact ⟨_, by first | rfl | (simp [errW_none, errW_some] <;> rfl) | (simp [*, errW_none, errW_some] <;> rfl), by (with_reducible repeat (first | apply Kd.R_alloc | apply Kd.R_drewN | apply Kd.R_drew)); exact HO307.out, by repeat (first | (with_reducible first | exact HB.out | apply below_alloc | apply pw_below_drewN | apply below_drew1) | exact HB.out)⟩

/-! ### flongref18_times: function 66 -/
def flongref18_times.l0 : Nat → ByteArray → Int → ByteArray → Int → Option (ByteArray)
 | 0, _, _, _, _ => none
 | k + 1, x0, x1, x5, x6 => if x6 < x1 then (if x5.size + x0.size ≤ 9223372036854775807 then (flongref18_times.l0 k x0 x1 (x5 ++ x0) (wrap64 (x6 + 1))) else (none)) else (some x5)
def flongref18_times.f (k : Nat) (a0 : ByteArray) (a1 : Int) : Option (ByteArray) := flongref18_times.l0 k a0 a1 (⟨#[]⟩ : ByteArray) 0
theorem flongref18_times.mono_l : ∀ k, (∀ y0 y1 y2 y3, LeO (flongref18_times.l0 k y0 y1 y2 y3) (flongref18_times.l0 (k + 1) y0 y1 y2 y3))
 | 0 => fun _ _ _ _ r h => by simp [flongref18_times.l0] at h
 | k + 1 => by
  have ih0 := flongref18_times.mono_l k
  ·intro y0 y1 y2 y3
   unfold flongref18_times.l0
   repeat' first
   | (with_reducible exact ih0 _ _ _ _)
   | (with_reducible exact LeO.refl _)
   | (with_reducible exact LeO.none _)
   | (with_reducible refine LeO.ite ?_ ?_)
   | (with_reducible refine LeO.bind ?_ (fun _ => ?_))
theorem flongref18_times.mono : ∀ a0 a1 k, LeO (flongref18_times.f k a0 a1) (flongref18_times.f (k + 1) a0 a1) := by
 intro a0 a1 k
 have ih0 := flongref18_times.mono_l k
 unfold flongref18_times.f
 repeat' first
   | (with_reducible exact ih0 _ _ _ _)
   | (with_reducible exact LeO.refl _)
   | (with_reducible exact LeO.none _)
   | (with_reducible refine LeO.ite ?_ ?_)
   | (with_reducible refine LeO.bind ?_ (fun _ => ?_))
theorem flongref18_times.calls (k : Nat) (a0 : ByteArray) (a1 : Int) (r : ByteArray) (w : World) (h : flongref18_times.f k a0 a1 = some r) :
  Calls Tryd.prog 66 #[.string a0, .int .i64 a1] w fun e w' => e = .returned (.string r) ∧ Drawn0 w w' := by
 have H : (flongref18_times.l0 k a0 a1 (⟨#[]⟩ : ByteArray) 0) = some r := h
 clear h
 have H' := Aside0.mk H
 clear H
 go_enter Tryd.func66, Tryd.ntmps66
 go_wp2
 go_loopg [5, 6] k (fun kq v5 v6 w' => ∃ (x5_1 : ByteArray) (x6_1 : Int), v5 = .string x5_1 ∧ v6 = .int .i64 x6_1 ∧ Aside0 (flongref18_times.l0 kq a0 a1 x5_1 x6_1 = some r) ∧ Aside0 (kq ≤ k) ∧ Drawn0 w w')
 case atStart => exact ⟨((⟨#[]⟩ : ByteArray)), (0), (by first | rfl | (simp; done) | (simp [*]; done)), (by first | rfl | (simp; done) | (simp [*]; done)), H', ⟨Nat.le_refl _⟩, by repeat (first | exact Drawn0.refl _ | apply Drawn0.step)⟩
 case round =>
  clear H'
  try clear p2
  obtain ⟨x5_1, x6_1, rfl, rfl, HA, HK1, ⟨m1, rfl⟩⟩ := hrel
  cases gk with
  | zero => exact absurd HA.out (by simp [flongref18_times.l0])
  | succ k1 =>
   have H := HA.out
   clear HA
   simp only [flongref18_times.l0] at H
   by_cases c3 : x6_1 < a1
   ·rw [if_pos c3] at H
    have c3b0 : decide (x6_1 < a1) = true := decide_eq_true c3
    clear c3
    by_cases c4 : x5_1.size + a0.size ≤ 9223372036854775807
    ·rw [if_pos c4] at H
     have c4b0 := eq_true c4
     have c4b1 : decide (x5_1.size + a0.size ≤ 9223372036854775807) = true := decide_eq_true c4
     try have c4b2 : (9223372036854775807 < x5_1.size + a0.size) = False := eq_false (Nat.not_lt.2 c4)
     have H' := Aside0.mk H
     clear H
     go_wp2
     go_roundg k1
     case measure => have := HK1.out; omega
     case rel => exact ⟨(x5_1 ++ a0), (wrap64 (x6_1 + 1)), (by first | rfl | (simp; done) | (simp [*]; done)), (by first | rfl | (simp; done) | (simp [*]; done)), H', ⟨by have := HK1.out; omega⟩, by repeat (first | exact Drawn0.refl _ | apply Drawn0.step)⟩
    ·rw [if_neg c4] at H
     exact absurd H (by simp)
   ·rw [if_neg c3] at H
    have c3b0 : decide (x6_1 < a1) = false := decide_eq_false c3
    clear c3
    obtain rfl := Option.some.inj H
    go_wp2
    go_ret
    exact ⟨by first | rfl | (simp; done) | (simp [*]; done), by repeat (first | exact Drawn0.refl _ | apply Drawn0.step)⟩

/-! ### flongref18_One: function 40 -/
mutual
def flongref18_One.j0 : Nat → Int → Int → Int → Option (List Int)
 | 0, _, _, _ => none
 | k + 1, x3, x309000, x309001 => (flongref02_One.f k x3).bind fun t310 => ((flongref02_Width.f k x3).bind fun t313 => (if t313 > 0 then (if x3 = 32 then (flongref18_One.j1 k x3 (strOfNums t310) t313 (⟨#[]⟩ : ByteArray) false x309000 x309001) else (flongref18_One.j1 k x3 (strOfNums t310) t313 (⟨#[]⟩ : ByteArray) ((((Int.tdiv x309001 2) % 256) % 2) == 1) x309000 x309001)) else (flongref18_One.j1 k x3 (strOfNums t310) t313 (⟨#[]⟩ : ByteArray) false x309000 x309001)))
def flongref18_One.j1 : Nat → Int → ByteArray → Int → ByteArray → Bool → Int → Int → Option (List Int)
 | 0, _, _, _, _, _, _, _ => none
 | k + 1, x3, x4, x5, x6, x30, x309000, x309001 => if x30 = true then ((flongref18_times.f k (⟨#[95]⟩ : ByteArray) x5).bind fun t314 => ((flongref18_times.f k (⟨#[8]⟩ : ByteArray) x5).bind fun t315 => (if t314.size + t315.size ≤ 9223372036854775807 then (if x5 > 0 then (if x3 = 32 then (if (t314 ++ t315).size + x4.size ≤ 9223372036854775807 then ((conv_bytes.f ((t314 ++ t315) ++ x4)).bind fun t316 => (some t316)) else (none)) else (if (Int.tmod x309001 2) = 1 then (if (t314 ++ t315).size + x4.size ≤ 9223372036854775807 then ((flongref18_times.f k (⟨#[8]⟩ : ByteArray) x5).bind fun t319 => (if ((t314 ++ t315) ++ x4).size + t319.size ≤ 9223372036854775807 then (if (((t314 ++ t315) ++ x4) ++ t319).size + x4.size ≤ 9223372036854775807 then ((conv_bytes.f ((((t314 ++ t315) ++ x4) ++ t319) ++ x4)).bind fun t320 => (some t320)) else (none)) else (none))) else (none)) else (if (t314 ++ t315).size + x4.size ≤ 9223372036854775807 then ((conv_bytes.f ((t314 ++ t315) ++ x4)).bind fun t323 => (some t323)) else (none)))) else (if (t314 ++ t315).size + x4.size ≤ 9223372036854775807 then ((conv_bytes.f ((t314 ++ t315) ++ x4)).bind fun t326 => (some t326)) else (none))) else (none)))) else (if x5 > 0 then (if x3 = 32 then (if x6.size + x4.size ≤ 9223372036854775807 then ((conv_bytes.f (x6 ++ x4)).bind fun t329 => (some t329)) else (none)) else (if (Int.tmod x309001 2) = 1 then (if x6.size + x4.size ≤ 9223372036854775807 then ((flongref18_times.f k (⟨#[8]⟩ : ByteArray) x5).bind fun t332 => (if (x6 ++ x4).size + t332.size ≤ 9223372036854775807 then (if ((x6 ++ x4) ++ t332).size + x4.size ≤ 9223372036854775807 then ((conv_bytes.f (((x6 ++ x4) ++ t332) ++ x4)).bind fun t333 => (some t333)) else (none)) else (none))) else (none)) else (if x6.size + x4.size ≤ 9223372036854775807 then ((conv_bytes.f (x6 ++ x4)).bind fun t336 => (some t336)) else (none)))) else (if x6.size + x4.size ≤ 9223372036854775807 then ((conv_bytes.f (x6 ++ x4)).bind fun t339 => (some t339)) else (none)))
end
def flongref18_One.f (k : Nat) (a0_0 : Int) (a0_1 : Int) : Option (List Int) := (flongref02_Safe.f a0_0).bind fun t309 => (if a0_0 = 160 then (flongref18_One.j0 k 32 a0_0 a0_1) else (flongref18_One.j0 k t309 a0_0 a0_1))
theorem flongref18_One.mono_l : ∀ k, (∀ y0 y1 y2, LeO (flongref18_One.j0 k y0 y1 y2) (flongref18_One.j0 (k + 1) y0 y1 y2)) ∧ (∀ y0 y1 y2 y3 y4 y5 y6, LeO (flongref18_One.j1 k y0 y1 y2 y3 y4 y5 y6) (flongref18_One.j1 (k + 1) y0 y1 y2 y3 y4 y5 y6))
 | 0 => ⟨fun _ _ _ r h => by simp [flongref18_One.j0] at h, fun _ _ _ _ _ _ _ r h => by simp [flongref18_One.j1] at h⟩
 | k + 1 => by
  obtain ⟨ih0, ih1⟩ := flongref18_One.mono_l k
  refine ⟨?_, ?_⟩
  ·intro y0 y1 y2
   unfold flongref18_One.j0
   repeat' first
   | (with_reducible exact ih0 _ _ _)
   | (with_reducible exact ih1 _ _ _ _ _ _ _)
   | (with_reducible exact flongref02_One.mono _ _)
   | (with_reducible exact flongref02_Width.mono _ _)
   | (with_reducible exact flongref18_times.mono _ _ _)
   | (with_reducible exact LeO.refl _)
   | (with_reducible exact LeO.none _)
   | (with_reducible refine LeO.ite ?_ ?_)
   | (with_reducible refine LeO.bind ?_ (fun _ => ?_))
  ·intro y0 y1 y2 y3 y4 y5 y6
   unfold flongref18_One.j1
   repeat' first
   | (with_reducible exact ih0 _ _ _)
   | (with_reducible exact ih1 _ _ _ _ _ _ _)
   | (with_reducible exact flongref02_One.mono _ _)
   | (with_reducible exact flongref02_Width.mono _ _)
   | (with_reducible exact flongref18_times.mono _ _ _)
   | (with_reducible exact LeO.refl _)
   | (with_reducible exact LeO.none _)
   | (with_reducible refine LeO.ite ?_ ?_)
   | (with_reducible refine LeO.bind ?_ (fun _ => ?_))
theorem flongref18_One.mono : ∀ a0 a1 k, LeO (flongref18_One.f k a0 a1) (flongref18_One.f (k + 1) a0 a1) := by
 intro a0 a1 k
 obtain ⟨ih0, ih1⟩ := flongref18_One.mono_l k
 unfold flongref18_One.f
 repeat' first
   | (with_reducible exact ih0 _ _ _)
   | (with_reducible exact ih1 _ _ _ _ _ _ _)
   | (with_reducible exact flongref02_One.mono _ _)
   | (with_reducible exact flongref02_Width.mono _ _)
   | (with_reducible exact flongref18_times.mono _ _ _)
   | (with_reducible exact LeO.refl _)
   | (with_reducible exact LeO.none _)
   | (with_reducible refine LeO.ite ?_ ?_)
   | (with_reducible refine LeO.bind ?_ (fun _ => ?_))
theorem flongref18_One.calls (k : Nat) (a0_0 : Int) (a0_1 : Int) (r : List Int) (w : World) (h : flongref18_One.f k a0_0 a0_1 = some r) :
  Calls Tryd.prog 40 #[.agg #[.int .i32 a0_0, .int .u8 a0_1]] w fun e w' => ∃ v0_ : Value, e = .returned (v0_) ∧ Kd.V (Kd.int .u8) 5 w' w.heap.size (fun k_ => (w.heap.size ≤ k_)) v0_ r ∧ Below w.heap.size w w' := by
 have hu35 := Tryd.underlying35
 have HB := Aside0.mk (Below.refl w.heap.size w)
 have H : ((flongref02_Safe.f a0_0).bind fun t309 => (if a0_0 = 160 then (flongref18_One.j0 k 32 a0_0 a0_1) else (flongref18_One.j0 k t309 a0_0 a0_1))) = some r := h
 clear h
 replace H := Option.bind_eq_some_iff.mp H
 obtain ⟨t309, A20, H⟩ := H
 replace H : (if a0_0 = 160 then (flongref18_One.j0 k 32 a0_0 a0_1) else (flongref18_One.j0 k t309 a0_0 a0_1)) = some r := H
 have A2 := Aside0.mk A20
 clear A20
 have HC3 := Aside0.mk H
 clear H
 go_enter Tryd.func40, Tryd.ntmps40
 go_upto_if 12 with (first | ((with_reducible refine gate_dst (N := 1) rfl ?_); refine box_event ?hg (N := 1) ?hd (cs := #[.int .i32 a0_0, .int .u8 a0_1]) (t := 35) ?hr ?_; (case hd => rfl); (case hg => rfl); (case hr => first | (go_simp; done) | (go_simp; rfl)); intro gb308 hg w4 hbox hb; have n0_ := Aside0.mk (below_step (by repeat (first | (with_reducible first | exact HB.out | apply below_alloc | apply pw_below_drewN | apply below_drew1) | exact HB.out)) hb); have n1_ := Aside0.mk (hbox); have n2_ := Aside0.mk ((by rw [hg]; exact (below_size (by repeat (first | (with_reducible first | exact HB.out | apply below_alloc | apply pw_below_drewN | apply below_drew1) | exact HB.out))) : w.heap.size ≤ gb308)); have n3_ := Aside0.mk ((by rw [hg]; exact (below_size (by repeat (first | (with_reducible first | exact HB.out | apply below_alloc | apply pw_below_drewN | apply below_drew1) | exact HB.out))) : w.heap.size ≤ gb308)); clear HB; have HB := n0_; have BK308 := n1_; have GW308 := n2_; have GE308 := n3_; clear n0_ n1_ n2_ n3_; clear hb hbox hg; have hcz5_0 : w4.cell? ⟨gb308, 0, none⟩ = some (.int .i32 a0_0) := (blk_cell BK308.out 0).trans rfl; have hcz5_1 : w4.cell? ⟨gb308, 1, none⟩ = some (.int .u8 a0_1) := (blk_cell BK308.out 1).trans rfl; have hfz5_0 := blk_frozen BK308.out 0; have hfz5_1 := blk_frozen BK308.out 1) | ((with_reducible refine gate_callee (f := 56) rfl ?_); refine goesL_ (some 9) rfl rfl Tryd.func56 (by kernel_rfl) rfl #[.int .i32 a0_0] rfl (by (try simp only [List.map_toArray, List.map_cons, List.map_nil]); first | done | rfl | (simp only [List.length_drop, List.length_take]; rfl)) ?_; (with_reducible refine (flongref02_Safe.calls a0_0 t309 _ A2.out).mono ?_); rintro e w' ⟨rfl, ⟨nd, rfl⟩⟩; refine ⟨_, rfl, ?_⟩))
 (try simp only [Act.put, List.setIfInBounds_toArray, List.set_cons_zero, List.set_cons_succ])
 go_cut [3] (fun v3 wc => ∃ (kq : Nat) (x3_2 : Int), v3 = .int .i32 x3_2 ∧ Aside0 (flongref18_One.j0 kq x3_2 a0_0 a0_1 = some r) ∧ Aside0 (kq ≤ k) ∧ Aside0 (wc.heap[gb308]? = some (.cells #[.int .i32 a0_0, .int .u8 a0_1] 35 (0, 0))) ∧ Aside0 (Below w.heap.size w wc))
 case first =>
  have H := HC3.out
  clear HC3
  by_cases c6 : a0_0 = 160
  ·rw [if_pos c6] at H
   have c6b0 : (a0_0 == 160) = true := beq_iff_eq.mpr c6
   have c6b1 : (a0_0 != 160) = false := bne_eq_false_iff_eq.mpr c6
   clear c6
   (first | rw [c6b0] | (simp only [i64_w, i32_w]; rw [c6b0]) | skip)
   have H' := Aside0.mk H
   clear H
   go_wp2
   go_meet
   case rel => exact ⟨_, (32), (by first | rfl | (simp; done) | (simp [*]; done)), H', ⟨by first | omega | exact Nat.le_refl _⟩, ⟨by (with_reducible repeat (first | refine blk_drewN ?_ _ | refine blk_drew ?_ | refine blk_alloc ?_ _)); exact BK308.out⟩, ⟨by repeat (first | (with_reducible first | exact HB.out | apply below_alloc | apply pw_below_drewN | apply below_drew1 | refine below_set ?_ GE308.out) | exact HB.out)⟩⟩
  ·rw [if_neg c6] at H
   have c6b0 : (a0_0 == 160) = false := beq_eq_false_iff_ne.mpr c6
   have c6b1 : (a0_0 != 160) = true := bne_iff_ne.mpr c6
   (first | rw [c6b0] | (simp only [i64_w, i32_w]; rw [c6b0]) | skip)
   have H' := Aside0.mk H
   clear H
   go_wp2
   go_meet
   case rel => exact ⟨_, (t309), (by first | rfl | (simp; done) | (simp [*]; done)), H', ⟨by first | omega | exact Nat.le_refl _⟩, ⟨by (with_reducible repeat (first | refine blk_drewN ?_ _ | refine blk_drew ?_ | refine blk_alloc ?_ _)); exact BK308.out⟩, ⟨by repeat (first | (with_reducible first | exact HB.out | apply below_alloc | apply pw_below_drewN | apply below_drew1 | refine below_set ?_ GE308.out) | exact HB.out)⟩⟩
 case rest =>
  clear HC3
  try clear p2
  try clear c4
  try clear c5
  try clear c6
  try clear c6b0
  try clear c6b1
  try clear hcz5_0
  try clear hcz5_1
  try clear hfz5_0
  try clear hfz5_1
  obtain ⟨kq, x3_2, rfl, HA, HJ2, BK308, HB⟩ := hcut
  cases kq with
  | zero => exact absurd HA.out (by simp [flongref18_One.j0])
  | succ kj2 =>
   have H := HA.out
   clear HA
   simp only [flongref18_One.j0] at H
   replace H := Option.bind_eq_some_iff.mp H
   obtain ⟨t310, A70, H⟩ := H
   replace H : ((flongref02_Width.f kj2 x3_2).bind fun t313 => (if t313 > 0 then (if x3_2 = 32 then (flongref18_One.j1 kj2 x3_2 (strOfNums t310) t313 (⟨#[]⟩ : ByteArray) false a0_0 a0_1) else (flongref18_One.j1 kj2 x3_2 (strOfNums t310) t313 (⟨#[]⟩ : ByteArray) ((((Int.tdiv a0_1 2) % 256) % 2) == 1) a0_0 a0_1)) else (flongref18_One.j1 kj2 x3_2 (strOfNums t310) t313 (⟨#[]⟩ : ByteArray) false a0_0 a0_1))) = some r := H
   have A7 := Aside0.mk A70
   clear A70
   replace H := Option.bind_eq_some_iff.mp H
   obtain ⟨t313, A80, H⟩ := H
   replace H : (if t313 > 0 then (if x3_2 = 32 then (flongref18_One.j1 kj2 x3_2 (strOfNums t310) t313 (⟨#[]⟩ : ByteArray) false a0_0 a0_1) else (flongref18_One.j1 kj2 x3_2 (strOfNums t310) t313 (⟨#[]⟩ : ByteArray) ((((Int.tdiv a0_1 2) % 256) % 2) == 1) a0_0 a0_1)) else (flongref18_One.j1 kj2 x3_2 (strOfNums t310) t313 (⟨#[]⟩ : ByteArray) false a0_0 a0_1)) = some r := H
   have A8 := Aside0.mk A80
   clear A80
   have HC9 := Aside0.mk H
   clear H
   go_upto_region 7 with (first | ((with_reducible refine gate_callee (f := 28) rfl ?_); refine goesL_ (some 14) rfl rfl Tryd.func28 (by kernel_rfl) rfl #[.int .i32 x3_2] rfl (by (try simp only [List.map_toArray, List.map_cons, List.map_nil]); first | done | rfl | (simp only [List.length_drop, List.length_take]; rfl)) ?_; (with_reducible refine (flongref02_One.calls kj2 x3_2 t310 _ A7.out).mono ?_); rintro e w10 ⟨v311, rfl, ho0, hb⟩; refine ⟨_, rfl, ?_⟩; have n0_ := Aside0.mk (Kd.R_lower (Kd.R_newM (M := fun k_ => (w.heap.size ≤ k_)) ho0 (below_size (by repeat (first | (with_reducible first | exact HB.out | apply below_alloc | apply pw_below_drewN | apply below_drew1 | refine below_set ?_ GE308.out) | exact HB.out))) (fun k_ h_ => h_)) (below_size (by repeat (first | (with_reducible first | exact HB.out | apply below_alloc | apply pw_below_drewN | apply below_drew1 | refine below_set ?_ GE308.out) | exact HB.out)))); have n1_ := Aside0.mk (blk_below (g := gb308) (o := .cells #[.int .i32 a0_0, .int .u8 a0_1] 35 (0, 0)) (by (with_reducible repeat (first | refine blk_drewN ?_ _ | refine blk_drew ?_ | refine blk_alloc ?_ _)); exact BK308.out) hb); have n2_ := Aside0.mk (below_step (by repeat (first | (with_reducible first | exact HB.out | apply below_alloc | apply pw_below_drewN | apply below_drew1 | refine below_set ?_ GE308.out) | exact HB.out)) hb); clear BK308; clear HB; have HO312 := n0_; have BK308 := n1_; have HB := n2_; clear n0_ n1_ n2_; (try clear hb); (try clear hb2); (try clear hk); (try clear hi); (try clear ho0); have hcv11 := own_string (P := Tryd.prog) Tryd.underlying25 Tryd.underlying5 Tryd.underlying9 (Kd.own_of_R HO312.out)) | ((with_reducible refine gate_callee (f := 31) rfl ?_); refine goesL_ (some 17) rfl rfl Tryd.func31 (by kernel_rfl) rfl #[.int .i32 x3_2] rfl (by (try simp only [List.map_toArray, List.map_cons, List.map_nil]); first | done | rfl | (simp only [List.length_drop, List.length_take]; rfl)) ?_; (with_reducible refine (flongref02_Width.calls kj2 x3_2 t313 _ A8.out).mono ?_); rintro e w12 ⟨rfl, hb⟩; refine ⟨_, rfl, ?_⟩; have n0_ := Aside0.mk (Kd.R_below (by (with_reducible repeat (first | apply Kd.R_alloc | apply Kd.R_drewN | apply Kd.R_drew)); exact HO312.out) hb); have n1_ := Aside0.mk (blk_below (g := gb308) (o := .cells #[.int .i32 a0_0, .int .u8 a0_1] 35 (0, 0)) (by (with_reducible repeat (first | refine blk_drewN ?_ _ | refine blk_drew ?_ | refine blk_alloc ?_ _)); exact BK308.out) hb); have n2_ := Aside0.mk (below_step (by repeat (first | (with_reducible first | exact HB.out | apply below_alloc | apply pw_below_drewN | apply below_drew1 | refine below_set ?_ GE308.out) | exact HB.out)) hb); clear HO312; clear BK308; clear HB; have HO312 := n0_; have BK308 := n1_; have HB := n2_; clear n0_ n1_ n2_; (try clear hb); (try clear hb2); (try clear hk); (try clear hi)))
   (try simp only [Act.put, List.setIfInBounds_toArray, List.set_cons_zero, List.set_cons_succ])
   go_cut [30] (fun v30 wc => ∃ (kq : Nat) (x30_8 : Bool), v30 = .bool x30_8 ∧ Aside0 (flongref18_One.j1 kq x3_2 (strOfNums t310) t313 (⟨#[]⟩ : ByteArray) x30_8 a0_0 a0_1 = some r) ∧ Aside0 (kq ≤ kj2) ∧ Aside0 (wc.heap[gb308]? = some (.cells #[.int .i32 a0_0, .int .u8 a0_1] 35 (0, 0))) ∧ Aside0 (Below w.heap.size w wc))
   case first =>
    have H := HC9.out
    clear HC9
    by_cases c13 : t313 > 0
    ·rw [if_pos c13] at H
     have c13b0 : decide (0 < t313) = true := decide_eq_true c13
     clear c13
     (first | rw [c13b0] | (simp only [i64_w, i32_w]; rw [c13b0]) | skip)
     by_cases c14 : x3_2 = 32
     ·rw [if_pos c14] at H
      have c14b0 : (x3_2 == 32) = true := beq_iff_eq.mpr c14
      have c14b1 : (x3_2 != 32) = false := bne_eq_false_iff_eq.mpr c14
      clear c14
      have H' := Aside0.mk H
      clear H
      go_wp2
      go_meet
      case rel => exact ⟨_, (false), (by first | rfl | (simp; done) | (simp [*]; done)), H', ⟨by have := HJ2.out; first | omega | exact Nat.le_refl _⟩, ⟨by (with_reducible repeat (first | refine blk_drewN ?_ _ | refine blk_drew ?_ | refine blk_alloc ?_ _)); exact BK308.out⟩, ⟨by repeat (first | (with_reducible first | exact HB.out | apply below_alloc | apply pw_below_drewN | apply below_drew1 | refine below_set ?_ GE308.out) | exact HB.out)⟩⟩
     ·rw [if_neg c14] at H
      have c14b0 : (x3_2 == 32) = false := beq_eq_false_iff_ne.mpr c14
      have c14b1 : (x3_2 != 32) = true := bne_iff_ne.mpr c14
      have H' := Aside0.mk H
      clear H
      have hcz15_0 : w12.cell? ⟨gb308, 0, none⟩ = some (.int .i32 a0_0) := (blk_cell BK308.out 0).trans rfl
      have hcz15_1 : w12.cell? ⟨gb308, 1, none⟩ = some (.int .u8 a0_1) := (blk_cell BK308.out 1).trans rfl
      have hfz15_0 := blk_frozen BK308.out 0
      have hfz15_1 := blk_frozen BK308.out 1
      go_wp2
      go_meet
      case rel => exact ⟨_, (((((Int.tdiv a0_1 2) % 256) % 2) == 1)), (by first | rfl | (simp; done) | (simp [*]; done)), H', ⟨by have := HJ2.out; first | omega | exact Nat.le_refl _⟩, ⟨by (with_reducible repeat (first | refine blk_drewN ?_ _ | refine blk_drew ?_ | refine blk_alloc ?_ _)); exact BK308.out⟩, ⟨by repeat (first | (with_reducible first | exact HB.out | apply below_alloc | apply pw_below_drewN | apply below_drew1 | refine below_set ?_ GE308.out) | exact HB.out)⟩⟩
    ·rw [if_neg c13] at H
     have c13b0 : decide (0 < t313) = false := decide_eq_false c13
     clear c13
     (first | rw [c13b0] | (simp only [i64_w, i32_w]; rw [c13b0]) | skip)
     have H' := Aside0.mk H
     clear H
     go_wp2
     go_meet
     case rel => exact ⟨_, (false), (by first | rfl | (simp; done) | (simp [*]; done)), H', ⟨by have := HJ2.out; first | omega | exact Nat.le_refl _⟩, ⟨by (with_reducible repeat (first | refine blk_drewN ?_ _ | refine blk_drew ?_ | refine blk_alloc ?_ _)); exact BK308.out⟩, ⟨by repeat (first | (with_reducible first | exact HB.out | apply below_alloc | apply pw_below_drewN | apply below_drew1 | refine below_set ?_ GE308.out) | exact HB.out)⟩⟩
   case rest =>
    clear HC9
    try clear c1
    try clear hcv1
    try clear c2
    try clear p2
    try clear c3
    try clear c4
    try clear c5
    try clear c6
    try clear c6b0
    try clear c6b1
    try clear hcv11
    try clear c13
    try clear c13b0
    try clear c14
    try clear c14b0
    try clear c14b1
    try clear hcz15_0
    try clear hcz15_1
    try clear hcz5_0
    try clear hcz5_1
    try clear hfz15_0
    try clear hfz15_1
    try clear hfz5_0
    try clear hfz5_1
    try clear p2
    obtain ⟨kq, x30_8, rfl, HA, HJ8, BK308, HB⟩ := hcut
    cases kq with
    | zero => exact absurd HA.out (by simp [flongref18_One.j1])
    | succ kj8 =>
     have H := HA.out
     clear HA
     simp only [flongref18_One.j1] at H
     by_cases c16 : x30_8 = true
     ·subst c16
      have H1 : ((flongref18_times.f kj8 (⟨#[95]⟩ : ByteArray) t313).bind fun t314 => ((flongref18_times.f kj8 (⟨#[8]⟩ : ByteArray) t313).bind fun t315 => (if t314.size + t315.size ≤ 9223372036854775807 then (if t313 > 0 then (if x3_2 = 32 then (if (t314 ++ t315).size + (strOfNums t310).size ≤ 9223372036854775807 then ((conv_bytes.f ((t314 ++ t315) ++ (strOfNums t310))).bind fun t316 => (some t316)) else (none)) else (if (Int.tmod a0_1 2) = 1 then (if (t314 ++ t315).size + (strOfNums t310).size ≤ 9223372036854775807 then ((flongref18_times.f kj8 (⟨#[8]⟩ : ByteArray) t313).bind fun t319 => (if ((t314 ++ t315) ++ (strOfNums t310)).size + t319.size ≤ 9223372036854775807 then (if (((t314 ++ t315) ++ (strOfNums t310)) ++ t319).size + (strOfNums t310).size ≤ 9223372036854775807 then ((conv_bytes.f ((((t314 ++ t315) ++ (strOfNums t310)) ++ t319) ++ (strOfNums t310))).bind fun t320 => (some t320)) else (none)) else (none))) else (none)) else (if (t314 ++ t315).size + (strOfNums t310).size ≤ 9223372036854775807 then ((conv_bytes.f ((t314 ++ t315) ++ (strOfNums t310))).bind fun t323 => (some t323)) else (none)))) else (if (t314 ++ t315).size + (strOfNums t310).size ≤ 9223372036854775807 then ((conv_bytes.f ((t314 ++ t315) ++ (strOfNums t310))).bind fun t326 => (some t326)) else (none))) else (none)))) = some r := by rw [if_pos rfl] at H; exact H
      clear H
      have H := H1
      clear H1
      replace H := Option.bind_eq_some_iff.mp H
      obtain ⟨t314, A170, H⟩ := H
      replace H : ((flongref18_times.f kj8 (⟨#[8]⟩ : ByteArray) t313).bind fun t315 => (if t314.size + t315.size ≤ 9223372036854775807 then (if t313 > 0 then (if x3_2 = 32 then (if (t314 ++ t315).size + (strOfNums t310).size ≤ 9223372036854775807 then ((conv_bytes.f ((t314 ++ t315) ++ (strOfNums t310))).bind fun t316 => (some t316)) else (none)) else (if (Int.tmod a0_1 2) = 1 then (if (t314 ++ t315).size + (strOfNums t310).size ≤ 9223372036854775807 then ((flongref18_times.f kj8 (⟨#[8]⟩ : ByteArray) t313).bind fun t319 => (if ((t314 ++ t315) ++ (strOfNums t310)).size + t319.size ≤ 9223372036854775807 then (if (((t314 ++ t315) ++ (strOfNums t310)) ++ t319).size + (strOfNums t310).size ≤ 9223372036854775807 then ((conv_bytes.f ((((t314 ++ t315) ++ (strOfNums t310)) ++ t319) ++ (strOfNums t310))).bind fun t320 => (some t320)) else (none)) else (none))) else (none)) else (if (t314 ++ t315).size + (strOfNums t310).size ≤ 9223372036854775807 then ((conv_bytes.f ((t314 ++ t315) ++ (strOfNums t310))).bind fun t323 => (some t323)) else (none)))) else (if (t314 ++ t315).size + (strOfNums t310).size ≤ 9223372036854775807 then ((conv_bytes.f ((t314 ++ t315) ++ (strOfNums t310))).bind fun t326 => (some t326)) else (none))) else (none))) = some r := H
      have A17 := Aside0.mk A170
      clear A170
      replace H := Option.bind_eq_some_iff.mp H
      obtain ⟨t315, A180, H⟩ := H
      replace H : (if t314.size + t315.size ≤ 9223372036854775807 then (if t313 > 0 then (if x3_2 = 32 then (if (t314 ++ t315).size + (strOfNums t310).size ≤ 9223372036854775807 then ((conv_bytes.f ((t314 ++ t315) ++ (strOfNums t310))).bind fun t316 => (some t316)) else (none)) else (if (Int.tmod a0_1 2) = 1 then (if (t314 ++ t315).size + (strOfNums t310).size ≤ 9223372036854775807 then ((flongref18_times.f kj8 (⟨#[8]⟩ : ByteArray) t313).bind fun t319 => (if ((t314 ++ t315) ++ (strOfNums t310)).size + t319.size ≤ 9223372036854775807 then (if (((t314 ++ t315) ++ (strOfNums t310)) ++ t319).size + (strOfNums t310).size ≤ 9223372036854775807 then ((conv_bytes.f ((((t314 ++ t315) ++ (strOfNums t310)) ++ t319) ++ (strOfNums t310))).bind fun t320 => (some t320)) else (none)) else (none))) else (none)) else (if (t314 ++ t315).size + (strOfNums t310).size ≤ 9223372036854775807 then ((conv_bytes.f ((t314 ++ t315) ++ (strOfNums t310))).bind fun t323 => (some t323)) else (none)))) else (if (t314 ++ t315).size + (strOfNums t310).size ≤ 9223372036854775807 then ((conv_bytes.f ((t314 ++ t315) ++ (strOfNums t310))).bind fun t326 => (some t326)) else (none))) else (none)) = some r := H
      have A18 := Aside0.mk A180
      clear A180
      by_cases c19 : t314.size + t315.size ≤ 9223372036854775807
      ·rw [if_pos c19] at H
       have c19b0 := eq_true c19
       have c19b1 : decide (t314.size + t315.size ≤ 9223372036854775807) = true := decide_eq_true c19
       try have c19b2 : (9223372036854775807 < t314.size + t315.size) = False := eq_false (Nat.not_lt.2 c19)
       by_cases c20 : t313 > 0
       ·rw [if_pos c20] at H
        have c20b0 : decide (0 < t313) = true := decide_eq_true c20
        clear c20
        by_cases c21 : x3_2 = 32
        ·rw [if_pos c21] at H
         have c21b0 : (x3_2 == 32) = true := beq_iff_eq.mpr c21
         have c21b1 : (x3_2 != 32) = false := bne_eq_false_iff_eq.mpr c21
         clear c21
         by_cases c22 : (t314 ++ t315).size + (strOfNums t310).size ≤ 9223372036854775807
         ·rw [if_pos c22] at H
          have c22b0 := eq_true c22
          have c22b1 : decide ((t314 ++ t315).size + (strOfNums t310).size ≤ 9223372036854775807) = true := decide_eq_true c22
          try have c22b2 : (9223372036854775807 < (t314 ++ t315).size + (strOfNums t310).size) = False := eq_false (Nat.not_lt.2 c22)
          (try (have c22n := c22; simp only [ByteArray.size_append'] at c22n; have c22b3 := eq_false (Nat.not_lt.2 c22n); have c22b4 := eq_true c22n; clear c22n))
          replace H := Option.bind_eq_some_iff.mp H
          obtain ⟨t316, A230, H⟩ := H
          replace H : (some t316) = some r := H
          have A23 := Aside0.mk A230
          clear A230
          obtain rfl := Option.some.inj H
          go_wp2_with (first | ((with_reducible refine gate_callee (f := 66) rfl ?_); refine goesL_ (some 32) rfl rfl Tryd.func66 (by kernel_rfl) rfl #[.string (⟨#[95]⟩ : ByteArray), .int .i64 t313] rfl (by (try simp only [List.map_toArray, List.map_cons, List.map_nil]); first | done | rfl | (simp only [List.length_drop, List.length_take]; rfl)) ?_; (with_reducible refine (flongref18_times.calls kj8 (⟨#[95]⟩ : ByteArray) t313 t314 _ A17.out).mono ?_); rintro e w' ⟨rfl, ⟨nd, rfl⟩⟩; refine ⟨_, rfl, ?_⟩) | ((with_reducible refine gate_callee (f := 66) rfl ?_); refine goesL_ (some 34) rfl rfl Tryd.func66 (by kernel_rfl) rfl #[.string (⟨#[8]⟩ : ByteArray), .int .i64 t313] rfl (by (try simp only [List.map_toArray, List.map_cons, List.map_nil]); first | done | rfl | (simp only [List.length_drop, List.length_take]; rfl)) ?_; (with_reducible refine (flongref18_times.calls kj8 (⟨#[8]⟩ : ByteArray) t313 t315 _ A18.out).mono ?_); rintro e w' ⟨rfl, ⟨nd, rfl⟩⟩; refine ⟨_, rfl, ?_⟩) | ((with_reducible refine gate_convert (src := 9) (dst := 25) rfl ?_); refine convL_ _ rfl rfl ((t314 ++ t315) ++ (strOfNums t310)) rfl rfl ?_; (with_reducible refine (conv_bytes.calls ((t314 ++ t315) ++ (strOfNums t310)) t316 _ A23.out).mono ?_); rintro e w24 ⟨v317, rfl, ho0, hb⟩; refine ⟨_, rfl, ?_⟩; have n0_ := Aside0.mk (Kd.V_lower (Kd.V_mono (ok' := fun k_ => (w.heap.size ≤ k_) ∧ k_ ≠ gb308) ho0 (fun k_ hk_ => ⟨(Nat.le_trans (below_size (by repeat (first | (with_reducible first | exact HB.out | apply below_alloc | apply pw_below_drewN | apply below_drew1 | refine below_set ?_ GE308.out) | exact HB.out))) hk_), (Kd.freshB (g := gb308) (o := .cells #[.int .i32 a0_0, .int .u8 a0_1] 35 (0, 0)) (by (with_reducible repeat (first | refine blk_drewN ?_ _ | refine blk_drew ?_ | refine blk_alloc ?_ _)); exact BK308.out) k_ hk_)⟩)) (below_size (by repeat (first | (with_reducible first | exact HB.out | apply below_alloc | apply pw_below_drewN | apply below_drew1 | refine below_set ?_ GE308.out) | exact HB.out)))); have n1_ := Aside0.mk (blk_below (g := gb308) (o := .cells #[.int .i32 a0_0, .int .u8 a0_1] 35 (0, 0)) (by (with_reducible repeat (first | refine blk_drewN ?_ _ | refine blk_drew ?_ | refine blk_alloc ?_ _)); exact BK308.out) hb); have n2_ := Aside0.mk (below_step (by repeat (first | (with_reducible first | exact HB.out | apply below_alloc | apply pw_below_drewN | apply below_drew1 | refine below_set ?_ GE308.out) | exact HB.out)) hb); clear BK308; clear HB; have HO318 := n0_; have BK308 := n1_; have HB := n2_; clear n0_ n1_ n2_; (try clear hb); (try clear hb2); (try clear hk); (try clear hi); (try clear ho0)))
          go_ret
          exact ⟨_, by first | rfl | (simp [errW_none, errW_some] <;> rfl) | (simp [*, errW_none, errW_some] <;> rfl), by (with_reducible repeat (first | apply Kd.V_alloc | apply Kd.V_drewN | apply Kd.V_drew)); exact Kd.V_mono HO318.out (fun _ hk => hk.1), by repeat (first | (with_reducible first | exact HB.out | apply below_alloc | apply pw_below_drewN | apply below_drew1 | refine below_set ?_ GE308.out) | exact HB.out)⟩
         ·rw [if_neg c22] at H
          exact absurd H (by simp)
        ·rw [if_neg c21] at H
         have c21b0 : (x3_2 == 32) = false := beq_eq_false_iff_ne.mpr c21
         have c21b1 : (x3_2 != 32) = true := bne_iff_ne.mpr c21
         by_cases c25 : (Int.tmod a0_1 2) = 1
         ·rw [if_pos c25] at H
          have c25b0 : ((Int.tmod a0_1 2) == 1) = true := beq_iff_eq.mpr c25
          have c25b1 : ((Int.tmod a0_1 2) != 1) = false := bne_eq_false_iff_eq.mpr c25
          clear c25
          by_cases c26 : (t314 ++ t315).size + (strOfNums t310).size ≤ 9223372036854775807
          ·rw [if_pos c26] at H
           have c26b0 := eq_true c26
           have c26b1 : decide ((t314 ++ t315).size + (strOfNums t310).size ≤ 9223372036854775807) = true := decide_eq_true c26
           try have c26b2 : (9223372036854775807 < (t314 ++ t315).size + (strOfNums t310).size) = False := eq_false (Nat.not_lt.2 c26)
           (try (have c26n := c26; simp only [ByteArray.size_append'] at c26n; have c26b3 := eq_false (Nat.not_lt.2 c26n); have c26b4 := eq_true c26n; clear c26n))
           replace H := Option.bind_eq_some_iff.mp H
           obtain ⟨t319, A270, H⟩ := H
           replace H : (if ((t314 ++ t315) ++ (strOfNums t310)).size + t319.size ≤ 9223372036854775807 then (if (((t314 ++ t315) ++ (strOfNums t310)) ++ t319).size + (strOfNums t310).size ≤ 9223372036854775807 then ((conv_bytes.f ((((t314 ++ t315) ++ (strOfNums t310)) ++ t319) ++ (strOfNums t310))).bind fun t320 => (some t320)) else (none)) else (none)) = some r := H
           have A27 := Aside0.mk A270
           clear A270
           by_cases c28 : ((t314 ++ t315) ++ (strOfNums t310)).size + t319.size ≤ 9223372036854775807
           ·rw [if_pos c28] at H
            have c28b0 := eq_true c28
            have c28b1 : decide (((t314 ++ t315) ++ (strOfNums t310)).size + t319.size ≤ 9223372036854775807) = true := decide_eq_true c28
            try have c28b2 : (9223372036854775807 < ((t314 ++ t315) ++ (strOfNums t310)).size + t319.size) = False := eq_false (Nat.not_lt.2 c28)
            (try (have c28n := c28; simp only [ByteArray.size_append'] at c28n; have c28b3 := eq_false (Nat.not_lt.2 c28n); have c28b4 := eq_true c28n; clear c28n))
            by_cases c29 : (((t314 ++ t315) ++ (strOfNums t310)) ++ t319).size + (strOfNums t310).size ≤ 9223372036854775807
            ·rw [if_pos c29] at H
             have c29b0 := eq_true c29
             have c29b1 : decide ((((t314 ++ t315) ++ (strOfNums t310)) ++ t319).size + (strOfNums t310).size ≤ 9223372036854775807) = true := decide_eq_true c29
             try have c29b2 : (9223372036854775807 < (((t314 ++ t315) ++ (strOfNums t310)) ++ t319).size + (strOfNums t310).size) = False := eq_false (Nat.not_lt.2 c29)
             (try (have c29n := c29; simp only [ByteArray.size_append'] at c29n; have c29b3 := eq_false (Nat.not_lt.2 c29n); have c29b4 := eq_true c29n; clear c29n))
             replace H := Option.bind_eq_some_iff.mp H
             obtain ⟨t320, A300, H⟩ := H
             replace H : (some t320) = some r := H
             have A30 := Aside0.mk A300
             clear A300
             obtain rfl := Option.some.inj H
             go_wp2_with (first | ((with_reducible refine gate_callee (f := 66) rfl ?_); refine goesL_ (some 32) rfl rfl Tryd.func66 (by kernel_rfl) rfl #[.string (⟨#[95]⟩ : ByteArray), .int .i64 t313] rfl (by (try simp only [List.map_toArray, List.map_cons, List.map_nil]); first | done | rfl | (simp only [List.length_drop, List.length_take]; rfl)) ?_; (with_reducible refine (flongref18_times.calls kj8 (⟨#[95]⟩ : ByteArray) t313 t314 _ A17.out).mono ?_); rintro e w' ⟨rfl, ⟨nd, rfl⟩⟩; refine ⟨_, rfl, ?_⟩) | ((with_reducible refine gate_callee (f := 66) rfl ?_); refine goesL_ (some 34) rfl rfl Tryd.func66 (by kernel_rfl) rfl #[.string (⟨#[8]⟩ : ByteArray), .int .i64 t313] rfl (by (try simp only [List.map_toArray, List.map_cons, List.map_nil]); first | done | rfl | (simp only [List.length_drop, List.length_take]; rfl)) ?_; (with_reducible refine (flongref18_times.calls kj8 (⟨#[8]⟩ : ByteArray) t313 t315 _ A18.out).mono ?_); rintro e w' ⟨rfl, ⟨nd, rfl⟩⟩; refine ⟨_, rfl, ?_⟩; have hcz31_0 : wc.cell? ⟨gb308, 0, none⟩ = some (.int .i32 a0_0) := (blk_cell BK308.out 0).trans rfl; have hcz31_1 : wc.cell? ⟨gb308, 1, none⟩ = some (.int .u8 a0_1) := (blk_cell BK308.out 1).trans rfl; have hfz31_0 := blk_frozen BK308.out 0; have hfz31_1 := blk_frozen BK308.out 1) | ((with_reducible refine gate_callee (f := 66) rfl ?_); refine goesL_ (some 52) rfl rfl Tryd.func66 (by kernel_rfl) rfl #[.string (⟨#[8]⟩ : ByteArray), .int .i64 t313] rfl (by (try simp only [List.map_toArray, List.map_cons, List.map_nil]); first | done | rfl | (simp only [List.length_drop, List.length_take]; rfl)) ?_; (with_reducible refine (flongref18_times.calls kj8 (⟨#[8]⟩ : ByteArray) t313 t319 _ A27.out).mono ?_); rintro e w' ⟨rfl, ⟨nd, rfl⟩⟩; refine ⟨_, rfl, ?_⟩) | ((with_reducible refine gate_convert (src := 9) (dst := 25) rfl ?_); refine convL_ _ rfl rfl ((((t314 ++ t315) ++ (strOfNums t310)) ++ t319) ++ (strOfNums t310)) rfl rfl ?_; (with_reducible refine (conv_bytes.calls ((((t314 ++ t315) ++ (strOfNums t310)) ++ t319) ++ (strOfNums t310)) t320 _ A30.out).mono ?_); rintro e w32 ⟨v321, rfl, ho0, hb⟩; refine ⟨_, rfl, ?_⟩; have n0_ := Aside0.mk (Kd.V_lower (Kd.V_mono (ok' := fun k_ => (w.heap.size ≤ k_) ∧ k_ ≠ gb308) ho0 (fun k_ hk_ => ⟨(Nat.le_trans (below_size (by repeat (first | (with_reducible first | exact HB.out | apply below_alloc | apply pw_below_drewN | apply below_drew1 | refine below_set ?_ GE308.out) | exact HB.out))) hk_), (Kd.freshB (g := gb308) (o := .cells #[.int .i32 a0_0, .int .u8 a0_1] 35 (0, 0)) (by (with_reducible repeat (first | refine blk_drewN ?_ _ | refine blk_drew ?_ | refine blk_alloc ?_ _)); exact BK308.out) k_ hk_)⟩)) (below_size (by repeat (first | (with_reducible first | exact HB.out | apply below_alloc | apply pw_below_drewN | apply below_drew1 | refine below_set ?_ GE308.out) | exact HB.out)))); have n1_ := Aside0.mk (blk_below (g := gb308) (o := .cells #[.int .i32 a0_0, .int .u8 a0_1] 35 (0, 0)) (by (with_reducible repeat (first | refine blk_drewN ?_ _ | refine blk_drew ?_ | refine blk_alloc ?_ _)); exact BK308.out) hb); have n2_ := Aside0.mk (below_step (by repeat (first | (with_reducible first | exact HB.out | apply below_alloc | apply pw_below_drewN | apply below_drew1 | refine below_set ?_ GE308.out) | exact HB.out)) hb); clear BK308; clear HB; have HO322 := n0_; have BK308 := n1_; have HB := n2_; clear n0_ n1_ n2_; (try clear hb); (try clear hb2); (try clear hk); (try clear hi); (try clear ho0)))
             go_ret
             exact ⟨_, by first | rfl | (simp [errW_none, errW_some] <;> rfl) | (simp [*, errW_none, errW_some] <;> rfl), by (with_reducible repeat (first | apply Kd.V_alloc | apply Kd.V_drewN | apply Kd.V_drew)); exact Kd.V_mono HO322.out (fun _ hk => hk.1), by repeat (first | (with_reducible first | exact HB.out | apply below_alloc | apply pw_below_drewN | apply below_drew1 | refine below_set ?_ GE308.out) | exact HB.out)⟩
            ·rw [if_neg c29] at H
             exact absurd H (by simp)
           ·rw [if_neg c28] at H
            exact absurd H (by simp)
          ·rw [if_neg c26] at H
           exact absurd H (by simp)
         ·rw [if_neg c25] at H
          have c25b0 : ((Int.tmod a0_1 2) == 1) = false := beq_eq_false_iff_ne.mpr c25
          have c25b1 : ((Int.tmod a0_1 2) != 1) = true := bne_iff_ne.mpr c25
          by_cases c33 : (t314 ++ t315).size + (strOfNums t310).size ≤ 9223372036854775807
          ·rw [if_pos c33] at H
           have c33b0 := eq_true c33
           have c33b1 : decide ((t314 ++ t315).size + (strOfNums t310).size ≤ 9223372036854775807) = true := decide_eq_true c33
           try have c33b2 : (9223372036854775807 < (t314 ++ t315).size + (strOfNums t310).size) = False := eq_false (Nat.not_lt.2 c33)
           (try (have c33n := c33; simp only [ByteArray.size_append'] at c33n; have c33b3 := eq_false (Nat.not_lt.2 c33n); have c33b4 := eq_true c33n; clear c33n))
           replace H := Option.bind_eq_some_iff.mp H
           obtain ⟨t323, A340, H⟩ := H
           replace H : (some t323) = some r := H
           have A34 := Aside0.mk A340
           clear A340
           obtain rfl := Option.some.inj H
           go_wp2_with (first | ((with_reducible refine gate_callee (f := 66) rfl ?_); refine goesL_ (some 32) rfl rfl Tryd.func66 (by kernel_rfl) rfl #[.string (⟨#[95]⟩ : ByteArray), .int .i64 t313] rfl (by (try simp only [List.map_toArray, List.map_cons, List.map_nil]); first | done | rfl | (simp only [List.length_drop, List.length_take]; rfl)) ?_; (with_reducible refine (flongref18_times.calls kj8 (⟨#[95]⟩ : ByteArray) t313 t314 _ A17.out).mono ?_); rintro e w' ⟨rfl, ⟨nd, rfl⟩⟩; refine ⟨_, rfl, ?_⟩) | ((with_reducible refine gate_callee (f := 66) rfl ?_); refine goesL_ (some 34) rfl rfl Tryd.func66 (by kernel_rfl) rfl #[.string (⟨#[8]⟩ : ByteArray), .int .i64 t313] rfl (by (try simp only [List.map_toArray, List.map_cons, List.map_nil]); first | done | rfl | (simp only [List.length_drop, List.length_take]; rfl)) ?_; (with_reducible refine (flongref18_times.calls kj8 (⟨#[8]⟩ : ByteArray) t313 t315 _ A18.out).mono ?_); rintro e w' ⟨rfl, ⟨nd, rfl⟩⟩; refine ⟨_, rfl, ?_⟩; have hcz35_0 : wc.cell? ⟨gb308, 0, none⟩ = some (.int .i32 a0_0) := (blk_cell BK308.out 0).trans rfl; have hcz35_1 : wc.cell? ⟨gb308, 1, none⟩ = some (.int .u8 a0_1) := (blk_cell BK308.out 1).trans rfl; have hfz35_0 := blk_frozen BK308.out 0; have hfz35_1 := blk_frozen BK308.out 1) | ((with_reducible refine gate_convert (src := 9) (dst := 25) rfl ?_); refine convL_ _ rfl rfl ((t314 ++ t315) ++ (strOfNums t310)) rfl rfl ?_; (with_reducible refine (conv_bytes.calls ((t314 ++ t315) ++ (strOfNums t310)) t323 _ A34.out).mono ?_); rintro e w36 ⟨v324, rfl, ho0, hb⟩; refine ⟨_, rfl, ?_⟩; have n0_ := Aside0.mk (Kd.V_lower (Kd.V_mono (ok' := fun k_ => (w.heap.size ≤ k_) ∧ k_ ≠ gb308) ho0 (fun k_ hk_ => ⟨(Nat.le_trans (below_size (by repeat (first | (with_reducible first | exact HB.out | apply below_alloc | apply pw_below_drewN | apply below_drew1 | refine below_set ?_ GE308.out) | exact HB.out))) hk_), (Kd.freshB (g := gb308) (o := .cells #[.int .i32 a0_0, .int .u8 a0_1] 35 (0, 0)) (by (with_reducible repeat (first | refine blk_drewN ?_ _ | refine blk_drew ?_ | refine blk_alloc ?_ _)); exact BK308.out) k_ hk_)⟩)) (below_size (by repeat (first | (with_reducible first | exact HB.out | apply below_alloc | apply pw_below_drewN | apply below_drew1 | refine below_set ?_ GE308.out) | exact HB.out)))); have n1_ := Aside0.mk (blk_below (g := gb308) (o := .cells #[.int .i32 a0_0, .int .u8 a0_1] 35 (0, 0)) (by (with_reducible repeat (first | refine blk_drewN ?_ _ | refine blk_drew ?_ | refine blk_alloc ?_ _)); exact BK308.out) hb); have n2_ := Aside0.mk (below_step (by repeat (first | (with_reducible first | exact HB.out | apply below_alloc | apply pw_below_drewN | apply below_drew1 | refine below_set ?_ GE308.out) | exact HB.out)) hb); clear BK308; clear HB; have HO325 := n0_; have BK308 := n1_; have HB := n2_; clear n0_ n1_ n2_; (try clear hb); (try clear hb2); (try clear hk); (try clear hi); (try clear ho0)))
           go_ret
           exact ⟨_, by first | rfl | (simp [errW_none, errW_some] <;> rfl) | (simp [*, errW_none, errW_some] <;> rfl), by (with_reducible repeat (first | apply Kd.V_alloc | apply Kd.V_drewN | apply Kd.V_drew)); exact Kd.V_mono HO325.out (fun _ hk => hk.1), by repeat (first | (with_reducible first | exact HB.out | apply below_alloc | apply pw_below_drewN | apply below_drew1 | refine below_set ?_ GE308.out) | exact HB.out)⟩
          ·rw [if_neg c33] at H
           exact absurd H (by simp)
       ·rw [if_neg c20] at H
        have c20b0 : decide (0 < t313) = false := decide_eq_false c20
        clear c20
        by_cases c37 : (t314 ++ t315).size + (strOfNums t310).size ≤ 9223372036854775807
        ·rw [if_pos c37] at H
         have c37b0 := eq_true c37
         have c37b1 : decide ((t314 ++ t315).size + (strOfNums t310).size ≤ 9223372036854775807) = true := decide_eq_true c37
         try have c37b2 : (9223372036854775807 < (t314 ++ t315).size + (strOfNums t310).size) = False := eq_false (Nat.not_lt.2 c37)
         (try (have c37n := c37; simp only [ByteArray.size_append'] at c37n; have c37b3 := eq_false (Nat.not_lt.2 c37n); have c37b4 := eq_true c37n; clear c37n))
         replace H := Option.bind_eq_some_iff.mp H
         obtain ⟨t326, A380, H⟩ := H
         replace H : (some t326) = some r := H
         have A38 := Aside0.mk A380
         clear A380
         obtain rfl := Option.some.inj H
         go_wp2_with (first | ((with_reducible refine gate_callee (f := 66) rfl ?_); refine goesL_ (some 32) rfl rfl Tryd.func66 (by kernel_rfl) rfl #[.string (⟨#[95]⟩ : ByteArray), .int .i64 t313] rfl (by (try simp only [List.map_toArray, List.map_cons, List.map_nil]); first | done | rfl | (simp only [List.length_drop, List.length_take]; rfl)) ?_; (with_reducible refine (flongref18_times.calls kj8 (⟨#[95]⟩ : ByteArray) t313 t314 _ A17.out).mono ?_); rintro e w' ⟨rfl, ⟨nd, rfl⟩⟩; refine ⟨_, rfl, ?_⟩) | ((with_reducible refine gate_callee (f := 66) rfl ?_); refine goesL_ (some 34) rfl rfl Tryd.func66 (by kernel_rfl) rfl #[.string (⟨#[8]⟩ : ByteArray), .int .i64 t313] rfl (by (try simp only [List.map_toArray, List.map_cons, List.map_nil]); first | done | rfl | (simp only [List.length_drop, List.length_take]; rfl)) ?_; (with_reducible refine (flongref18_times.calls kj8 (⟨#[8]⟩ : ByteArray) t313 t315 _ A18.out).mono ?_); rintro e w' ⟨rfl, ⟨nd, rfl⟩⟩; refine ⟨_, rfl, ?_⟩) | ((with_reducible refine gate_convert (src := 9) (dst := 25) rfl ?_); refine convL_ _ rfl rfl ((t314 ++ t315) ++ (strOfNums t310)) rfl rfl ?_; (with_reducible refine (conv_bytes.calls ((t314 ++ t315) ++ (strOfNums t310)) t326 _ A38.out).mono ?_); rintro e w39 ⟨v327, rfl, ho0, hb⟩; refine ⟨_, rfl, ?_⟩; have n0_ := Aside0.mk (Kd.V_lower (Kd.V_mono (ok' := fun k_ => (w.heap.size ≤ k_) ∧ k_ ≠ gb308) ho0 (fun k_ hk_ => ⟨(Nat.le_trans (below_size (by repeat (first | (with_reducible first | exact HB.out | apply below_alloc | apply pw_below_drewN | apply below_drew1 | refine below_set ?_ GE308.out) | exact HB.out))) hk_), (Kd.freshB (g := gb308) (o := .cells #[.int .i32 a0_0, .int .u8 a0_1] 35 (0, 0)) (by (with_reducible repeat (first | refine blk_drewN ?_ _ | refine blk_drew ?_ | refine blk_alloc ?_ _)); exact BK308.out) k_ hk_)⟩)) (below_size (by repeat (first | (with_reducible first | exact HB.out | apply below_alloc | apply pw_below_drewN | apply below_drew1 | refine below_set ?_ GE308.out) | exact HB.out)))); have n1_ := Aside0.mk (blk_below (g := gb308) (o := .cells #[.int .i32 a0_0, .int .u8 a0_1] 35 (0, 0)) (by (with_reducible repeat (first | refine blk_drewN ?_ _ | refine blk_drew ?_ | refine blk_alloc ?_ _)); exact BK308.out) hb); have n2_ := Aside0.mk (below_step (by repeat (first | (with_reducible first | exact HB.out | apply below_alloc | apply pw_below_drewN | apply below_drew1 | refine below_set ?_ GE308.out) | exact HB.out)) hb); clear BK308; clear HB; have HO328 := n0_; have BK308 := n1_; have HB := n2_; clear n0_ n1_ n2_; (try clear hb); (try clear hb2); (try clear hk); (try clear hi); (try clear ho0)))
         go_ret
         exact ⟨_, by first | rfl | (simp [errW_none, errW_some] <;> rfl) | (simp [*, errW_none, errW_some] <;> rfl), by (with_reducible repeat (first | apply Kd.V_alloc | apply Kd.V_drewN | apply Kd.V_drew)); exact Kd.V_mono HO328.out (fun _ hk => hk.1), by repeat (first | (with_reducible first | exact HB.out | apply below_alloc | apply pw_below_drewN | apply below_drew1 | refine below_set ?_ GE308.out) | exact HB.out)⟩
        ·rw [if_neg c37] at H
         exact absurd H (by simp)
      ·rw [if_neg c19] at H
       exact absurd H (by simp)
     ·replace c16 := Bool.eq_false_iff.mpr c16
      subst c16
      have H1 : (if t313 > 0 then (if x3_2 = 32 then (if (⟨#[]⟩ : ByteArray).size + (strOfNums t310).size ≤ 9223372036854775807 then ((conv_bytes.f ((⟨#[]⟩ : ByteArray) ++ (strOfNums t310))).bind fun t329 => (some t329)) else (none)) else (if (Int.tmod a0_1 2) = 1 then (if (⟨#[]⟩ : ByteArray).size + (strOfNums t310).size ≤ 9223372036854775807 then ((flongref18_times.f kj8 (⟨#[8]⟩ : ByteArray) t313).bind fun t332 => (if ((⟨#[]⟩ : ByteArray) ++ (strOfNums t310)).size + t332.size ≤ 9223372036854775807 then (if (((⟨#[]⟩ : ByteArray) ++ (strOfNums t310)) ++ t332).size + (strOfNums t310).size ≤ 9223372036854775807 then ((conv_bytes.f ((((⟨#[]⟩ : ByteArray) ++ (strOfNums t310)) ++ t332) ++ (strOfNums t310))).bind fun t333 => (some t333)) else (none)) else (none))) else (none)) else (if (⟨#[]⟩ : ByteArray).size + (strOfNums t310).size ≤ 9223372036854775807 then ((conv_bytes.f ((⟨#[]⟩ : ByteArray) ++ (strOfNums t310))).bind fun t336 => (some t336)) else (none)))) else (if (⟨#[]⟩ : ByteArray).size + (strOfNums t310).size ≤ 9223372036854775807 then ((conv_bytes.f ((⟨#[]⟩ : ByteArray) ++ (strOfNums t310))).bind fun t339 => (some t339)) else (none))) = some r := by rw [if_neg (show ¬ (false = true) by decide)] at H; exact H
      clear H
      have H := H1
      clear H1
      by_cases c40 : t313 > 0
      ·rw [if_pos c40] at H
       have c40b0 : decide (0 < t313) = true := decide_eq_true c40
       clear c40
       by_cases c41 : x3_2 = 32
       ·rw [if_pos c41] at H
        have c41b0 : (x3_2 == 32) = true := beq_iff_eq.mpr c41
        have c41b1 : (x3_2 != 32) = false := bne_eq_false_iff_eq.mpr c41
        clear c41
        by_cases c42 : (⟨#[]⟩ : ByteArray).size + (strOfNums t310).size ≤ 9223372036854775807
        ·rw [if_pos c42] at H
         have c42b0 := eq_true c42
         have c42b1 : decide ((⟨#[]⟩ : ByteArray).size + (strOfNums t310).size ≤ 9223372036854775807) = true := decide_eq_true c42
         try have c42b2 : (9223372036854775807 < (⟨#[]⟩ : ByteArray).size + (strOfNums t310).size) = False := eq_false (Nat.not_lt.2 c42)
         (try (have c42m := c42; simp only [ByteArray.size_append', show (⟨#[]⟩ : ByteArray).size = 0 from rfl, Nat.zero_add] at c42m; have c42b5 := eq_false (Nat.not_lt.2 c42m); have c42b6 := eq_true c42m; clear c42m))
         replace H := Option.bind_eq_some_iff.mp H
         obtain ⟨t329, A430, H⟩ := H
         replace H : (some t329) = some r := H
         have A43 := Aside0.mk A430
         clear A430
         obtain rfl := Option.some.inj H
         go_wp2_with (first | ((with_reducible refine gate_convert (src := 9) (dst := 25) rfl ?_); refine convL_ _ rfl rfl ((⟨#[]⟩ : ByteArray) ++ (strOfNums t310)) rfl rfl ?_; (with_reducible refine (conv_bytes.calls ((⟨#[]⟩ : ByteArray) ++ (strOfNums t310)) t329 _ A43.out).mono ?_); rintro e w44 ⟨v330, rfl, ho0, hb⟩; refine ⟨_, rfl, ?_⟩; have n0_ := Aside0.mk (Kd.V_lower (Kd.V_mono (ok' := fun k_ => (w.heap.size ≤ k_) ∧ k_ ≠ gb308) ho0 (fun k_ hk_ => ⟨(Nat.le_trans (below_size (by repeat (first | (with_reducible first | exact HB.out | apply below_alloc | apply pw_below_drewN | apply below_drew1 | refine below_set ?_ GE308.out) | exact HB.out))) hk_), (Kd.freshB (g := gb308) (o := .cells #[.int .i32 a0_0, .int .u8 a0_1] 35 (0, 0)) (by (with_reducible repeat (first | refine blk_drewN ?_ _ | refine blk_drew ?_ | refine blk_alloc ?_ _)); exact BK308.out) k_ hk_)⟩)) (below_size (by repeat (first | (with_reducible first | exact HB.out | apply below_alloc | apply pw_below_drewN | apply below_drew1 | refine below_set ?_ GE308.out) | exact HB.out)))); have n1_ := Aside0.mk (blk_below (g := gb308) (o := .cells #[.int .i32 a0_0, .int .u8 a0_1] 35 (0, 0)) (by (with_reducible repeat (first | refine blk_drewN ?_ _ | refine blk_drew ?_ | refine blk_alloc ?_ _)); exact BK308.out) hb); have n2_ := Aside0.mk (below_step (by repeat (first | (with_reducible first | exact HB.out | apply below_alloc | apply pw_below_drewN | apply below_drew1 | refine below_set ?_ GE308.out) | exact HB.out)) hb); clear BK308; clear HB; have HO331 := n0_; have BK308 := n1_; have HB := n2_; clear n0_ n1_ n2_; (try clear hb); (try clear hb2); (try clear hk); (try clear hi); (try clear ho0)))
         go_ret
         exact ⟨_, by first | rfl | (simp [errW_none, errW_some] <;> rfl) | (simp [*, errW_none, errW_some] <;> rfl), by (with_reducible repeat (first | apply Kd.V_alloc | apply Kd.V_drewN | apply Kd.V_drew)); exact Kd.V_mono HO331.out (fun _ hk => hk.1), by repeat (first | (with_reducible first | exact HB.out | apply below_alloc | apply pw_below_drewN | apply below_drew1 | refine below_set ?_ GE308.out) | exact HB.out)⟩
        ·rw [if_neg c42] at H
         exact absurd H (by simp)
       ·rw [if_neg c41] at H
        have c41b0 : (x3_2 == 32) = false := beq_eq_false_iff_ne.mpr c41
        have c41b1 : (x3_2 != 32) = true := bne_iff_ne.mpr c41
        by_cases c45 : (Int.tmod a0_1 2) = 1
        ·rw [if_pos c45] at H
         have c45b0 : ((Int.tmod a0_1 2) == 1) = true := beq_iff_eq.mpr c45
         have c45b1 : ((Int.tmod a0_1 2) != 1) = false := bne_eq_false_iff_eq.mpr c45
         clear c45
         by_cases c46 : (⟨#[]⟩ : ByteArray).size + (strOfNums t310).size ≤ 9223372036854775807
         ·rw [if_pos c46] at H
          have c46b0 := eq_true c46
          have c46b1 : decide ((⟨#[]⟩ : ByteArray).size + (strOfNums t310).size ≤ 9223372036854775807) = true := decide_eq_true c46
          try have c46b2 : (9223372036854775807 < (⟨#[]⟩ : ByteArray).size + (strOfNums t310).size) = False := eq_false (Nat.not_lt.2 c46)
          (try (have c46m := c46; simp only [ByteArray.size_append', show (⟨#[]⟩ : ByteArray).size = 0 from rfl, Nat.zero_add] at c46m; have c46b5 := eq_false (Nat.not_lt.2 c46m); have c46b6 := eq_true c46m; clear c46m))
          replace H := Option.bind_eq_some_iff.mp H
          obtain ⟨t332, A470, H⟩ := H
          replace H : (if ((⟨#[]⟩ : ByteArray) ++ (strOfNums t310)).size + t332.size ≤ 9223372036854775807 then (if (((⟨#[]⟩ : ByteArray) ++ (strOfNums t310)) ++ t332).size + (strOfNums t310).size ≤ 9223372036854775807 then ((conv_bytes.f ((((⟨#[]⟩ : ByteArray) ++ (strOfNums t310)) ++ t332) ++ (strOfNums t310))).bind fun t333 => (some t333)) else (none)) else (none)) = some r := H
          have A47 := Aside0.mk A470
          clear A470
          by_cases c48 : ((⟨#[]⟩ : ByteArray) ++ (strOfNums t310)).size + t332.size ≤ 9223372036854775807
          ·rw [if_pos c48] at H
           have c48b0 := eq_true c48
           have c48b1 : decide (((⟨#[]⟩ : ByteArray) ++ (strOfNums t310)).size + t332.size ≤ 9223372036854775807) = true := decide_eq_true c48
           try have c48b2 : (9223372036854775807 < ((⟨#[]⟩ : ByteArray) ++ (strOfNums t310)).size + t332.size) = False := eq_false (Nat.not_lt.2 c48)
           (try (have c48n := c48; simp only [ByteArray.size_append'] at c48n; have c48b3 := eq_false (Nat.not_lt.2 c48n); have c48b4 := eq_true c48n; clear c48n))
           (try (have c48m := c48; simp only [ByteArray.size_append', show (⟨#[]⟩ : ByteArray).size = 0 from rfl, Nat.zero_add] at c48m; have c48b5 := eq_false (Nat.not_lt.2 c48m); have c48b6 := eq_true c48m; clear c48m))
           by_cases c49 : (((⟨#[]⟩ : ByteArray) ++ (strOfNums t310)) ++ t332).size + (strOfNums t310).size ≤ 9223372036854775807
           ·rw [if_pos c49] at H
            have c49b0 := eq_true c49
            have c49b1 : decide ((((⟨#[]⟩ : ByteArray) ++ (strOfNums t310)) ++ t332).size + (strOfNums t310).size ≤ 9223372036854775807) = true := decide_eq_true c49
            try have c49b2 : (9223372036854775807 < (((⟨#[]⟩ : ByteArray) ++ (strOfNums t310)) ++ t332).size + (strOfNums t310).size) = False := eq_false (Nat.not_lt.2 c49)
            (try (have c49n := c49; simp only [ByteArray.size_append'] at c49n; have c49b3 := eq_false (Nat.not_lt.2 c49n); have c49b4 := eq_true c49n; clear c49n))
            (try (have c49m := c49; simp only [ByteArray.size_append', show (⟨#[]⟩ : ByteArray).size = 0 from rfl, Nat.zero_add] at c49m; have c49b5 := eq_false (Nat.not_lt.2 c49m); have c49b6 := eq_true c49m; clear c49m))
            replace H := Option.bind_eq_some_iff.mp H
            obtain ⟨t333, A500, H⟩ := H
            replace H : (some t333) = some r := H
            have A50 := Aside0.mk A500
            clear A500
            obtain rfl := Option.some.inj H
            have hcz51_0 : wc.cell? ⟨gb308, 0, none⟩ = some (.int .i32 a0_0) := (blk_cell BK308.out 0).trans rfl
            have hcz51_1 : wc.cell? ⟨gb308, 1, none⟩ = some (.int .u8 a0_1) := (blk_cell BK308.out 1).trans rfl
            have hfz51_0 := blk_frozen BK308.out 0
            have hfz51_1 := blk_frozen BK308.out 1
            go_wp2_with (first | ((with_reducible refine gate_callee (f := 66) rfl ?_); refine goesL_ (some 52) rfl rfl Tryd.func66 (by kernel_rfl) rfl #[.string (⟨#[8]⟩ : ByteArray), .int .i64 t313] rfl (by (try simp only [List.map_toArray, List.map_cons, List.map_nil]); first | done | rfl | (simp only [List.length_drop, List.length_take]; rfl)) ?_; (with_reducible refine (flongref18_times.calls kj8 (⟨#[8]⟩ : ByteArray) t313 t332 _ A47.out).mono ?_); rintro e w' ⟨rfl, ⟨nd, rfl⟩⟩; refine ⟨_, rfl, ?_⟩) | ((with_reducible refine gate_convert (src := 9) (dst := 25) rfl ?_); refine convL_ _ rfl rfl ((((⟨#[]⟩ : ByteArray) ++ (strOfNums t310)) ++ t332) ++ (strOfNums t310)) rfl rfl ?_; (with_reducible refine (conv_bytes.calls ((((⟨#[]⟩ : ByteArray) ++ (strOfNums t310)) ++ t332) ++ (strOfNums t310)) t333 _ A50.out).mono ?_); rintro e w52 ⟨v334, rfl, ho0, hb⟩; refine ⟨_, rfl, ?_⟩; have n0_ := Aside0.mk (Kd.V_lower (Kd.V_mono (ok' := fun k_ => (w.heap.size ≤ k_) ∧ k_ ≠ gb308) ho0 (fun k_ hk_ => ⟨(Nat.le_trans (below_size (by repeat (first | (with_reducible first | exact HB.out | apply below_alloc | apply pw_below_drewN | apply below_drew1 | refine below_set ?_ GE308.out) | exact HB.out))) hk_), (Kd.freshB (g := gb308) (o := .cells #[.int .i32 a0_0, .int .u8 a0_1] 35 (0, 0)) (by (with_reducible repeat (first | refine blk_drewN ?_ _ | refine blk_drew ?_ | refine blk_alloc ?_ _)); exact BK308.out) k_ hk_)⟩)) (below_size (by repeat (first | (with_reducible first | exact HB.out | apply below_alloc | apply pw_below_drewN | apply below_drew1 | refine below_set ?_ GE308.out) | exact HB.out)))); have n1_ := Aside0.mk (blk_below (g := gb308) (o := .cells #[.int .i32 a0_0, .int .u8 a0_1] 35 (0, 0)) (by (with_reducible repeat (first | refine blk_drewN ?_ _ | refine blk_drew ?_ | refine blk_alloc ?_ _)); exact BK308.out) hb); have n2_ := Aside0.mk (below_step (by repeat (first | (with_reducible first | exact HB.out | apply below_alloc | apply pw_below_drewN | apply below_drew1 | refine below_set ?_ GE308.out) | exact HB.out)) hb); clear BK308; clear HB; have HO335 := n0_; have BK308 := n1_; have HB := n2_; clear n0_ n1_ n2_; (try clear hb); (try clear hb2); (try clear hk); (try clear hi); (try clear ho0)))
            go_ret
            exact ⟨_, by first | rfl | (simp [errW_none, errW_some] <;> rfl) | (simp [*, errW_none, errW_some] <;> rfl), by (with_reducible repeat (first | apply Kd.V_alloc | apply Kd.V_drewN | apply Kd.V_drew)); exact Kd.V_mono HO335.out (fun _ hk => hk.1), by repeat (first | (with_reducible first | exact HB.out | apply below_alloc | apply pw_below_drewN | apply below_drew1 | refine below_set ?_ GE308.out) | exact HB.out)⟩
           ·rw [if_neg c49] at H
            exact absurd H (by simp)
          ·rw [if_neg c48] at H
           exact absurd H (by simp)
         ·rw [if_neg c46] at H
          exact absurd H (by simp)
        ·rw [if_neg c45] at H
         have c45b0 : ((Int.tmod a0_1 2) == 1) = false := beq_eq_false_iff_ne.mpr c45
         have c45b1 : ((Int.tmod a0_1 2) != 1) = true := bne_iff_ne.mpr c45
         by_cases c53 : (⟨#[]⟩ : ByteArray).size + (strOfNums t310).size ≤ 9223372036854775807
         ·rw [if_pos c53] at H
          have c53b0 := eq_true c53
          have c53b1 : decide ((⟨#[]⟩ : ByteArray).size + (strOfNums t310).size ≤ 9223372036854775807) = true := decide_eq_true c53
          try have c53b2 : (9223372036854775807 < (⟨#[]⟩ : ByteArray).size + (strOfNums t310).size) = False := eq_false (Nat.not_lt.2 c53)
          (try (have c53m := c53; simp only [ByteArray.size_append', show (⟨#[]⟩ : ByteArray).size = 0 from rfl, Nat.zero_add] at c53m; have c53b5 := eq_false (Nat.not_lt.2 c53m); have c53b6 := eq_true c53m; clear c53m))
          replace H := Option.bind_eq_some_iff.mp H
          obtain ⟨t336, A540, H⟩ := H
          replace H : (some t336) = some r := H
          have A54 := Aside0.mk A540
          clear A540
          obtain rfl := Option.some.inj H
          have hcz55_0 : wc.cell? ⟨gb308, 0, none⟩ = some (.int .i32 a0_0) := (blk_cell BK308.out 0).trans rfl
          have hcz55_1 : wc.cell? ⟨gb308, 1, none⟩ = some (.int .u8 a0_1) := (blk_cell BK308.out 1).trans rfl
          have hfz55_0 := blk_frozen BK308.out 0
          have hfz55_1 := blk_frozen BK308.out 1
          go_wp2_with (first | ((with_reducible refine gate_convert (src := 9) (dst := 25) rfl ?_); refine convL_ _ rfl rfl ((⟨#[]⟩ : ByteArray) ++ (strOfNums t310)) rfl rfl ?_; (with_reducible refine (conv_bytes.calls ((⟨#[]⟩ : ByteArray) ++ (strOfNums t310)) t336 _ A54.out).mono ?_); rintro e w56 ⟨v337, rfl, ho0, hb⟩; refine ⟨_, rfl, ?_⟩; have n0_ := Aside0.mk (Kd.V_lower (Kd.V_mono (ok' := fun k_ => (w.heap.size ≤ k_) ∧ k_ ≠ gb308) ho0 (fun k_ hk_ => ⟨(Nat.le_trans (below_size (by repeat (first | (with_reducible first | exact HB.out | apply below_alloc | apply pw_below_drewN | apply below_drew1 | refine below_set ?_ GE308.out) | exact HB.out))) hk_), (Kd.freshB (g := gb308) (o := .cells #[.int .i32 a0_0, .int .u8 a0_1] 35 (0, 0)) (by (with_reducible repeat (first | refine blk_drewN ?_ _ | refine blk_drew ?_ | refine blk_alloc ?_ _)); exact BK308.out) k_ hk_)⟩)) (below_size (by repeat (first | (with_reducible first | exact HB.out | apply below_alloc | apply pw_below_drewN | apply below_drew1 | refine below_set ?_ GE308.out) | exact HB.out)))); have n1_ := Aside0.mk (blk_below (g := gb308) (o := .cells #[.int .i32 a0_0, .int .u8 a0_1] 35 (0, 0)) (by (with_reducible repeat (first | refine blk_drewN ?_ _ | refine blk_drew ?_ | refine blk_alloc ?_ _)); exact BK308.out) hb); have n2_ := Aside0.mk (below_step (by repeat (first | (with_reducible first | exact HB.out | apply below_alloc | apply pw_below_drewN | apply below_drew1 | refine below_set ?_ GE308.out) | exact HB.out)) hb); clear BK308; clear HB; have HO338 := n0_; have BK308 := n1_; have HB := n2_; clear n0_ n1_ n2_; (try clear hb); (try clear hb2); (try clear hk); (try clear hi); (try clear ho0)))
          go_ret
          exact ⟨_, by first | rfl | (simp [errW_none, errW_some] <;> rfl) | (simp [*, errW_none, errW_some] <;> rfl), by (with_reducible repeat (first | apply Kd.V_alloc | apply Kd.V_drewN | apply Kd.V_drew)); exact Kd.V_mono HO338.out (fun _ hk => hk.1), by repeat (first | (with_reducible first | exact HB.out | apply below_alloc | apply pw_below_drewN | apply below_drew1 | refine below_set ?_ GE308.out) | exact HB.out)⟩
         ·rw [if_neg c53] at H
          exact absurd H (by simp)
      ·rw [if_neg c40] at H
       have c40b0 : decide (0 < t313) = false := decide_eq_false c40
       clear c40
       by_cases c57 : (⟨#[]⟩ : ByteArray).size + (strOfNums t310).size ≤ 9223372036854775807
       ·rw [if_pos c57] at H
        have c57b0 := eq_true c57
        have c57b1 : decide ((⟨#[]⟩ : ByteArray).size + (strOfNums t310).size ≤ 9223372036854775807) = true := decide_eq_true c57
        try have c57b2 : (9223372036854775807 < (⟨#[]⟩ : ByteArray).size + (strOfNums t310).size) = False := eq_false (Nat.not_lt.2 c57)
        (try (have c57m := c57; simp only [ByteArray.size_append', show (⟨#[]⟩ : ByteArray).size = 0 from rfl, Nat.zero_add] at c57m; have c57b5 := eq_false (Nat.not_lt.2 c57m); have c57b6 := eq_true c57m; clear c57m))
        replace H := Option.bind_eq_some_iff.mp H
        obtain ⟨t339, A580, H⟩ := H
        replace H : (some t339) = some r := H
        have A58 := Aside0.mk A580
        clear A580
        obtain rfl := Option.some.inj H
        go_wp2_with (first | ((with_reducible refine gate_convert (src := 9) (dst := 25) rfl ?_); refine convL_ _ rfl rfl ((⟨#[]⟩ : ByteArray) ++ (strOfNums t310)) rfl rfl ?_; (with_reducible refine (conv_bytes.calls ((⟨#[]⟩ : ByteArray) ++ (strOfNums t310)) t339 _ A58.out).mono ?_); rintro e w59 ⟨v340, rfl, ho0, hb⟩; refine ⟨_, rfl, ?_⟩; have n0_ := Aside0.mk (Kd.V_lower (Kd.V_mono (ok' := fun k_ => (w.heap.size ≤ k_) ∧ k_ ≠ gb308) ho0 (fun k_ hk_ => ⟨(Nat.le_trans (below_size (by repeat (first | (with_reducible first | exact HB.out | apply below_alloc | apply pw_below_drewN | apply below_drew1 | refine below_set ?_ GE308.out) | exact HB.out))) hk_), (Kd.freshB (g := gb308) (o := .cells #[.int .i32 a0_0, .int .u8 a0_1] 35 (0, 0)) (by (with_reducible repeat (first | refine blk_drewN ?_ _ | refine blk_drew ?_ | refine blk_alloc ?_ _)); exact BK308.out) k_ hk_)⟩)) (below_size (by repeat (first | (with_reducible first | exact HB.out | apply below_alloc | apply pw_below_drewN | apply below_drew1 | refine below_set ?_ GE308.out) | exact HB.out)))); have n1_ := Aside0.mk (blk_below (g := gb308) (o := .cells #[.int .i32 a0_0, .int .u8 a0_1] 35 (0, 0)) (by (with_reducible repeat (first | refine blk_drewN ?_ _ | refine blk_drew ?_ | refine blk_alloc ?_ _)); exact BK308.out) hb); have n2_ := Aside0.mk (below_step (by repeat (first | (with_reducible first | exact HB.out | apply below_alloc | apply pw_below_drewN | apply below_drew1 | refine below_set ?_ GE308.out) | exact HB.out)) hb); clear BK308; clear HB; have HO341 := n0_; have BK308 := n1_; have HB := n2_; clear n0_ n1_ n2_; (try clear hb); (try clear hb2); (try clear hk); (try clear hi); (try clear ho0)))
        go_ret
        exact ⟨_, by first | rfl | (simp [errW_none, errW_some] <;> rfl) | (simp [*, errW_none, errW_some] <;> rfl), by (with_reducible repeat (first | apply Kd.V_alloc | apply Kd.V_drewN | apply Kd.V_drew)); exact Kd.V_mono HO341.out (fun _ hk => hk.1), by repeat (first | (with_reducible first | exact HB.out | apply below_alloc | apply pw_below_drewN | apply below_drew1 | refine below_set ?_ GE308.out) | exact HB.out)⟩
       ·rw [if_neg c57] at H
        exact absurd H (by simp)

/-! ### flongref18_Row: function 17 -/
def flongref18_Row.l0 : Nat → List (S35) → List Int → Int → Option (List Int)
 | 0, _, _, _ => none
 | k + 1, x3, x4, x5 => if x5 < (x3.length : Int) then (if 0 ≤ x5 then ((flongref18_One.f k ((rd_T35 x3 x5).f0) ((rd_T35 x3 x5).f1)).bind fun t346 => (if x4.length + t346.length < 140737488355328 then (flongref18_Row.l0 k x3 (x4 ++ t346) (wrap64 (x5 + 1))) else (none))) else (none)) else (some x4)
def flongref18_Row.f (k : Nat) (l0 : List (S35)) : Option (List Int) := (flongref17_Normal.f k l0).bind fun t342 => (flongref18_Row.l0 k t342 ([] : List Int) 0)
theorem flongref18_Row.mono_l : ∀ k, (∀ y0 y1 y2, LeO (flongref18_Row.l0 k y0 y1 y2) (flongref18_Row.l0 (k + 1) y0 y1 y2))
 | 0 => fun _ _ _ r h => by simp [flongref18_Row.l0] at h
 | k + 1 => by
  have ih0 := flongref18_Row.mono_l k
  ·intro y0 y1 y2
   unfold flongref18_Row.l0
   repeat' first
   | (with_reducible exact ih0 _ _ _)
   | (with_reducible exact flongref17_Normal.mono _ _)
   | (with_reducible exact flongref18_One.mono _ _ _)
   | (with_reducible exact LeO.refl _)
   | (with_reducible exact LeO.none _)
   | (with_reducible refine LeO.ite ?_ ?_)
   | (with_reducible refine LeO.bind ?_ (fun _ => ?_))
theorem flongref18_Row.mono : ∀ a0 k, LeO (flongref18_Row.f k a0) (flongref18_Row.f (k + 1) a0) := by
 intro a0 k
 have ih0 := flongref18_Row.mono_l k
 unfold flongref18_Row.f
 repeat' first
   | (with_reducible exact ih0 _ _ _)
   | (with_reducible exact flongref17_Normal.mono _ _)
   | (with_reducible exact flongref18_One.mono _ _ _)
   | (with_reducible exact LeO.refl _)
   | (with_reducible exact LeO.none _)
   | (with_reducible refine LeO.ite ?_ ?_)
   | (with_reducible refine LeO.bind ?_ (fun _ => ?_))
theorem flongref18_Row.calls (k : Nat) (A0 : Option Addr) (c0 : Nat) (l0 : List (S35)) (r : List Int) (w : World) (hr0 : Kd.C k35 w A0 l0.length l0) (hc0 : l0.length ≤ c0) (h : flongref18_Row.f k l0 = some r) :
  Calls Tryd.prog 17 #[.slice A0 l0.length c0] w fun e w' => ∃ v0_ : Value, e = .returned (v0_) ∧ Kd.R (Kd.int .u8) 5 w' w.heap.size (fun _ => True) v0_ r ∧ Below w.heap.size w w' := by
 have hu35 := Tryd.underlying35
 have HR0 := Aside0.mk hr0
 have HC0 := Aside0.mk hc0
 clear hr0 hc0
 have HB := Aside0.mk (Below.refl w.heap.size w)
 have H : ((flongref17_Normal.f k l0).bind fun t342 => (flongref18_Row.l0 k t342 ([] : List Int) 0)) = some r := h
 clear h
 replace H := Option.bind_eq_some_iff.mp H
 obtain ⟨t342, A20, H⟩ := H
 replace H : (flongref18_Row.l0 k t342 ([] : List Int) 0) = some r := H
 have A2 := Aside0.mk A20
 clear A20
 have H' := Aside0.mk H
 clear H
 go_enter Tryd.func17, Tryd.ntmps17
 go_wp2_with (first | ((with_reducible refine gate_callee (f := 14) rfl ?_); refine goesL_ (some 7) rfl rfl Tryd.func14 (by kernel_rfl) rfl #[.slice A0 l0.length c0] rfl (by (try simp only [List.map_toArray, List.map_cons, List.map_nil]); first | done | rfl | (simp only [List.length_drop, List.length_take]; rfl)) ?_; (with_reducible refine (flongref17_Normal.calls k _ _ l0 t342 _ ?side1 ?side2 A2.out).mono ?_); (case side1 => repeat (first | exact HR0.out | (with_reducible refine Kd.C_alloc ?_ _) | (with_reducible refine Kd.C_drewN ?_ _) | (with_reducible refine Kd.C_drew ?_))); (case side2 => exact HC0.out); rintro e w3 ⟨v343, rfl, ho0, hb⟩; refine ⟨_, rfl, ?_⟩; have n0_ := Aside0.mk (Kd.R_lower ho0 (below_size (by repeat (first | (with_reducible first | exact HB.out | apply below_alloc | apply pw_below_drewN | apply below_drew1) | exact HB.out)))); have n1_ := Aside0.mk (below_step (by repeat (first | (with_reducible first | exact HB.out | apply below_alloc | apply pw_below_drewN | apply below_drew1) | exact HB.out)) hb); clear HB; have HO344 := n0_; have HB := n1_; clear n0_ n1_; (try clear hb); (try clear hb2); (try clear hk); (try clear hi); (try clear ho0)))
 go_loopg [4, 5] k (fun kq v4 v5 w' => ∃ (x4_1 : List Int) (x5_1 : Int), v5 = .int .i64 x5_1 ∧ Aside0 (flongref18_Row.l0 kq t342 x4_1 x5_1 = some r) ∧ Aside0 (kq ≤ k) ∧ Aside0 (Kd.R k35 35 w' w.heap.size (fun _ => True) v343 t342) ∧ Aside0 (Kd.R (Kd.int .u8) 5 w' w.heap.size (fun _ => True) v4 x4_1) ∧ Aside0 (Below w.heap.size w w'))
 case atStart => exact ⟨(([] : List Int)), (0), (by first | rfl | (simp; done) | (simp [*]; done)), H', ⟨Nat.le_refl _⟩, ⟨by (with_reducible repeat (first | apply Kd.R_alloc | apply Kd.R_drewN | apply Kd.R_drew)); exact HO344.out⟩, ⟨by first | exact Kd.R_nil _ _ _ _ _ | exact Kd.N_nil _ _ _ _ _ | exact Kd.V_nil _ _ _ _ _ | exact Kd.Q_nil _ _ _ _ _ | exact Kd.S_nil _ _ _ _ _⟩, ⟨by repeat (first | (with_reducible first | exact HB.out | apply below_alloc | apply pw_below_drewN | apply below_drew1) | exact HB.out)⟩⟩
 case round =>
  clear H'
  try clear c1
  try clear p2
  obtain ⟨x4_1, x5_1, rfl, HA, HK1, HO_3, HO_4, HB⟩ := hrel
  cases gk with
  | zero => exact absurd HA.out (by simp [flongref18_Row.l0])
  | succ k1 =>
   have H := HA.out
   clear HA
   simp only [flongref18_Row.l0] at H
   by_cases c4 : x5_1 < (t342.length : Int)
   ·rw [if_pos c4] at H
    have c4b0 : decide (x5_1 < (t342.length : Int)) = true := decide_eq_true c4
    clear c4
    by_cases c5 : 0 ≤ x5_1
    ·rw [if_pos c5] at H
     have c5b0 : decide (0 ≤ x5_1) = true := decide_eq_true c5
     clear c5
     replace H := Option.bind_eq_some_iff.mp H
     obtain ⟨t346, A60, H⟩ := H
     replace H : (if x4_1.length + t346.length < 140737488355328 then (flongref18_Row.l0 k1 t342 (x4_1 ++ t346) (wrap64 (x5_1 + 1))) else (none)) = some r := H
     have A6 := Aside0.mk A60
     clear A60
     by_cases c7 : x4_1.length + t346.length < 140737488355328
     ·rw [if_pos c7] at H
      have LMc7 := Aside0.mk c7
      clear c7
      obtain ⟨y349, hy349⟩ : ∃ y_ : List Int, y_ = (x4_1 ++ t346) := ⟨_, rfl⟩
      replace H : (flongref18_Row.l0 k1 t342 y349 (wrap64 (x5_1 + 1))) = some r := by first | (rw [hy349]; with_reducible exact H) | (have H2_ := (Option.bind_some _ _).symm.trans H; rw [hy349]; with_reducible exact H2_) | (have H2_ := (Option.bind_some _ _).symm.trans H; with_reducible exact H2_) | with_reducible exact H | (rw [hy349]; exact H) | exact H
      have Ny349 := Aside0.mk hy349
      clear hy349
      have H' := Aside0.mk H
      clear H
      obtain ⟨Ao8, co8, eo8⟩ := Kd.R_slice HO_3.out
      subst eo8
      have p345 : 0 ≤ (x5_1 : Int) := of_decide_eq_true (by first | (with_reducible assumption) | assumption)
      have q345 : x5_1 < (t342.length : Int) := of_decide_eq_true (by first | (with_reducible assumption) | assumption)
      obtain ⟨ad345, e345, hx345_0, hx345_1⟩ := at_T35 (Kd.R_reads' HO_3.out).2.2 x5_1 p345 q345
      cases e345
      replace p345 := eq_true p345
      replace q345 := eq_true q345
      go_wp2_with (first | ((with_reducible refine gate_callee (f := 40) rfl ?_); refine goesL_ (some 19) rfl rfl Tryd.func40 (by kernel_rfl) rfl #[.agg #[.int .i32 ((rd_T35 t342 x5_1).f0), .int .u8 ((rd_T35 t342 x5_1).f1)]] rfl (by (try simp only [List.map_toArray, List.map_cons, List.map_nil]); first | done | rfl | (simp only [List.length_drop, List.length_take]; rfl)) ?_; (with_reducible refine (flongref18_One.calls k1 ((rd_T35 t342 x5_1).f0) ((rd_T35 t342 x5_1).f1) t346 _ A6.out).mono ?_); rintro e w9 ⟨v347, rfl, ho0, hb⟩; refine ⟨_, rfl, ?_⟩; have n0_ := Aside0.mk (Kd.R_below (by (with_reducible repeat (first | apply Kd.R_alloc | apply Kd.R_drewN | apply Kd.R_drew)); exact HO_3.out) hb); have n1_ := Aside0.mk (Kd.R_below (by (with_reducible repeat (first | apply Kd.R_alloc | apply Kd.R_drewN | apply Kd.R_drew)); exact HO_4.out) hb); have n2_ := Aside0.mk (Kd.V_lower (Kd.V_mono (ok' := fun k_ => some k_ ≠ (.slice (some ad345) t342.length co8 : Value).ownBlock ∧ some k_ ≠ (u4 : Value).ownBlock) ho0 (fun k_ hk_ => ⟨(Kd.fresh' (Kd.R_lt (by (with_reducible repeat (first | apply Kd.R_alloc | apply Kd.R_drewN | apply Kd.R_drew)); exact HO_3.out)) k_ hk_), (Kd.fresh' (Kd.R_lt (by (with_reducible repeat (first | apply Kd.R_alloc | apply Kd.R_drewN | apply Kd.R_drew)); exact HO_4.out)) k_ hk_)⟩)) (below_size (by repeat (first | (with_reducible first | exact HB.out | apply below_alloc | apply pw_below_drewN | apply below_drew1) | exact HB.out)))); have n3_ := Aside0.mk (below_step (by repeat (first | (with_reducible first | exact HB.out | apply below_alloc | apply pw_below_drewN | apply below_drew1) | exact HB.out)) hb); clear HO_3; clear HO_4; clear HB; have HO_3 := n0_; have HO_4 := n1_; have HO348 := n2_; have HB := n3_; clear n0_ n1_ n2_ n3_; (try clear hb); (try clear hb2); (try clear hk); (try clear hi); (try clear ho0); obtain ⟨Ao11, co11, eo11⟩ := Kd.V_slice HO348.out; subst eo11) | ((with_reducible refine gate_builtin (b := .append) (xs := #[.tmp 14, .tmp 19]) rfl ?_); at_builtin; refine Kd.R_append_rows (Kd.int .u8) (w0 := w) w.heap.size rfl (.tmp 14) (.tmp 19) 25 5 (.int .u8 0) 1 rfl Tryd.underlying25 info5 rfl (by decide) (by omega) u4 x4_1 t346 _ _ _ (fun _ => True) (fun _ => False) rfl rfl ?aO ?aR (fun _ _ h => h) (fun _ h => h.elim) ?aF ?aB ?aS ?aL ?_; (case aR => repeat (first | exact (Kd.V_reads' HO348.out).2.2 | (with_reducible refine Kd.C_alloc ?_ _) | (with_reducible refine Kd.C_drewN ?_ _) | (with_reducible refine Kd.C_drew ?_))); (case aB => exact (by repeat (first | (with_reducible first | exact HB.out | apply below_alloc | apply pw_below_drewN | apply below_drew1) | exact HB.out))); (case aF => exact (fun _ _ => trivial)); (case aO => exact (by (with_reducible repeat (first | apply Kd.R_alloc | apply Kd.R_drewN | apply Kd.R_drew)); exact HO_4.out)); (case aS => exact (below_size (by repeat (first | (with_reducible first | exact HB.out | apply below_alloc | apply pw_below_drewN | apply below_drew1) | exact HB.out)))); (case aL => have := LMc7.out; omega); intro v350 w10 ho hb hg hat; rw [← Ny349.out] at ho; have n0_ := Aside0.mk (Kd.R_over' (by (with_reducible repeat (first | apply Kd.R_alloc | apply Kd.R_drewN | apply Kd.R_drew)); exact HO_3.out) (Kd.R_typed (by (with_reducible repeat (first | apply Kd.R_alloc | apply Kd.R_drewN | apply Kd.R_drew)); exact HO_4.out)) (by decide) hg); have n1_ := Aside0.mk (Kd.V_afterv (ok := (fun k_ => some k_ ≠ (.slice (some ad345) t342.length co8 : Value).ownBlock)) (by (with_reducible repeat (first | apply Kd.V_alloc | apply Kd.V_drewN | apply Kd.V_drew)); exact HO348.out) hg hat); have n2_ := Aside0.mk (hb); have n3_ := Aside0.mk (ho); clear HO_3; clear HO348; clear HB; clear HO_4; have HO_3 := n0_; have HO348 := n1_; have HB := n2_; have HO351 := n3_; clear n0_ n1_ n2_ n3_; clear ho hb hg hat))
      go_roundg k1
      case measure => have := HK1.out; omega
      case rel => exact ⟨(y349), (wrap64 (x5_1 + 1)), (by first | rfl | (simp; done) | (simp [*]; done)), H', ⟨by have := HK1.out; omega⟩, ⟨by (with_reducible repeat (first | apply Kd.R_alloc | apply Kd.R_drewN | apply Kd.R_drew)); exact HO_3.out⟩, ⟨by (with_reducible repeat (first | apply Kd.R_alloc | apply Kd.R_drewN | apply Kd.R_drew)); exact HO351.out⟩, ⟨by repeat (first | (with_reducible first | exact HB.out | apply below_alloc | apply pw_below_drewN | apply below_drew1) | exact HB.out)⟩⟩
     ·rw [if_neg c7] at H
      exact absurd H (by simp)
    ·rw [if_neg c5] at H
     exact absurd H (by simp)
   ·rw [if_neg c4] at H
    have c4b0 : decide (x5_1 < (t342.length : Int)) = false := decide_eq_false c4
    clear c4
    obtain rfl := Option.some.inj H
    obtain ⟨Ao12, co12, eo12⟩ := Kd.R_slice HO_3.out
    subst eo12
    go_wp2
    go_ret
    exact ⟨_, by first | rfl | (simp [errW_none, errW_some] <;> rfl) | (simp [*, errW_none, errW_some] <;> rfl), by (with_reducible repeat (first | apply Kd.R_alloc | apply Kd.R_drewN | apply Kd.R_drew)); exact HO_4.out, by repeat (first | (with_reducible first | exact HB.out | apply below_alloc | apply pw_below_drewN | apply below_drew1) | exact HB.out)⟩

end Go.Proofs.YtmeinakeiefcdaaDoor.X
