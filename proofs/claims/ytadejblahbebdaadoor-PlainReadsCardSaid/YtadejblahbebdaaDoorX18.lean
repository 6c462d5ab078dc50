-- Written by this session's xprint.py (a variant of the kit's printer). Not trusted: Lean checks it.
import Derived.Test.YtadejblahbebdaaDoorX0
import Derived.Test.YtadejblahbebdaaDoorX3
import Derived.Test.YtadejblahbebdaaDoorX4
import Derived.Test.YtadejblahbebdaaDoorX5
namespace Go.Proofs.YtadejblahbebdaaDoor.X
open Go.RowKit Go.Proofs.YtadejblahbebdaaDoorW.PrintWords Go.Proofs.YtadejblahbebdaaDoorW.PrintLast Go.Proofs.YtadejblahbebdaaDoorW.PrintMore
attribute [local go_sem] max2_int min2_int max_two min_two max_three min_three max_four min_four   -- for this text's walks alone
set_option linter.unusedVariables false
set_option maxHeartbeats 8000000
set_option maxRecDepth 100000
set_option linter.unusedSimpArgs false

/-! ### flongref02_Encode: function 54 -/
def flongref02_Encode.l0 : Nat → List Int → List Int → Int → Option (List Int)
 | 0, _, _, _ => none
 | k + 1, x0, x3, x4 => if x4 < (x0.length : Int) then (if 0 ≤ x4 then ((flongref02_One.f k (rd x0 x4)).bind fun t559 => (if x3.length + t559.length < 140737488355328 then (flongref02_Encode.l0 k x0 (x3 ++ t559) (wrap64 (x4 + 1))) else (none))) else (none)) else (some x3)
def flongref02_Encode.f (k : Nat) (l0 : List Int) : Option (List Int) := flongref02_Encode.l0 k l0 ([] : List Int) 0
theorem flongref02_Encode.mono_l : ∀ k, (∀ y0 y1 y2, LeO (flongref02_Encode.l0 k y0 y1 y2) (flongref02_Encode.l0 (k + 1) y0 y1 y2))
 | 0 => fun _ _ _ r h => by simp [flongref02_Encode.l0] at h
 | k + 1 => by
  have ih0 := flongref02_Encode.mono_l k
  ·intro y0 y1 y2
   unfold flongref02_Encode.l0
   repeat' first
   | (with_reducible exact ih0 _ _ _)
   | (with_reducible exact flongref02_One.mono _ _)
   | (with_reducible exact LeO.refl _)
   | (with_reducible exact LeO.none _)
   | (with_reducible refine LeO.ite ?_ ?_)
   | (with_reducible refine LeO.bind ?_ (fun _ => ?_))
theorem flongref02_Encode.mono : ∀ a0 k, LeO (flongref02_Encode.f k a0) (flongref02_Encode.f (k + 1) a0) := by
 intro a0 k
 have ih0 := flongref02_Encode.mono_l k
 unfold flongref02_Encode.f
 repeat' first
   | (with_reducible exact ih0 _ _ _)
   | (with_reducible exact flongref02_One.mono _ _)
   | (with_reducible exact LeO.refl _)
   | (with_reducible exact LeO.none _)
   | (with_reducible refine LeO.ite ?_ ?_)
   | (with_reducible refine LeO.bind ?_ (fun _ => ?_))
theorem flongref02_Encode.calls (k : Nat) (A0 : Option Addr) (c0 : Nat) (l0 : List Int) (r : List Int) (w : World) (hr0 : Kd.C (Kd.int .i32) w A0 l0.length l0) (hc0 : l0.length ≤ c0) (h : flongref02_Encode.f k l0 = some r) :
  Calls Tryd.prog 54 #[.slice A0 l0.length c0] w fun e w' => ∃ v0_ : Value, e = .returned (v0_) ∧ Kd.R (Kd.int .u8) 5 w' w.heap.size (fun _ => True) v0_ r ∧ Below w.heap.size w w' := by
 have HR0 := Aside0.mk hr0
 have HC0 := Aside0.mk hc0
 clear hr0 hc0
 have HB := Aside0.mk (Below.refl w.heap.size w)
 have H : (flongref02_Encode.l0 k l0 ([] : List Int) 0) = some r := h
 clear h
 have H' := Aside0.mk H
 clear H
 go_enter Tryd.func54, Tryd.ntmps54
 go_wp2
 go_loopg [3, 4] k (fun kq v3 v4 w' => ∃ (x3_1 : List Int) (x4_1 : Int), v4 = .int .i64 x4_1 ∧ Aside0 (flongref02_Encode.l0 kq l0 x3_1 x4_1 = some r) ∧ Aside0 (kq ≤ k) ∧ Aside0 (Kd.R (Kd.int .u8) 5 w' w.heap.size (fun _ => True) v3 x3_1) ∧ Aside0 (Below w.heap.size w w'))
 case atStart => exact ⟨(([] : List Int)), (0), (by first | rfl | (simp; done) | (simp [*]; done)), H', ⟨Nat.le_refl _⟩, ⟨by first | exact Kd.R_nil _ _ _ _ _ | exact Kd.N_nil _ _ _ _ _ | exact Kd.V_nil _ _ _ _ _ | exact Kd.Q_nil _ _ _ _ _ | exact Kd.S_nil _ _ _ _ _⟩, ⟨by repeat (first | (with_reducible first | exact HB.out | apply below_alloc | apply pw_below_drewN | apply below_drew1) | exact HB.out)⟩⟩
 case round =>
  clear H'
  obtain ⟨x3_1, x4_1, rfl, HA, HK1, HO_3, HB⟩ := hrel
  cases gk with
  | zero => exact absurd HA.out (by simp [flongref02_Encode.l0])
  | succ k1 =>
   have H := HA.out
   clear HA
   simp only [flongref02_Encode.l0] at H
   by_cases c2 : x4_1 < (l0.length : Int)
   ·rw [if_pos c2] at H
    have c2b0 : decide (x4_1 < (l0.length : Int)) = true := decide_eq_true c2
    clear c2
    by_cases c3 : 0 ≤ x4_1
    ·rw [if_pos c3] at H
     have c3b0 : decide (0 ≤ x4_1) = true := decide_eq_true c3
     clear c3
     replace H := Option.bind_eq_some_iff.mp H
     obtain ⟨t559, A40, H⟩ := H
     replace H : (if x3_1.length + t559.length < 140737488355328 then (flongref02_Encode.l0 k1 l0 (x3_1 ++ t559) (wrap64 (x4_1 + 1))) else (none)) = some r := H
     have A4 := Aside0.mk A40
     clear A40
     by_cases c5 : x3_1.length + t559.length < 140737488355328
     ·rw [if_pos c5] at H
      have LMc5 := Aside0.mk c5
      clear c5
      obtain ⟨y562, hy562⟩ : ∃ y_ : List Int, y_ = (x3_1 ++ t559) := ⟨_, rfl⟩
      replace H : (flongref02_Encode.l0 k1 l0 y562 (wrap64 (x4_1 + 1))) = some r := by first | (rw [hy562]; with_reducible exact H) | (have H2_ := (Option.bind_some _ _).symm.trans H; rw [hy562]; with_reducible exact H2_) | (have H2_ := (Option.bind_some _ _).symm.trans H; with_reducible exact H2_) | with_reducible exact H | (rw [hy562]; exact H) | exact H
      have Ny562 := Aside0.mk hy562
      clear hy562
      have H' := Aside0.mk H
      clear H
      have p558 : 0 ≤ (x4_1 : Int) := of_decide_eq_true (by first | (with_reducible assumption) | assumption)
      have q558 : x4_1 < (l0.length : Int) := of_decide_eq_true (by first | (with_reducible assumption) | assumption)
      obtain ⟨ad558, e558, hx558_0⟩ := Kd.at_int HR0.out x4_1 p558 q558
      cases e558
      replace hx558_0 := (HB.out.cell (World.block_lt_of_cell? w _ hx558_0)).trans hx558_0
      replace p558 := eq_true p558
      replace q558 := eq_true q558
      go_wp2_with (first | ((with_reducible refine gate_callee (f := 52) rfl ?_); refine goesL_ (some 16) rfl rfl Tryd.func52 (by kernel_rfl) rfl #[.int .i32 (rd l0 x4_1)] rfl (by (try simp only [List.map_toArray, List.map_cons, List.map_nil]); first | done | rfl | (simp only [List.length_drop, List.length_take]; rfl)) ?_; (with_reducible refine (flongref02_One.calls k1 (rd l0 x4_1) t559 _ A4.out).mono ?_); rintro e w6 ⟨v560, rfl, ho0, hb⟩; refine ⟨_, rfl, ?_⟩; have n0_ := Aside0.mk (Kd.R_elder' (by (with_reducible repeat (first | apply Kd.R_alloc | apply Kd.R_drewN | apply Kd.R_drew)); exact HO_3.out) (Kd.R_base ho0) hb); have n1_ := Aside0.mk (Kd.R_lower (Kd.R_new' ho0 (Kd.R_lt (by (with_reducible repeat (first | apply Kd.R_alloc | apply Kd.R_drewN | apply Kd.R_drew)); exact HO_3.out))) (below_size (by repeat (first | (with_reducible first | exact HB.out | apply below_alloc | apply pw_below_drewN | apply below_drew1) | exact HB.out)))); have n2_ := Aside0.mk (below_step (by repeat (first | (with_reducible first | exact HB.out | apply below_alloc | apply pw_below_drewN | apply below_drew1) | exact HB.out)) hb); clear HO_3; clear HB; have HO_3 := n0_; have HO561 := n1_; have HB := n2_; clear n0_ n1_ n2_; (try clear hb); (try clear hb2); (try clear hk); (try clear hi); (try clear ho0); obtain ⟨Ao8, co8, eo8⟩ := Kd.R_slice HO561.out; subst eo8) | ((with_reducible refine gate_builtin (b := .append) (xs := #[.tmp 11, .tmp 16]) rfl ?_); at_builtin; refine Kd.R_append_rows (Kd.int .u8) (w0 := w) w.heap.size rfl (.tmp 11) (.tmp 16) 26 5 (.int .u8 0) 1 rfl Tryd.underlying26 info5 rfl (by decide) (by omega) u3 x3_1 t559 _ _ _ (fun k_ => some k_ ≠ (.slice Ao8 t559.length co8 : Value).ownBlock) (fun _ => False) rfl rfl ?aO ?aR (fun _ _ h => h) (fun _ h => h.elim) ?aF ?aB ?aS ?aL ?_; (case aR => repeat (first | exact (Kd.R_reads' HO561.out).2.2 | (with_reducible refine Kd.C_alloc ?_ _) | (with_reducible refine Kd.C_drewN ?_ _) | (with_reducible refine Kd.C_drew ?_))); (case aB => exact (by repeat (first | (with_reducible first | exact HB.out | apply below_alloc | apply pw_below_drewN | apply below_drew1) | exact HB.out))); (case aF => exact (fun k_ hk => Kd.fresh' (Kd.R_lt (by (with_reducible repeat (first | apply Kd.R_alloc | apply Kd.R_drewN | apply Kd.R_drew)); exact HO561.out)) k_ hk)); (case aO => exact (by (with_reducible repeat (first | apply Kd.R_alloc | apply Kd.R_drewN | apply Kd.R_drew)); exact Kd.R_mono HO_3.out (fun _ hk => hk.2))); (case aS => exact (below_size (by repeat (first | (with_reducible first | exact HB.out | apply below_alloc | apply pw_below_drewN | apply below_drew1) | exact HB.out)))); (case aL => have := LMc5.out; omega); intro v563 w7 ho hb hg hat; rw [← Ny562.out] at ho; have n0_ := Aside0.mk (Kd.R_after (ok := (fun _ => True)) (by (with_reducible repeat (first | apply Kd.R_alloc | apply Kd.R_drewN | apply Kd.R_drew)); exact HO561.out) hg hat); have n1_ := Aside0.mk (hb); have n2_ := Aside0.mk (ho); clear HO561; clear HB; clear HO_3; have HO561 := n0_; have HB := n1_; have HO564 := n2_; clear n0_ n1_ n2_; clear ho hb hg hat))
      go_roundg k1
      case measure => have := HK1.out; omega
      case rel => exact ⟨(y562), (wrap64 (x4_1 + 1)), (by first | rfl | (simp; done) | (simp [*]; done)), H', ⟨by have := HK1.out; omega⟩, ⟨by (with_reducible repeat (first | apply Kd.R_alloc | apply Kd.R_drewN | apply Kd.R_drew)); exact Kd.R_mono HO564.out (fun _ hk => trivial)⟩, ⟨by repeat (first | (with_reducible first | exact HB.out | apply below_alloc | apply pw_below_drewN | apply below_drew1) | exact HB.out)⟩⟩
     ·rw [if_neg c5] at H
      exact absurd H (by simp)
    ·rw [if_neg c3] at H
     exact absurd H (by simp)
   ·rw [if_neg c2] at H
    have c2b0 : decide (x4_1 < (l0.length : Int)) = false := decide_eq_false c2
    clear c2
    obtain rfl := Option.some.inj H
    go_wp2
    go_ret
    exact ⟨_, by first | rfl | (simp [errW_none, errW_some] <;> rfl) | (simp [*, errW_none, errW_some] <;> rfl), by (with_reducible repeat (first | apply Kd.R_alloc | apply Kd.R_drewN | apply Kd.R_drew)); exact HO_3.out, by repeat (first | (with_reducible first | exact HB.out | apply below_alloc | apply pw_below_drewN | apply below_drew1) | exact HB.out)⟩

/-! ### flongref17_Safe: function 31 -/
def flongref17_Safe.l0 : Nat → List Int → List Int → Int → Option (Bool)
 | 0, _, _, _ => none
 | k + 1, x0, x3, x4 => if x4 < (x3.length : Int) then (if 0 ≤ x4 then (if (rd x3 x4) = 10 then (flongref17_Safe.l0 k x0 x3 (wrap64 (x4 + 1))) else ((flongref02_Control.f (rd x3 x4)).bind fun t570 => (if t570 = true then (some false) else (flongref17_Safe.l0 k x0 x3 (wrap64 (x4 + 1)))))) else (none)) else ((flongref02_Encode.f k x3).bind fun t571 => (some ((strOfNums t571).toList == (strOfNums x0).toList)))
def flongref17_Safe.f (k : Nat) (l0 : List Int) : Option (Bool) := (flongref02_Decode.f k l0).bind fun t565 => (flongref17_Safe.l0 k l0 t565 0)
theorem flongref17_Safe.mono_l : ∀ k, (∀ y0 y1 y2, LeO (flongref17_Safe.l0 k y0 y1 y2) (flongref17_Safe.l0 (k + 1) y0 y1 y2))
 | 0 => fun _ _ _ r h => by simp [flongref17_Safe.l0] at h
 | k + 1 => by
  have ih0 := flongref17_Safe.mono_l k
  ·intro y0 y1 y2
   unfold flongref17_Safe.l0
   repeat' first
   | (with_reducible exact ih0 _ _ _)
   | (with_reducible exact flongref02_Decode.mono _ _)
   | (with_reducible exact flongref02_Encode.mono _ _)
   | (with_reducible exact LeO.refl _)
   | (with_reducible exact LeO.none _)
   | (with_reducible refine LeO.ite ?_ ?_)
   | (with_reducible refine LeO.bind ?_ (fun _ => ?_))
theorem flongref17_Safe.mono : ∀ a0 k, LeO (flongref17_Safe.f k a0) (flongref17_Safe.f (k + 1) a0) := by
 intro a0 k
 have ih0 := flongref17_Safe.mono_l k
 unfold flongref17_Safe.f
 repeat' first
   | (with_reducible exact ih0 _ _ _)
   | (with_reducible exact flongref02_Decode.mono _ _)
   | (with_reducible exact flongref02_Encode.mono _ _)
   | (with_reducible exact LeO.refl _)
   | (with_reducible exact LeO.none _)
   | (with_reducible refine LeO.ite ?_ ?_)
   | (with_reducible refine LeO.bind ?_ (fun _ => ?_))
theorem flongref17_Safe.calls (k : Nat) (A0 : Option Addr) (c0 : Nat) (l0 : List Int) (r : Bool) (w : World) (hr0 : Kd.C (Kd.int .u8) w A0 l0.length l0) (hc0 : l0.length ≤ c0) (h : flongref17_Safe.f k l0 = some r) :
  Calls Tryd.prog 31 #[.slice A0 l0.length c0] w fun e w' => e = .returned (.bool r) ∧ Below w.heap.size w w' := by
 have HR0 := Aside0.mk hr0
 have HC0 := Aside0.mk hc0
 clear hr0 hc0
 have HB := Aside0.mk (Below.refl w.heap.size w)
 have H : ((flongref02_Decode.f k l0).bind fun t565 => (flongref17_Safe.l0 k l0 t565 0)) = some r := h
 clear h
 replace H := Option.bind_eq_some_iff.mp H
 obtain ⟨t565, A20, H⟩ := H
 replace H : (flongref17_Safe.l0 k l0 t565 0) = some r := H
 have A2 := Aside0.mk A20
 clear A20
 have H' := Aside0.mk H
 clear H
 go_enter Tryd.func31, Tryd.ntmps31
 go_wp2_with (first | ((with_reducible refine gate_callee (f := 53) rfl ?_); refine goesL_ (some 6) rfl rfl Tryd.func53 (by kernel_rfl) rfl #[.slice A0 l0.length c0] rfl (by (try simp only [List.map_toArray, List.map_cons, List.map_nil]); first | done | rfl | (simp only [List.length_drop, List.length_take]; rfl)) ?_; (with_reducible refine (flongref02_Decode.calls k _ _ l0 t565 _ ?side1 ?side2 A2.out).mono ?_); (case side1 => repeat (first | exact HR0.out | (with_reducible refine Kd.C_alloc ?_ _) | (with_reducible refine Kd.C_drewN ?_ _) | (with_reducible refine Kd.C_drew ?_))); (case side2 => exact HC0.out); rintro e w3 ⟨v566, rfl, ho0, hb⟩; refine ⟨_, rfl, ?_⟩; have n0_ := Aside0.mk (Kd.R_lower ho0 (below_size (by repeat (first | (with_reducible first | exact HB.out | apply below_alloc | apply pw_below_drewN | apply below_drew1) | exact HB.out)))); have n1_ := Aside0.mk (below_step (by repeat (first | (with_reducible first | exact HB.out | apply below_alloc | apply pw_below_drewN | apply below_drew1) | exact HB.out)) hb); clear HB; have HO567 := n0_; have HB := n1_; clear n0_ n1_; (try clear hb); (try clear hb2); (try clear hk); (try clear hi); (try clear ho0)))
 go_loopg [4] k (fun kq v4 w' => ∃ (x4_1 : Int), v4 = .int .i64 x4_1 ∧ Aside0 (flongref17_Safe.l0 kq l0 t565 x4_1 = some r) ∧ Aside0 (kq ≤ k) ∧ Aside0 (Kd.R (Kd.int .i32) 21 w' w.heap.size (fun _ => True) v566 t565) ∧ Aside0 (Below w.heap.size w w'))
 case atStart => exact ⟨(0), (by first | rfl | (simp; done) | (simp [*]; done)), H', ⟨Nat.le_refl _⟩, ⟨by (with_reducible repeat (first | apply Kd.R_alloc | apply Kd.R_drewN | apply Kd.R_drew)); exact HO567.out⟩, ⟨by repeat (first | (with_reducible first | exact HB.out | apply below_alloc | apply pw_below_drewN | apply below_drew1) | exact HB.out)⟩⟩
 case round =>
  clear H'
  try clear p2
  try clear c3
  obtain ⟨x4_1, rfl, HA, HK1, HO_3, HB⟩ := hrel
  cases gk with
  | zero => exact absurd HA.out (by simp [flongref17_Safe.l0])
  | succ k1 =>
   have H := HA.out
   clear HA
   simp only [flongref17_Safe.l0] at H
   by_cases c4 : x4_1 < (t565.length : Int)
   ·rw [if_pos c4] at H
    have c4b0 : decide (x4_1 < (t565.length : Int)) = true := decide_eq_true c4
    clear c4
    by_cases c5 : 0 ≤ x4_1
    ·rw [if_pos c5] at H
     have c5b0 : decide (0 ≤ x4_1) = true := decide_eq_true c5
     clear c5
     by_cases c6 : (rd t565 x4_1) = 10
     ·rw [if_pos c6] at H
      have c6b0 : ((rd t565 x4_1) == 10) = true := beq_iff_eq.mpr c6
      have c6b1 : ((rd t565 x4_1) != 10) = false := bne_eq_false_iff_eq.mpr c6
      clear c6
      have H' := Aside0.mk H
      clear H
      obtain ⟨Ao7, co7, eo7⟩ := Kd.R_slice HO_3.out
      subst eo7
      have p568 : 0 ≤ (x4_1 : Int) := of_decide_eq_true (by first | (with_reducible assumption) | assumption)
      have q568 : x4_1 < (t565.length : Int) := of_decide_eq_true (by first | (with_reducible assumption) | assumption)
      obtain ⟨ad568, e568, hx568_0⟩ := Kd.at_int (Kd.R_reads' HO_3.out).2.2 x4_1 p568 q568
      cases e568
      replace p568 := eq_true p568
      replace q568 := eq_true q568
      go_wp2
      go_roundg k1
      case measure => have := HK1.out; omega
      case rel => exact ⟨(wrap64 (x4_1 + 1)), (by first | rfl | (simp; done) | (simp [*]; done)), H', ⟨by have := HK1.out; omega⟩, ⟨by (with_reducible repeat (first | apply Kd.R_alloc | apply Kd.R_drewN | apply Kd.R_drew)); exact HO_3.out⟩, ⟨by repeat (first | (with_reducible first | exact HB.out | apply below_alloc | apply pw_below_drewN | apply below_drew1) | exact HB.out)⟩⟩
     ·rw [if_neg c6] at H
      have c6b0 : ((rd t565 x4_1) == 10) = false := beq_eq_false_iff_ne.mpr c6
      have c6b1 : ((rd t565 x4_1) != 10) = true := bne_iff_ne.mpr c6
      replace H := Option.bind_eq_some_iff.mp H
      obtain ⟨t570, A80, H⟩ := H
      replace H : (if t570 = true then (some false) else (flongref17_Safe.l0 k1 l0 t565 (wrap64 (x4_1 + 1)))) = some r := H
      have A8 := Aside0.mk A80
      clear A80
      by_cases c9 : t570 = true
      ·subst c9
       have H1 : (some false) = some r := by rw [if_pos rfl] at H; exact H
       clear H
       have H := H1
       clear H1
       obtain rfl := Option.some.inj H
       obtain ⟨Ao10, co10, eo10⟩ := Kd.R_slice HO_3.out
       subst eo10
       have p568 : 0 ≤ (x4_1 : Int) := of_decide_eq_true (by first | (with_reducible assumption) | assumption)
       have q568 : x4_1 < (t565.length : Int) := of_decide_eq_true (by first | (with_reducible assumption) | assumption)
       obtain ⟨ad568, e568, hx568_0⟩ := Kd.at_int (Kd.R_reads' HO_3.out).2.2 x4_1 p568 q568
       cases e568
       replace p568 := eq_true p568
       replace q568 := eq_true q568
       have p569 : 0 ≤ (x4_1 : Int) := of_decide_eq_true (by first | (with_reducible assumption) | assumption)
       have q569 : x4_1 < (t565.length : Int) := of_decide_eq_true (by first | (with_reducible assumption) | assumption)
       obtain ⟨ad569, e569, hx569_0⟩ := Kd.at_int (Kd.R_reads' HO_3.out).2.2 x4_1 p569 q569
       obtain rfl : ad568 = ad569 := (by injection e569)
       replace p569 := eq_true p569
       replace q569 := eq_true q569
       go_wp2_with (first | (go_at_call 40; (with_reducible refine (flongref02_Control.calls (rd t565 x4_1) true _ A8.out).mono ?_); rintro e w' ⟨rfl, ⟨nd, rfl⟩⟩))
       go_ret
       exact ⟨by first | rfl | (simp [errW_none, errW_some] <;> rfl) | (simp [*, errW_none, errW_some] <;> rfl), by repeat (first | (with_reducible first | exact HB.out | apply below_alloc | apply pw_below_drewN | apply below_drew1) | exact HB.out)⟩
      ·replace c9 := Bool.eq_false_iff.mpr c9
       subst c9
       have H1 : (flongref17_Safe.l0 k1 l0 t565 (wrap64 (x4_1 + 1))) = some r := by rw [if_neg (show ¬ (false = true) by decide)] at H; exact H
       clear H
       have H := H1
       clear H1
       have H' := Aside0.mk H
       clear H
       obtain ⟨Ao11, co11, eo11⟩ := Kd.R_slice HO_3.out
       subst eo11
       have p568 : 0 ≤ (x4_1 : Int) := of_decide_eq_true (by first | (with_reducible assumption) | assumption)
       have q568 : x4_1 < (t565.length : Int) := of_decide_eq_true (by first | (with_reducible assumption) | assumption)
       obtain ⟨ad568, e568, hx568_0⟩ := Kd.at_int (Kd.R_reads' HO_3.out).2.2 x4_1 p568 q568
       cases e568
       replace p568 := eq_true p568
       replace q568 := eq_true q568
       have p569 : 0 ≤ (x4_1 : Int) := of_decide_eq_true (by first | (with_reducible assumption) | assumption)
       have q569 : x4_1 < (t565.length : Int) := of_decide_eq_true (by first | (with_reducible assumption) | assumption)
       obtain ⟨ad569, e569, hx569_0⟩ := Kd.at_int (Kd.R_reads' HO_3.out).2.2 x4_1 p569 q569
       obtain rfl : ad568 = ad569 := (by injection e569)
       replace p569 := eq_true p569
       replace q569 := eq_true q569
       go_wp2_with (first | (go_at_call 40; (with_reducible refine (flongref02_Control.calls (rd t565 x4_1) false _ A8.out).mono ?_); rintro e w' ⟨rfl, ⟨nd, rfl⟩⟩))
       go_roundg k1
       case measure => have := HK1.out; omega
       case rel => exact ⟨(wrap64 (x4_1 + 1)), (by first | rfl | (simp; done) | (simp [*]; done)), H', ⟨by have := HK1.out; omega⟩, ⟨by (with_reducible repeat (first | apply Kd.R_alloc | apply Kd.R_drewN | apply Kd.R_drew)); exact HO_3.out⟩, ⟨by repeat (first | (with_reducible first | exact HB.out | apply below_alloc | apply pw_below_drewN | apply below_drew1) | exact HB.out)⟩⟩
    ·rw [if_neg c5] at H
     exact absurd H (by simp)
   ·rw [if_neg c4] at H
    have c4b0 : decide (x4_1 < (t565.length : Int)) = false := decide_eq_false c4
    clear c4
    replace H := Option.bind_eq_some_iff.mp H
    obtain ⟨t571, A120, H⟩ := H
    replace H : (some ((strOfNums t571).toList == (strOfNums l0).toList)) = some r := H
    have A12 := Aside0.mk A120
    clear A120
    obtain rfl := Option.some.inj H
    obtain ⟨Ao13, co13, eo13⟩ := Kd.R_slice HO_3.out
    subst eo13
    try go_wp2
    have n0_ := Aside0.mk (Kd.R_drew HO_3.out)
    have n1_ := Aside0.mk (below_drew1 HB.out)
    clear HO_3
    clear HB
    have HO_3 := n0_
    have HB := n1_
    clear n0_ n1_
    refine start_ (n := 7) (S := fun w' => (convert 26 9 (.slice A0 l0.length c0)).run Tryd.prog w' = .ok (.string (strOfNums l0)) w') (ds := []) #[false, false, false, false, false, false, false] (by kernel_rfl) rfl rfl ((Kd.C_string (P := Tryd.prog) (A := A0) (c := c0) Tryd.underlying26 Tryd.underlying5 Tryd.underlying9 (Kd.C_below HR0.out HB.out))) (fun hHeld => ?_)
    generalize wr.drew = w14 at HO_3 HB hHeld ⊢
    refine pure_ (i := 0) (N := some 25) (v := ?_) (a' := ?_) #[true, false, false, false, false, false, false] rfl rfl (by kernel_rfl) (fun _ _ _ h => h) (Or.inl ⟨by rfl, ?_⟩) ?_ ?_
    rotate_left
    ·intro w'
     go_simp
     with_reducible rfl
    rotate_left
    ·simp only [Act.put, List.setIfInBounds_toArray, List.set_cons_zero, List.set_cons_succ, i64_w, i32_w]
     rfl
    refine pure_ (i := 3) (N := some 28) (v := ?_) (a' := ?_) #[true, false, false, true, false, false, false] rfl rfl (by kernel_rfl) (fun _ _ _ h => h) (Or.inl ⟨by rfl, ?_⟩) ?_ ?_
    rotate_left
    ·intro w'
     go_simp
     with_reducible rfl
    rotate_left
    ·simp only [Act.put, List.setIfInBounds_toArray, List.set_cons_zero, List.set_cons_succ, i64_w, i32_w]
     rfl
    refine take_ (i := 4) (N := some 29) (v := ?_) (a' := ?_) #[true, false, false, true, true, false, false] rfl rfl (by kernel_rfl) (fun _ _ _ h => h) (Or.inl ⟨by rfl, ?_⟩) hHeld ?_ ?_
    rotate_left
    ·intro w' s0
     go_simp
     with_reducible rfl
    rotate_left
    ·simp only [Act.put, List.setIfInBounds_toArray, List.set_cons_zero, List.set_cons_succ, i64_w, i32_w]
     rfl
    refine one_ (i := 1) (N := some 26) #[true, true, false, true, true, false, false] rfl rfl (by kernel_rfl) (by decide) (fun K hK => ?_)
    refine goes_ Tryd.func54 (by kernel_rfl) rfl #[.slice Ao13 t565.length co13] (by rfl) rfl rfl (by (try simp only [List.map_toArray, List.map_cons, List.map_nil]); first | done | rfl | (simp only [List.length_drop, List.length_take]; rfl)) ?_
    with_reducible refine (flongref02_Encode.calls k1 _ _ t565 t571 _ ?side1 ?side2 A12.out).mono ?_
    (case side1 => repeat (first | exact (Kd.R_reads' HO_3.out).2.2 | (with_reducible refine Kd.C_alloc ?_ _) | (with_reducible refine Kd.C_drewN ?_ _) | (with_reducible refine Kd.C_drew ?_)))
    (case side2 => exact (Kd.R_reads' HO_3.out).2.1)
    rintro e w15 ⟨v572, rfl, ho0, hb⟩
    refine ⟨_, rfl, ?_⟩
    have n0_ := Aside0.mk (Kd.R_below (by (with_reducible repeat (first | apply Kd.R_alloc | apply Kd.R_drewN | apply Kd.R_drew)); exact HO_3.out) hb)
    have n1_ := Aside0.mk (Kd.R_lower ho0 (below_size (by repeat (first | (with_reducible first | exact HB.out | apply below_alloc | apply pw_below_drewN | apply below_drew1) | exact HB.out))))
    have n2_ := Aside0.mk (below_step (by repeat (first | (with_reducible first | exact HB.out | apply below_alloc | apply pw_below_drewN | apply below_drew1) | exact HB.out)) hb)
    clear HO_3
    clear HB
    have HO_3 := n0_
    have HO573 := n1_
    have HB := n2_
    clear n0_ n1_ n2_
    (try clear hb)
    (try clear hb2)
    (try clear hk)
    (try clear hi)
    (try clear ho0)
    refine hK.out _ _ ((Kd.C_string (P := Tryd.prog) (A := A0) (c := c0) Tryd.underlying26 Tryd.underlying5 Tryd.underlying9 (Kd.C_below HR0.out HB.out))) (fun hHeld => ?_)
    clear hK K
    refine norm_ (a' := ?_) ?_ ?_
    rotate_left
    ·show Act.put _ (some 26) _ = _
     simp only [Act.put, List.setIfInBounds_toArray, List.set_cons_zero, List.set_cons_succ, i64_w, i32_w]
     rfl
    refine one_ (i := 2) (N := some 27) #[true, true, true, true, true, false, false] rfl rfl (by kernel_rfl) (by decide) (fun K hK => ?_)
    have hcv16 := own_string (P := Tryd.prog) Tryd.underlying26 Tryd.underlying5 Tryd.underlying9 (Kd.own_of_R HO573.out)
    refine value_ (w1 := ?_) (v := ?_) (by rfl) rfl ?_ ?_
    rotate_left 2
    ·go_simp
     constructor
     ·rfl
     ·rfl
    clear hcv16
    refine hK.out _ _ ((Kd.C_string (P := Tryd.prog) (A := A0) (c := c0) Tryd.underlying26 Tryd.underlying5 Tryd.underlying9 (Kd.C_below HR0.out HB.out))) (fun hHeld => ?_)
    clear hK K
    refine norm_ (a' := ?_) ?_ ?_
    rotate_left
    ·show Act.put _ (some 27) _ = _
     simp only [Act.put, List.setIfInBounds_toArray, List.set_cons_zero, List.set_cons_succ, i64_w, i32_w]
     rfl
    refine pure_ (i := 5) (N := some 30) (v := ?_) (a' := ?_) #[true, true, true, true, true, true, false] rfl rfl (by kernel_rfl) (fun _ _ _ h => h) (Or.inl ⟨by rfl, ?_⟩) ?_ ?_
    rotate_left
    ·intro w'
     go_simp
     with_reducible rfl
    rotate_left
    ·simp only [Act.put, List.setIfInBounds_toArray, List.set_cons_zero, List.set_cons_succ, i64_w, i32_w]
     rfl
    refine pure_ (i := 6) (N := some 2) (v := ?_) (a' := ?_) #[true, true, true, true, true, true, true] rfl rfl (by kernel_rfl) (fun _ _ _ h => h) (Or.inl ⟨by rfl, ?_⟩) ?_ ?_
    rotate_left
    ·intro w'
     go_simp
     with_reducible rfl
    rotate_left
    ·simp only [Act.put, List.setIfInBounds_toArray, List.set_cons_zero, List.set_cons_succ, i64_w, i32_w]
     rfl
    refine done_ (by kernel_rfl) ?_
    try go_wp2
    go_ret
    exact ⟨by first | rfl | (simp [errW_none, errW_some] <;> rfl) | (simp [*, errW_none, errW_some] <;> rfl), by repeat (first | (with_reducible first | exact HB.out | apply below_alloc | apply pw_below_drewN | apply below_drew1) | exact HB.out)⟩

/-! ### flongref17_Read: function 30 -/
mutual
def flongref17_Read.j0 : Nat → List Int → Bool → Option ((List (List (S37))) × Int)
 | 0, _, _ => none
 | k + 1, x0, x23 => if x23 = true then (some (([] : List (List (S37))), 5)) else (flongref17_Read.l0 k x0 ([] : List (List (S37))) 0 0)
def flongref17_Read.l0 : Nat → List Int → List (List (S37)) → Int → Int → Option ((List (List (S37))) × Int)
 | 0, _, _, _, _ => none
 | k + 1, x0, x4, x5, x6 => if x6 < (x0.length : Int) then (if 0 ≤ x6 then (if (rd x0 x6) = 10 then (if 0 ≤ x5 then (if x5 ≤ x6 then (if x6 ≤ (x0.length : Int) then ((flongref03_Of.f k (strOfNums ((x0.take (x6 : Int).toNat).drop (x5 : Int).toNat)) 0).bind fun t578 => (if x4.length < 5864062014805 then (flongref17_Read.l0 k x0 (x4 ++ [t578]) (wrap64 (x6 + 1)) (wrap64 (x6 + 1))) else (none))) else (none)) else (none)) else (none)) else (flongref17_Read.l0 k x0 x4 x5 (wrap64 (x6 + 1)))) else (none)) else (some (x4, 0))
end
def flongref17_Read.f (k : Nat) (l0 : List Int) : Option ((List (List (S37))) × Int) := (flongref17_Safe.f k l0).bind fun t574 => (if t574 = true then (if (l0.length : Int) > 0 then (if 0 ≤ (wrap64 ((l0.length : Int) - 1)) then (if (wrap64 ((l0.length : Int) - 1)) < (l0.length : Int) then (flongref17_Read.j0 k l0 ((rd l0 (wrap64 ((l0.length : Int) - 1))) != 10)) else (none)) else (none)) else (flongref17_Read.j0 k l0 false)) else (flongref17_Read.j0 k l0 true))
theorem flongref17_Read.mono_l : ∀ k, (∀ y0 y1, LeO (flongref17_Read.j0 k y0 y1) (flongref17_Read.j0 (k + 1) y0 y1)) ∧ (∀ y0 y1 y2 y3, LeO (flongref17_Read.l0 k y0 y1 y2 y3) (flongref17_Read.l0 (k + 1) y0 y1 y2 y3))
 | 0 => ⟨fun _ _ r h => by simp [flongref17_Read.j0] at h, fun _ _ _ _ r h => by simp [flongref17_Read.l0] at h⟩
 | k + 1 => by
  obtain ⟨ih0, ih1⟩ := flongref17_Read.mono_l k
  refine ⟨?_, ?_⟩
  ·intro y0 y1
   unfold flongref17_Read.j0
   repeat' first
   | (with_reducible exact ih0 _ _)
   | (with_reducible exact ih1 _ _ _ _)
   | (with_reducible exact flongref03_Of.mono _ _ _)
   | (with_reducible exact flongref17_Safe.mono _ _)
   | (with_reducible exact LeO.refl _)
   | (with_reducible exact LeO.none _)
   | (with_reducible refine LeO.ite ?_ ?_)
   | (with_reducible refine LeO.bind ?_ (fun _ => ?_))
  ·intro y0 y1 y2 y3
   unfold flongref17_Read.l0
   repeat' first
   | (with_reducible exact ih0 _ _)
   | (with_reducible exact ih1 _ _ _ _)
   | (with_reducible exact flongref03_Of.mono _ _ _)
   | (with_reducible exact flongref17_Safe.mono _ _)
   | (with_reducible exact LeO.refl _)
   | (with_reducible exact LeO.none _)
   | (with_reducible refine LeO.ite ?_ ?_)
   | (with_reducible refine LeO.bind ?_ (fun _ => ?_))
theorem flongref17_Read.mono : ∀ a0 k, LeO (flongref17_Read.f k a0) (flongref17_Read.f (k + 1) a0) := by
 intro a0 k
 obtain ⟨ih0, ih1⟩ := flongref17_Read.mono_l k
 unfold flongref17_Read.f
 repeat' first
   | (with_reducible exact ih0 _ _)
   | (with_reducible exact ih1 _ _ _ _)
   | (with_reducible exact flongref03_Of.mono _ _ _)
   | (with_reducible exact flongref17_Safe.mono _ _)
   | (with_reducible exact LeO.refl _)
   | (with_reducible exact LeO.none _)
   | (with_reducible refine LeO.ite ?_ ?_)
   | (with_reducible refine LeO.bind ?_ (fun _ => ?_))
theorem flongref17_Read.calls (k : Nat) (A0 : Option Addr) (c0 : Nat) (l0 : List Int) (r1 : List (List (S37))) (r2 : Int) (w : World) (hr0 : Kd.C (Kd.int .u8) w A0 l0.length l0) (hc0 : l0.length ≤ c0) (h : flongref17_Read.f k l0 = some (r1, r2)) :
  Calls Tryd.prog 30 #[.slice A0 l0.length c0] w fun e w' => ∃ v0_ : Value, e = .returned (.tuple #[v0_, .int .i64 r2]) ∧ Kd.S (Kd.slice 37 k37) 33 w' w.heap.size (fun _ => True) v0_ r1 ∧ Below w.heap.size w w' := by
 have HR0 := Aside0.mk hr0
 have HC0 := Aside0.mk hc0
 clear hr0 hc0
 have HB := Aside0.mk (Below.refl w.heap.size w)
 have H : ((flongref17_Safe.f k l0).bind fun t574 => (if t574 = true then (if (l0.length : Int) > 0 then (if 0 ≤ (wrap64 ((l0.length : Int) - 1)) then (if (wrap64 ((l0.length : Int) - 1)) < (l0.length : Int) then (flongref17_Read.j0 k l0 ((rd l0 (wrap64 ((l0.length : Int) - 1))) != 10)) else (none)) else (none)) else (flongref17_Read.j0 k l0 false)) else (flongref17_Read.j0 k l0 true))) = some (r1, r2) := h
 clear h
 have HC2 := Aside0.mk H
 clear H
 go_enter Tryd.func30, Tryd.ntmps30
 go_upto_region 1 with (fail)
 go_cut [23] (fun v23 wc => ∃ (kq : Nat) (x23_1 : Bool), v23 = .bool x23_1 ∧ Aside0 (flongref17_Read.j0 kq l0 x23_1 = some (r1, r2)) ∧ Aside0 (kq ≤ k) ∧ Aside0 (Below w.heap.size w wc))
 case first =>
  have H := HC2.out
  clear HC2
  replace H := Option.bind_eq_some_iff.mp H
  obtain ⟨t574, A30, H⟩ := H
  replace H : (if t574 = true then (if (l0.length : Int) > 0 then (if 0 ≤ (wrap64 ((l0.length : Int) - 1)) then (if (wrap64 ((l0.length : Int) - 1)) < (l0.length : Int) then (flongref17_Read.j0 k l0 ((rd l0 (wrap64 ((l0.length : Int) - 1))) != 10)) else (none)) else (none)) else (flongref17_Read.j0 k l0 false)) else (flongref17_Read.j0 k l0 true)) = some (r1, r2) := H
  have A3 := Aside0.mk A30
  clear A30
  by_cases c4 : t574 = true
  ·subst c4
   have H1 : (if (l0.length : Int) > 0 then (if 0 ≤ (wrap64 ((l0.length : Int) - 1)) then (if (wrap64 ((l0.length : Int) - 1)) < (l0.length : Int) then (flongref17_Read.j0 k l0 ((rd l0 (wrap64 ((l0.length : Int) - 1))) != 10)) else (none)) else (none)) else (flongref17_Read.j0 k l0 false)) = some (r1, r2) := by rw [if_pos rfl] at H; exact H
   clear H
   have H := H1
   clear H1
   by_cases c5 : (l0.length : Int) > 0
   ·rw [if_pos c5] at H
    have c5b0 : decide (0 < (l0.length : Int)) = true := decide_eq_true c5
    have c5b1 : decide (0 < l0.length) = true := decide_eq_true (by omega)
    clear c5
    (first | rw [c5b0] | (simp only [i64_w, i32_w]; rw [c5b0]) | skip)
    obtain ⟨ji6, hji6⟩ : ∃ j_ : Int, (wrap64 ((l0.length : Int) - 1)) = j_ := ⟨_, rfl⟩
    replace H : (if 0 ≤ (ji6) then (if (ji6) < (l0.length : Int) then (flongref17_Read.j0 k l0 ((rd l0 (ji6)) != 10)) else (none)) else (none)) = some (r1, r2) := by first | (rw [hji6] at H; exact H) | (simp only [hji6] at H ⊢; exact H)
    (try rw [hji6] at A3)
    have hji6w : (IntKind.i64.wrap ((l0.length : Int) - 1)) = ji6 := (i64_w _).trans hji6
    by_cases c7 : 0 ≤ (ji6)
    ·rw [if_pos c7] at H
     have c7b0 : decide (0 ≤ (ji6)) = true := decide_eq_true c7
     clear c7
     by_cases c8 : (ji6) < (l0.length : Int)
     ·rw [if_pos c8] at H
      have c8b0 : decide ((ji6) < (l0.length : Int)) = true := decide_eq_true c8
      clear c8
      have H' := Aside0.mk H
      clear H
      go_wp2_with (first | ((with_reducible refine gate_callee (f := 31) rfl ?_); refine goesL_ (some 8) rfl rfl Tryd.func31 (by kernel_rfl) rfl #[.slice A0 l0.length c0] rfl (by (try simp only [List.map_toArray, List.map_cons, List.map_nil]); first | done | rfl | (simp only [List.length_drop, List.length_take]; rfl)) ?_; (with_reducible refine (flongref17_Safe.calls k _ _ l0 true _ ?side1 ?side2 A3.out).mono ?_); (case side1 => repeat (first | exact (Kd.C_below HR0.out HB.out) | (with_reducible refine Kd.C_alloc ?_ _) | (with_reducible refine Kd.C_drewN ?_ _) | (with_reducible refine Kd.C_drew ?_))); (case side2 => exact HC0.out); rintro e w9 ⟨rfl, hb⟩; refine ⟨_, rfl, ?_⟩; have n0_ := Aside0.mk (below_step (by repeat (first | (with_reducible first | exact HB.out | apply below_alloc | apply pw_below_drewN | apply below_drew1) | exact HB.out)) hb); clear HB; have HB := n0_; clear n0_; (try clear hb); (try clear hb2); (try clear hk); (try clear hi); have p575 : 0 ≤ ((ji6) : Int) := of_decide_eq_true (by first | (with_reducible assumption) | assumption); have q575 : (ji6) < (l0.length : Int) := of_decide_eq_true (by first | (with_reducible assumption) | assumption); obtain ⟨ad575, e575, hx575_0⟩ := Kd.at_int HR0.out (ji6) p575 q575; cases e575; replace hx575_0 := (HB.out.cell (World.block_lt_of_cell? w _ hx575_0)).trans hx575_0; replace p575 := eq_true p575; replace q575 := eq_true q575))
      go_meet
      case rel => exact ⟨_, (((rd l0 (ji6)) != 10)), (by first | rfl | (simp; done) | (simp only [← hji6] <;> (first | rfl | simp)) | (simp [*]; done)), H', ⟨by first | omega | exact Nat.le_refl _⟩, ⟨by repeat (first | (with_reducible first | exact HB.out | apply below_alloc | apply pw_below_drewN | apply below_drew1) | exact HB.out)⟩⟩
     ·rw [if_neg c8] at H
      exact absurd H (by simp)
    ·rw [if_neg c7] at H
     exact absurd H (by simp)
   ·rw [if_neg c5] at H
    have c5b0 : decide (0 < (l0.length : Int)) = false := decide_eq_false c5
    have c5b1 : decide (0 < l0.length) = false := decide_eq_false (by omega)
    clear c5
    (first | rw [c5b0] | (simp only [i64_w, i32_w]; rw [c5b0]) | skip)
    have H' := Aside0.mk H
    clear H
    go_wp2_with (first | ((with_reducible refine gate_callee (f := 31) rfl ?_); refine goesL_ (some 8) rfl rfl Tryd.func31 (by kernel_rfl) rfl #[.slice A0 l0.length c0] rfl (by (try simp only [List.map_toArray, List.map_cons, List.map_nil]); first | done | rfl | (simp only [List.length_drop, List.length_take]; rfl)) ?_; (with_reducible refine (flongref17_Safe.calls k _ _ l0 true _ ?side1 ?side2 A3.out).mono ?_); (case side1 => repeat (first | exact (Kd.C_below HR0.out HB.out) | (with_reducible refine Kd.C_alloc ?_ _) | (with_reducible refine Kd.C_drewN ?_ _) | (with_reducible refine Kd.C_drew ?_))); (case side2 => exact HC0.out); rintro e w10 ⟨rfl, hb⟩; refine ⟨_, rfl, ?_⟩; have n0_ := Aside0.mk (below_step (by repeat (first | (with_reducible first | exact HB.out | apply below_alloc | apply pw_below_drewN | apply below_drew1) | exact HB.out)) hb); clear HB; have HB := n0_; clear n0_; (try clear hb); (try clear hb2); (try clear hk); (try clear hi)))
    go_meet
    case rel => exact ⟨_, (false), (by first | rfl | (simp; done) | (simp [*]; done)), H', ⟨by first | omega | exact Nat.le_refl _⟩, ⟨by repeat (first | (with_reducible first | exact HB.out | apply below_alloc | apply pw_below_drewN | apply below_drew1) | exact HB.out)⟩⟩
  ·replace c4 := Bool.eq_false_iff.mpr c4
   subst c4
   have H1 : (flongref17_Read.j0 k l0 true) = some (r1, r2) := by rw [if_neg (show ¬ (false = true) by decide)] at H; exact H
   clear H
   have H := H1
   clear H1
   have H' := Aside0.mk H
   clear H
   go_wp2_with (first | ((with_reducible refine gate_callee (f := 31) rfl ?_); refine goesL_ (some 8) rfl rfl Tryd.func31 (by kernel_rfl) rfl #[.slice A0 l0.length c0] rfl (by (try simp only [List.map_toArray, List.map_cons, List.map_nil]); first | done | rfl | (simp only [List.length_drop, List.length_take]; rfl)) ?_; (with_reducible refine (flongref17_Safe.calls k _ _ l0 false _ ?side1 ?side2 A3.out).mono ?_); (case side1 => repeat (first | exact (Kd.C_below HR0.out HB.out) | (with_reducible refine Kd.C_alloc ?_ _) | (with_reducible refine Kd.C_drewN ?_ _) | (with_reducible refine Kd.C_drew ?_))); (case side2 => exact HC0.out); rintro e w11 ⟨rfl, hb⟩; refine ⟨_, rfl, ?_⟩; have n0_ := Aside0.mk (below_step (by repeat (first | (with_reducible first | exact HB.out | apply below_alloc | apply pw_below_drewN | apply below_drew1) | exact HB.out)) hb); clear HB; have HB := n0_; clear n0_; (try clear hb); (try clear hb2); (try clear hk); (try clear hi)))
   go_meet
   case rel => exact ⟨_, (true), (by first | rfl | (simp; done) | (simp [*]; done)), H', ⟨by first | omega | exact Nat.le_refl _⟩, ⟨by repeat (first | (with_reducible first | exact HB.out | apply below_alloc | apply pw_below_drewN | apply below_drew1) | exact HB.out)⟩⟩
 case rest =>
  clear HC2
  try clear p2
  try clear c3
  try clear c4
  try clear c5
  try clear c5b0
  try clear c5b1
  try clear p5
  try clear q5
  try clear hx5
  try clear p6
  try clear c7
  try clear c7b0
  try clear c8
  try clear c8b0
  try clear hx575_0
  try clear p575
  try clear q575
  obtain ⟨kq, x23_1, rfl, HA, HJ1, HB⟩ := hcut
  cases kq with
  | zero => exact absurd HA.out (by simp [flongref17_Read.j0])
  | succ kj1 =>
   have H := HA.out
   clear HA
   simp only [flongref17_Read.j0] at H
   by_cases c12 : x23_1 = true
   ·subst c12
    have H1 : (some (([] : List (List (S37))), 5)) = some (r1, r2) := by rw [if_pos rfl] at H; exact H
    clear H
    have H := H1
    clear H1
    simp only [Option.some.injEq, Prod.mk.injEq] at H
    obtain ⟨rfl, rfl⟩ := H
    go_wp2
    go_ret2
    exact ⟨_, by first | rfl | (simp [errW_none, errW_some] <;> rfl) | (simp [*, errW_none, errW_some] <;> rfl), by first | exact Kd.S_nil _ _ _ _ _ | exact Kd.N_nil _ _ _ _ _ | exact Kd.V_nil _ _ _ _ _ | exact Kd.Q_nil _ _ _ _ _ | exact Kd.R_nil _ _ _ _ _, by repeat (first | (with_reducible first | exact HB.out | apply below_alloc | apply pw_below_drewN | apply below_drew1) | exact HB.out)⟩
   ·replace c12 := Bool.eq_false_iff.mpr c12
    subst c12
    have H1 : (flongref17_Read.l0 kj1 l0 ([] : List (List (S37))) 0 0) = some (r1, r2) := by rw [if_neg (show ¬ (false = true) by decide)] at H; exact H
    clear H
    have H := H1
    clear H1
    have H' := Aside0.mk H
    clear H
    go_wp2
    go_loopg [4, 5, 6] kj1 (fun kq v4 v5 v6 w' => ∃ (x4_2 : List (List (S37))) (x5_2 : Int) (x6_2 : Int), v5 = .int .i64 x5_2 ∧ v6 = .int .i64 x6_2 ∧ Aside0 (flongref17_Read.l0 kq l0 x4_2 x5_2 x6_2 = some (r1, r2)) ∧ Aside0 (kq ≤ kj1) ∧ Aside0 (Kd.S (Kd.slice 37 k37) 33 w' w.heap.size (fun _ => True) v4 x4_2) ∧ Aside0 (Below w.heap.size w w'))
    case atStart => exact ⟨(([] : List (List (S37)))), (0), (0), (by first | rfl | (simp; done) | (simp [*]; done)), (by first | rfl | (simp; done) | (simp [*]; done)), H', ⟨Nat.le_refl _⟩, ⟨by first | exact Kd.S_nil _ _ _ _ _ | exact Kd.N_nil _ _ _ _ _ | exact Kd.V_nil _ _ _ _ _ | exact Kd.Q_nil _ _ _ _ _ | exact Kd.R_nil _ _ _ _ _⟩, ⟨by repeat (first | (with_reducible first | exact HB.out | apply below_alloc | apply pw_below_drewN | apply below_drew1) | exact HB.out)⟩⟩
    case round =>
     clear H'
     try clear c1
     try clear p2
     try clear c3
     try clear c4
     try clear c5
     try clear c5b0
     try clear c5b1
     try clear p5
     try clear q5
     try clear hx5
     try clear p6
     try clear c7
     try clear c7b0
     try clear c8
     try clear c8b0
     try clear c12
     try clear hx575_0
     try clear p2
     try clear p5
     try clear p575
     try clear p6
     try clear q5
     try clear q575
     obtain ⟨x4_2, x5_2, x6_2, rfl, rfl, HA, HK2, HO_4, HB⟩ := hrel
     cases gk with
     | zero => exact absurd HA.out (by simp [flongref17_Read.l0])
     | succ k2 =>
      have H := HA.out
      clear HA
      simp only [flongref17_Read.l0] at H
      by_cases c13 : x6_2 < (l0.length : Int)
      ·rw [if_pos c13] at H
       have c13b0 : decide (x6_2 < (l0.length : Int)) = true := decide_eq_true c13
       clear c13
       by_cases c14 : 0 ≤ x6_2
       ·rw [if_pos c14] at H
        have c14b0 : decide (0 ≤ x6_2) = true := decide_eq_true c14
        clear c14
        by_cases c15 : (rd l0 x6_2) = 10
        ·rw [if_pos c15] at H
         have c15b0 : ((rd l0 x6_2) == 10) = true := beq_iff_eq.mpr c15
         have c15b1 : ((rd l0 x6_2) != 10) = false := bne_eq_false_iff_eq.mpr c15
         clear c15
         by_cases c16 : 0 ≤ x5_2
         ·rw [if_pos c16] at H
          have c16b0 := eq_true c16
          have c16b1 : decide (0 ≤ x5_2) = true := decide_eq_true c16
          clear c16
          by_cases c17 : x5_2 ≤ x6_2
          ·rw [if_pos c17] at H
           have c17b0 := eq_true c17
           have c17b1 : decide (x5_2 ≤ x6_2) = true := decide_eq_true c17
           clear c17
           by_cases c18 : x6_2 ≤ (l0.length : Int)
           ·rw [if_pos c18] at H
            have c18b0 := eq_true c18
            have c18b1 : decide (x6_2 ≤ (l0.length : Int)) = true := decide_eq_true c18
            clear c18
            replace H := Option.bind_eq_some_iff.mp H
            obtain ⟨t578, A190, H⟩ := H
            replace H : (if x4_2.length < 5864062014805 then (flongref17_Read.l0 k2 l0 (x4_2 ++ [t578]) (wrap64 (x6_2 + 1)) (wrap64 (x6_2 + 1))) else (none)) = some (r1, r2) := H
            have A19 := Aside0.mk A190
            clear A190
            by_cases c20 : x4_2.length < 5864062014805
            ·rw [if_pos c20] at H
             have LMc20 := Aside0.mk c20
             clear c20
             obtain ⟨y581, hy581⟩ : ∃ y_ : List (List (S37)), y_ = (x4_2 ++ [t578]) := ⟨_, rfl⟩
             replace H : (flongref17_Read.l0 k2 l0 y581 (wrap64 (x6_2 + 1)) (wrap64 (x6_2 + 1))) = some (r1, r2) := by first | (rw [hy581]; with_reducible exact H) | (have H2_ := (Option.bind_some _ _).symm.trans H; rw [hy581]; with_reducible exact H2_) | (have H2_ := (Option.bind_some _ _).symm.trans H; with_reducible exact H2_) | with_reducible exact H | (rw [hy581]; exact H) | exact H
             have Ny581 := Aside0.mk hy581
             clear hy581
             have H' := Aside0.mk H
             clear H
             have p576 : 0 ≤ (x6_2 : Int) := of_decide_eq_true (by first | (with_reducible assumption) | assumption)
             have q576 : x6_2 < (l0.length : Int) := of_decide_eq_true (by first | (with_reducible assumption) | assumption)
             obtain ⟨ad576, e576, hx576_0⟩ := Kd.at_int HR0.out x6_2 p576 q576
             cases e576
             replace hx576_0 := (HB.out.cell (World.block_lt_of_cell? w _ hx576_0)).trans hx576_0
             replace p576 := eq_true p576
             replace q576 := eq_true q576
             obtain ⟨i021, hi021, _, hsz21, _⟩ := info_parts info5
             obtain ⟨A21, hcut21, hA21, hC21⟩ := print_mid_of (P := Tryd.prog) (Value.int .u8) 0 26 5 .i64 .i64 Tryd.underlying26 hi021 hsz21 (some ad576) c0 l0 x5_2 x6_2 (of_decide_eq_true (by first | (with_reducible assumption) | assumption)) (by first | omega | exact of_decide_eq_true (by first | (with_reducible assumption) | assumption)) (of_decide_eq_true (by first | (with_reducible assumption) | assumption)) HC0.out
             have HR577 := Aside0.mk (Kd.C_of_reads (h1 := fun _ => rfl) (hA21 _ (Kd.reads_of_C HR0.out)))
             have HC577 := Aside0.mk hC21
             clear hA21 hC21 hi021 hsz21
             have hcv22 := Kd.C_string (P := Tryd.prog) (A := A21) (c := (c0 - x5_2.toNat)) Tryd.underlying26 Tryd.underlying5 Tryd.underlying9 (Kd.C_below HR577.out HB.out)
             have hcv22s := hcv22
             rw [List.length_drop, List.length_take, Nat.min_eq_left (show (x6_2 : Int).toNat ≤ l0.length by have h_ := of_decide_eq_true (show decide ((x6_2 : Int) ≤ (l0.length : Int)) = true by first | (with_reducible assumption) | assumption); omega)] at hcv22s
             go_wp2_with (first | ((with_reducible refine gate_callee (f := 32) rfl ?_); refine goesL_ (some 41) rfl rfl Tryd.func32 (by kernel_rfl) rfl #[.string (strOfNums ((l0.take (x6_2 : Int).toNat).drop (x5_2 : Int).toNat)), .int .u8 0] rfl (by (try simp only [List.map_toArray, List.map_cons, List.map_nil]); first | done | rfl | (simp only [List.length_drop, List.length_take]; rfl)) ?_; (with_reducible refine (flongref03_Of.calls k2 (strOfNums ((l0.take (x6_2 : Int).toNat).drop (x5_2 : Int).toNat)) 0 t578 _ A19.out).mono ?_); rintro e w23 ⟨v579, rfl, ho0, hb⟩; refine ⟨_, rfl, ?_⟩; have n0_ := Aside0.mk (Kd.S_elder' (by (with_reducible repeat (first | apply Kd.S_alloc | apply Kd.S_drewN | apply Kd.S_drew)); exact HO_4.out) (Kd.R_base ho0) hb); have n1_ := Aside0.mk (Kd.R_lower ho0 (below_size (by repeat (first | (with_reducible first | exact HB.out | apply below_alloc | apply pw_below_drewN | apply below_drew1) | exact HB.out)))); have n2_ := Aside0.mk (below_step (by repeat (first | (with_reducible first | exact HB.out | apply below_alloc | apply pw_below_drewN | apply below_drew1) | exact HB.out)) hb); clear HO_4; clear HB; have HO_4 := n0_; have HO580 := n1_; have HB := n2_; clear n0_ n1_ n2_; (try clear hb); (try clear hb2); (try clear hk); (try clear hi); (try clear ho0); obtain ⟨Ao25, co25, eo25⟩ := Kd.R_slice HO580.out; subst eo25) | ((with_reducible refine gate_builtin (b := .append) (xs := #[.tmp 35, .tmp 42]) rfl ?_); (try (refine gate_guard (by rfl) ?_; dsimp only)); at_builtin; refine Kd.S_append (Kd.slice 37 k37) (w0 := w) w.heap.size rfl (.tmp 35) (.tmp 42) 30 33 (.slice none 0 0) 24 rfl Tryd.underlying30 info33 rfl (by decide) (by omega) u4 x4_2 t578 [.slice Ao25 t578.length co25] (fun _ => True) (fun k_ => some k_ = (.slice Ao25 t578.length co25 : Value).ownBlock) rfl rfl ?aP (fun k_ hk_ => ((Kd.R_mono (ok' := fun k_ => ((fun _ => True)) k_ ∧ some k_ ≠ (u4 : Value).ownBlock) (Kd.R_apart' (HO580.out) (Kd.S_typed HO_4.out) (by decide)) (fun k_ hk => ⟨trivial, hk.2⟩))).1 k_ hk_.symm) ?aF ?aO ?aB ?aS ?aL ?_; (case aP => exact Kd.M_row (Kd.R_mono (Kd.R_tight rfl (Kd.R_mono (ok' := fun k_ => ((fun _ => True)) k_ ∧ some k_ ≠ (u4 : Value).ownBlock) (Kd.R_apart' (HO580.out) (Kd.S_typed HO_4.out) (by decide)) (fun k_ hk => ⟨trivial, hk.2⟩))) (fun _ h_ => h_))); (case aB => exact (by repeat (first | (with_reducible first | exact HB.out | apply below_alloc | apply pw_below_drewN | apply below_drew1) | exact HB.out))); (case aF => exact (fun _ _ => trivial)); (case aO => exact (by (with_reducible repeat (first | apply Kd.S_alloc | apply Kd.S_drewN | apply Kd.S_drew)); exact Kd.S_mono HO_4.out (fun k_ hk => ⟨trivial, fun e_ => hk.2 e_⟩))); (case aS => exact (below_size (by repeat (first | (with_reducible first | exact HB.out | apply below_alloc | apply pw_below_drewN | apply below_drew1) | exact HB.out)))); (case aL => have := LMc20.out; omega); intro v582 w24 ho hb hg hat; rw [← Ny581.out] at ho; have n0_ := Aside0.mk (hb); have n1_ := Aside0.mk (ho); clear HB; clear HO_4; clear HO580; have HB := n0_; have HO583 := n1_; clear n0_ n1_; clear ho hb hg hat))
             go_roundg k2
             case measure => have := HJ1.out; have := HK2.out; omega
             case rel => exact ⟨(y581), (wrap64 (x6_2 + 1)), (wrap64 (x6_2 + 1)), (by first | rfl | (simp; done) | (simp [*]; done)), (by first | rfl | (simp; done) | (simp [*]; done)), H', ⟨by have := HJ1.out; have := HK2.out; omega⟩, ⟨by (with_reducible repeat (first | apply Kd.S_alloc | apply Kd.S_drewN | apply Kd.S_drew)); exact HO583.out⟩, ⟨by repeat (first | (with_reducible first | exact HB.out | apply below_alloc | apply pw_below_drewN | apply below_drew1) | exact HB.out)⟩⟩
            ·rw [if_neg c20] at H
             exact absurd H (by simp)
           ·rw [if_neg c18] at H
            exact absurd H (by simp)
          ·rw [if_neg c17] at H
           exact absurd H (by simp)
         ·rw [if_neg c16] at H
          exact absurd H (by simp)
        ·rw [if_neg c15] at H
         have c15b0 : ((rd l0 x6_2) == 10) = false := beq_eq_false_iff_ne.mpr c15
         have c15b1 : ((rd l0 x6_2) != 10) = true := bne_iff_ne.mpr c15
         have H' := Aside0.mk H
         clear H
         have p576 : 0 ≤ (x6_2 : Int) := of_decide_eq_true (by first | (with_reducible assumption) | assumption)
         have q576 : x6_2 < (l0.length : Int) := of_decide_eq_true (by first | (with_reducible assumption) | assumption)
         obtain ⟨ad576, e576, hx576_0⟩ := Kd.at_int HR0.out x6_2 p576 q576
         cases e576
         replace hx576_0 := (HB.out.cell (World.block_lt_of_cell? w _ hx576_0)).trans hx576_0
         replace p576 := eq_true p576
         replace q576 := eq_true q576
         go_wp2
         go_roundg k2
         case measure => have := HJ1.out; have := HK2.out; omega
         case rel => exact ⟨(x4_2), (x5_2), (wrap64 (x6_2 + 1)), (by first | rfl | (simp; done) | (simp [*]; done)), (by first | rfl | (simp; done) | (simp [*]; done)), H', ⟨by have := HJ1.out; have := HK2.out; omega⟩, ⟨by (with_reducible repeat (first | apply Kd.S_alloc | apply Kd.S_drewN | apply Kd.S_drew)); exact HO_4.out⟩, ⟨by repeat (first | (with_reducible first | exact HB.out | apply below_alloc | apply pw_below_drewN | apply below_drew1) | exact HB.out)⟩⟩
       ·rw [if_neg c14] at H
        exact absurd H (by simp)
      ·rw [if_neg c13] at H
       have c13b0 : decide (x6_2 < (l0.length : Int)) = false := decide_eq_false c13
       clear c13
       simp only [Option.some.injEq, Prod.mk.injEq] at H
       obtain ⟨rfl, rfl⟩ := H
       go_wp2
       go_ret2
       exact ⟨_, by first | rfl | (simp [errW_none, errW_some] <;> rfl) | (simp [*, errW_none, errW_some] <;> rfl), by (with_reducible repeat (first | apply Kd.S_alloc | apply Kd.S_drewN | apply Kd.S_drew)); exact HO_4.out, by repeat (first | (with_reducible first | exact HB.out | apply below_alloc | apply pw_below_drewN | apply below_drew1) | exact HB.out)⟩

end Go.Proofs.YtadejblahbebdaaDoor.X
