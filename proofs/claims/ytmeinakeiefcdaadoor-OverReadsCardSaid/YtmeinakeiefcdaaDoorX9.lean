-- Written by this session's xprint.py (a variant of the kit's printer). Not trusted: Lean checks it.
import Derived.Test.YtmeinakeiefcdaaDoorX0
import Derived.Test.YtmeinakeiefcdaaDoorSlim
import Derived.Test.YtmeinakeiefcdaaDoorX1
import Derived.Test.YtmeinakeiefcdaaDoorX6
import Derived.Test.YtmeinakeiefcdaaDoorX7
import Derived.Test.YtmeinakeiefcdaaDoorX8
namespace Go.Proofs.YtmeinakeiefcdaaDoor.X
open Go.RowKit Go.Proofs.YtmeinakeiefcdaaDoorW.PrintWords Go.Proofs.YtmeinakeiefcdaaDoorW.PrintLast Go.Proofs.YtmeinakeiefcdaaDoorW.PrintMore
attribute [local go_sem] max2_int min2_int max_two min_two max_three min_three max_four min_four   -- for this text's walks alone
set_option linter.unusedVariables false
set_option maxHeartbeats 8000000
set_option maxRecDepth 100000
set_option linter.unusedSimpArgs false

attribute [local go_sem high] eqA35
/-! ### flongref18_line: function 44 -/
def flongref18_line.l0 : Nat → List Int → List (S35) → Int → Option ((List (S35)) × Bool)
 | 0, _, _, _ => none
 | k + 1, x0, x4, x5 => if x5 < (x0.length : Int) then (if 0 ≤ x5 then (if x5 ≤ (x0.length : Int) then ((flongref18_Take.f k (x0.drop (x5 : Int).toNat)).bind fun bt472 => (if bt472.2.2.2 = 0 then (if (x4.length : Int) > 0 then ((flongref02_Width.f k bt472.1).bind fun t477 => (if t477 = 0 then (if 0 ≤ (wrap64 ((x4.length : Int) - 1)) then (if (wrap64 ((x4.length : Int) - 1)) < (x4.length : Int) then (if x4.length < 17592186044416 then (flongref18_line.l0 k x0 (x4 ++ [(⟨bt472.1, (rd_T35 x4 (wrap64 ((x4.length : Int) - 1))).f1⟩ : S35)]) (wrap64 (x5 + bt472.2.2.1))) else (none)) else (none)) else (none)) else (if x4.length < 17592186044416 then (flongref18_line.l0 k x0 (x4 ++ [(⟨bt472.1, bt472.2.1⟩ : S35)]) (wrap64 (x5 + bt472.2.2.1))) else (none)))) else (if x4.length < 17592186044416 then (flongref18_line.l0 k x0 (x4 ++ [(⟨bt472.1, bt472.2.1⟩ : S35)]) (wrap64 (x5 + bt472.2.2.1))) else (none))) else (some (([] : List (S35)), false)))) else (none)) else (none)) else ((flongref18_Row.f k x4).bind fun t468 => (some (x4, ((strOfNums t468).toList == (strOfNums x0).toList))))
def flongref18_line.f (k : Nat) (l0 : List Int) : Option ((List (S35)) × Bool) := flongref18_line.l0 k l0 ([] : List (S35)) 0
theorem flongref18_line.mono_l : ∀ k, (∀ y0 y1 y2, LeO (flongref18_line.l0 k y0 y1 y2) (flongref18_line.l0 (k + 1) y0 y1 y2))
 | 0 => fun _ _ _ r h => by simp [flongref18_line.l0] at h
 | k + 1 => by
  have ih0 := flongref18_line.mono_l k
  ·intro y0 y1 y2
   unfold flongref18_line.l0
   repeat' first
   | (with_reducible exact ih0 _ _ _)
   | (with_reducible exact flongref02_Width.mono _ _)
   | (with_reducible exact flongref18_Row.mono _ _)
   | (with_reducible exact flongref18_Take.mono _ _)
   | (with_reducible exact LeO.refl _)
   | (with_reducible exact LeO.none _)
   | (with_reducible refine LeO.ite ?_ ?_)
   | (with_reducible refine LeO.bind ?_ (fun _ => ?_))
theorem flongref18_line.mono : ∀ a0 k, LeO (flongref18_line.f k a0) (flongref18_line.f (k + 1) a0) := by
 intro a0 k
 have ih0 := flongref18_line.mono_l k
 unfold flongref18_line.f
 repeat' first
   | (with_reducible exact ih0 _ _ _)
   | (with_reducible exact flongref02_Width.mono _ _)
   | (with_reducible exact flongref18_Row.mono _ _)
   | (with_reducible exact flongref18_Take.mono _ _)
   | (with_reducible exact LeO.refl _)
   | (with_reducible exact LeO.none _)
   | (with_reducible refine LeO.ite ?_ ?_)
   | (with_reducible refine LeO.bind ?_ (fun _ => ?_))
def flongref18_line.T11 : Bool × List (List Nat × List Nat) := (true, [([], []), ([], []), ([1], [1]), ([2], [2]), ([], []), ([4], [4]), ([3, 5], [3, 5]), ([0, 2, 0], [0]), ([6, 7, 0, 1, 2, 3, 4, 5, 6, 7], [6])])
def flongref18_line.B11 : List Nat := [0, 0, 2, 6, 0, 16, 62, 7, 255]
theorem flongref18_line.tab11 : rtab .any (opsOf Tryd.f44 11) = flongref18_line.T11 := by kernel_rfl
theorem flongref18_line.bits11 : waitsOk flongref18_line.T11.2 flongref18_line.B11 = true := by kernel_rfl
theorem flongref18_line.calls (k : Nat) (A0 : Option Addr) (c0 : Nat) (l0 : List Int) (r1 : List (S35)) (r2 : Bool) (w : World) (hr0 : Kd.C (Kd.int .u8) w A0 l0.length l0) (hc0 : l0.length ≤ c0) (h : flongref18_line.f k l0 = some (r1, r2)) :
  Calls Tryd.prog 44 #[.slice A0 l0.length c0] w fun e w' => ∃ v0_ : Value, e = .returned (.tuple #[v0_, .bool r2]) ∧ Kd.R k35 35 w' w.heap.size (fun _ => True) v0_ r1 ∧ Below w.heap.size w w' := by
 have hu35 := Tryd.underlying35
 have HR0 := Aside0.mk hr0
 have HC0 := Aside0.mk hc0
 clear hr0 hc0
 have HB := Aside0.mk (Below.refl w.heap.size w)
 have H : (flongref18_line.l0 k l0 ([] : List (S35)) 0) = some (r1, r2) := h
 clear h
 have H' := Aside0.mk H
 clear H
 go_enter Tryd.func44, Tryd.ntmps44
 go_wp2
 go_loopg [4, 5] k (fun kq v4 v5 w' => ∃ (x4_1 : List (S35)) (x5_1 : Int), v5 = .int .i64 x5_1 ∧ Aside0 (flongref18_line.l0 kq l0 x4_1 x5_1 = some (r1, r2)) ∧ Aside0 (kq ≤ k) ∧ Aside0 (Kd.R k35 35 w' w.heap.size (fun _ => True) v4 x4_1) ∧ Aside0 (Below w.heap.size w w'))
 case atStart => exact ⟨(([] : List (S35))), (0), sA, H', ⟨Nat.le_refl _⟩, ⟨by first | exact Kd.R_nil _ _ _ _ _ | exact Kd.N_nil _ _ _ _ _ | exact Kd.V_nil _ _ _ _ _ | exact Kd.Q_nil _ _ _ _ _ | exact Kd.S_nil _ _ _ _ _⟩, ⟨bA⟩⟩
 case round =>
  clear H'
  obtain ⟨x4_1, x5_1, rfl, HA, HK1, HO_4, HB⟩ := hrel
  cases gk with
  | zero => exact absurd HA.out (by simp [flongref18_line.l0])
  | succ k1 =>
   have H := HA.out
   clear HA
   simp only [flongref18_line.l0] at H
   by_cases c2 : x5_1 < (l0.length : Int)
   ·rw [if_pos c2] at H
    have c2b0 : decide (x5_1 < (l0.length : Int)) = true := decide_eq_true c2
    clear c2
    by_cases c3 : 0 ≤ x5_1
    ·rw [if_pos c3] at H
     have c3b0 := eq_true c3
     have c3b1 : decide (0 ≤ x5_1) = true := decide_eq_true c3
     clear c3
     by_cases c4 : x5_1 ≤ (l0.length : Int)
     ·rw [if_pos c4] at H
      have c4b0 := eq_true c4
      have c4b1 : decide (x5_1 ≤ (l0.length : Int)) = true := decide_eq_true c4
      clear c4
      replace H := Option.bind_eq_some_iff.mp H
      obtain ⟨⟨t472, t473, t474, t475⟩, A50, H⟩ := H
      replace H : (if t475 = 0 then (if (x4_1.length : Int) > 0 then ((flongref02_Width.f k1 t472).bind fun t477 => (if t477 = 0 then (if 0 ≤ (wrap64 ((x4_1.length : Int) - 1)) then (if (wrap64 ((x4_1.length : Int) - 1)) < (x4_1.length : Int) then (if x4_1.length < 17592186044416 then (flongref18_line.l0 k1 l0 (x4_1 ++ [(⟨t472, (rd_T35 x4_1 (wrap64 ((x4_1.length : Int) - 1))).f1⟩ : S35)]) (wrap64 (x5_1 + t474))) else (none)) else (none)) else (none)) else (if x4_1.length < 17592186044416 then (flongref18_line.l0 k1 l0 (x4_1 ++ [(⟨t472, t473⟩ : S35)]) (wrap64 (x5_1 + t474))) else (none)))) else (if x4_1.length < 17592186044416 then (flongref18_line.l0 k1 l0 (x4_1 ++ [(⟨t472, t473⟩ : S35)]) (wrap64 (x5_1 + t474))) else (none))) else (some (([] : List (S35)), false))) = some (r1, r2) := H
      have A5 := Aside0.mk A50
      clear A50
      by_cases c6 : t475 = 0
      ·rw [if_pos c6] at H
       have c6b0 : (t475 == 0) = true := beq_iff_eq.mpr c6
       have c6b1 : (t475 != 0) = false := bne_eq_false_iff_eq.mpr c6
       clear c6
       by_cases c7 : (x4_1.length : Int) > 0
       ·rw [if_pos c7] at H
        have c7b0 : decide (0 < (x4_1.length : Int)) = true := decide_eq_true c7
        have c7b1 : decide (0 < x4_1.length) = true := decide_eq_true (by omega)
        clear c7
        replace H := Option.bind_eq_some_iff.mp H
        obtain ⟨t477, A80, H⟩ := H
        replace H : (if t477 = 0 then (if 0 ≤ (wrap64 ((x4_1.length : Int) - 1)) then (if (wrap64 ((x4_1.length : Int) - 1)) < (x4_1.length : Int) then (if x4_1.length < 17592186044416 then (flongref18_line.l0 k1 l0 (x4_1 ++ [(⟨t472, (rd_T35 x4_1 (wrap64 ((x4_1.length : Int) - 1))).f1⟩ : S35)]) (wrap64 (x5_1 + t474))) else (none)) else (none)) else (none)) else (if x4_1.length < 17592186044416 then (flongref18_line.l0 k1 l0 (x4_1 ++ [(⟨t472, t473⟩ : S35)]) (wrap64 (x5_1 + t474))) else (none))) = some (r1, r2) := H
        have A8 := Aside0.mk A80
        clear A80
        by_cases c9 : t477 = 0
        ·rw [if_pos c9] at H
         have c9b0 : (t477 == 0) = true := beq_iff_eq.mpr c9
         have c9b1 : (t477 != 0) = false := bne_eq_false_iff_eq.mpr c9
         clear c9
         obtain ⟨ji10, hji10⟩ : ∃ j_ : Int, (wrap64 ((x4_1.length : Int) - 1)) = j_ := ⟨_, rfl⟩
         replace H : (if 0 ≤ (ji10) then (if (ji10) < (x4_1.length : Int) then (if x4_1.length < 17592186044416 then (flongref18_line.l0 k1 l0 (x4_1 ++ [(⟨t472, (rd_T35 x4_1 (ji10)).f1⟩ : S35)]) (wrap64 (x5_1 + t474))) else (none)) else (none)) else (none)) = some (r1, r2) := by first | (rw [hji10] at H; exact H) | (simp only [hji10] at H ⊢; exact H)
         (try rw [hji10] at A5)
         (try rw [hji10] at A8)
         have hji10w : (IntKind.i64.wrap ((x4_1.length : Int) - 1)) = ji10 := (i64_w _).trans hji10
         by_cases c11 : 0 ≤ (ji10)
         ·rw [if_pos c11] at H
          have c11b0 : decide (0 ≤ (ji10)) = true := decide_eq_true c11
          clear c11
          by_cases c12 : (ji10) < (x4_1.length : Int)
          ·rw [if_pos c12] at H
           have c12b0 : decide ((ji10) < (x4_1.length : Int)) = true := decide_eq_true c12
           clear c12
           by_cases c13 : x4_1.length < 17592186044416
           ·rw [if_pos c13] at H
            have LMc13 := Aside0.mk c13
            clear c13
            obtain ⟨y479, hy479⟩ : ∃ y_ : List (S35), y_ = (x4_1 ++ [(⟨t472, (rd_T35 x4_1 (ji10)).f1⟩ : S35)]) := ⟨_, rfl⟩
            replace H : (flongref18_line.l0 k1 l0 y479 (wrap64 (x5_1 + t474))) = some (r1, r2) := hyA hy479 H
            have Ny479 := Aside0.mk hy479
            clear hy479
            have H' := Aside0.mk H
            clear H
            obtain ⟨i014, hi014, _, hsz14, _⟩ := info_parts info5
            obtain ⟨A14, hcut14, hA14, hC14⟩ := print_drop_of (P := Tryd.prog) (Value.int .u8) 0 25 5 .i64 Tryd.underlying25 hi014 hsz14 A0 c0 l0 x5_1 (of_decide_eq_true asA) (of_decide_eq_true asA) HC0.out
            have HR471 := Aside0.mk (Kd.C_of_reads (h1 := fun _ => rfl) (hA14 _ (Kd.reads_of_C HR0.out)))
            have HC471 := Aside0.mk hC14
            clear hA14 hC14 hi014 hsz14
            go_wp2_with (first | ((with_reducible refine gate_callee (f := 21) rfl ?_); refine goesL_ (some 17) rfl rfl Tryd.func21 (by kernel_rfl) rfl #[.slice A14 (l0.drop (x5_1 : Int).toNat).length (c0 - x5_1.toNat)] rfl (by (try simp only [List.map_toArray, List.map_cons, List.map_nil]); first | done | (rw [show (l0.drop (x5_1 : Int).toNat).length = (l0.length - x5_1.toNat) from List.length_drop] <;> rfl) | rfl | (simp only [List.length_drop, List.length_take]; rfl)) ?_; (with_reducible refine (flongref18_Take.calls k1 _ _ (l0.drop (x5_1 : Int).toNat) t472 t473 t474 t475 _ ?side1 ?side2 A5.out).mono ?_); (case side1 => repeat (first | exact (Kd.C_below HR471.out HB.out) | (with_reducible refine Kd.C_alloc ?_ _) | (with_reducible refine Kd.C_drewN ?_ _) | (with_reducible refine Kd.C_drew ?_))); (case side2 => exact HC471.out); rintro e w15 ⟨rfl, hb⟩; refine ⟨_, rfl, ?_⟩; replace HO_4 := Aside0.mk (Kd.R_below (kR HO_4) hb); replace HB := Aside0.mk (below_step bA hb); (try clear hb); (try clear hb2); (try clear hk); (try clear hi)) | ((with_reducible refine gate_dst (N := 6) rfl ?_); refine box_event ?hg (N := 6) ?hd (cs := #[.int .i32 0, .int .u8 0]) (t := 35) ?hr ?_; (case hd => rfl); (case hg => rfl); (case hr => first | (go_simp; done) | (go_simp; rfl)); intro gb476 hg w16 hbox hb; replace HO_4 := Aside0.mk (Kd.R_below (Kd.R_elderB (kR HO_4) gb476 (Nat.le_of_eq hg.symm)) hb); have BK476 := Aside0.mk (hbox); have GW476 := Aside0.mk ((geA hg : w.heap.size ≤ gb476)); have GE476 := Aside0.mk ((geA hg : w.heap.size ≤ gb476)); replace HB := Aside0.mk (below_step bA hb); clear hb hbox hg; have hcz17_0 : w16.cell? ⟨gb476, 0, none⟩ = some (.int .i32 0) := (blk_cell BK476.out 0).trans rfl; have hcz17_1 : w16.cell? ⟨gb476, 1, none⟩ = some (.int .u8 0) := (blk_cell BK476.out 1).trans rfl; have hfz17_0 := blk_frozen BK476.out 0; have hfz17_1 := blk_frozen BK476.out 1; obtain ⟨Ao18, co18, eo18⟩ := Kd.R_slice HO_4.out; subst eo18) | (go_at_call 31; (with_reducible refine (flongref02_Width.calls k1 t472 t477 _ A8.out).mono ?_); rintro e w19 ⟨rfl, hb⟩; have n0_ := Aside0.mk (Kd.R_below (by (with_reducible repeat (first | apply Kd.R_alloc | apply Kd.R_drewN | apply Kd.R_drew)); exact (Kd.R_mono (Kd.R_far (p := ⟨gb476, 1, none⟩) (Kd.R_far (p := ⟨gb476, 0, none⟩) (Kd.R_mono HO_4.out (fun k_ hk => (⟨hk, hk.2⟩ : _ ∧ k_ ≠ gb476))) (fun _ hk => hk.2) (.int .i32 t472)) (fun _ hk => hk.2) (.int .u8 t473)) (fun _ h_ => h_.1))) hb); have n1_ := Aside0.mk (blk_below (g := gb476) (o := .cells #[.int .i32 t472, .int .u8 t473] 35 (0, 0)) (by (with_reducible repeat (first | refine blk_drewN ?_ _ | refine blk_drew ?_ | refine blk_alloc ?_ _)); refine blk_put (cs := #[.int .i32 t472, .int .u8 0]) ?_ 1 _ rfl; (with_reducible repeat (first | refine blk_drewN ?_ _ | refine blk_drew ?_ | refine blk_alloc ?_ _)); refine blk_put (cs := #[.int .i32 0, .int .u8 0]) ?_ 0 _ rfl; (with_reducible repeat (first | refine blk_drewN ?_ _ | refine blk_drew ?_ | refine blk_alloc ?_ _)); exact BK476.out) hb); have n2_ := Aside0.mk (below_step bG hb); clear HO_4; clear BK476; clear HB; have HO_4 := n0_; have BK476 := n1_; have HB := n2_; clear n0_ n1_ n2_; (try clear hb); (try clear hb2); (try clear hk); (try clear hi); have p478 : 0 ≤ ((ji10) : Int) := of_decide_eq_true asA; have q478 : (ji10) < (x4_1.length : Int) := of_decide_eq_true asA; obtain ⟨ad478, e478, hx478_0, hx478_1⟩ := at_T35 (Kd.R_reads' HO_4.out).2.2 (ji10) p478 q478; cases e478; replace p478 := eq_true p478; replace q478 := eq_true q478; have hcz20_0 : w19.cell? ⟨gb476, 0, none⟩ = some (.int .i32 t472) := (blk_cell BK476.out 0).trans rfl; have hcz20_1 : w19.cell? ⟨gb476, 1, none⟩ = some (.int .u8 t473) := (blk_cell BK476.out 1).trans rfl; have hfz20_0 := blk_frozen BK476.out 0; have hfz20_1 := blk_frozen BK476.out 1) | ((with_reducible refine gate_builtin (b := .append) (xs := #[.tmp 40, .tmp 42]) rfl ?_); at_builtin; refine Kd.R_append k35 (w0 := w) w.heap.size rfl (.tmp 40) (.tmp 42) 27 35 (.agg #[(.int .i32 0), (.int .u8 0)]) 8 rfl Tryd.underlying27 info35 rfl (by decide) (by omega) (.slice (some ad478) x4_1.length co18) x4_1 (⟨t472, (rd_T35 x4_1 (ji10)).f1⟩ : S35) [.int .i32 t472, .int .u8 ((rd_T35 x4_1 (ji10)).f1)] (fun k_ => k_ ≠ gb476) (fun _ => False) rfl (by first | (go_simp; done) | (go_simp; rfl)) ?aP (fun _ hk => hk.elim) ?aF ?aO ?aB ?aS ?aL ?_; (case aP => exact k35_mkM _ _ _ (⟨t472, (rd_T35 x4_1 (ji10)).f1⟩ : S35)); (case aB => exact bG); (case aF => exact (fun k_ hk => Kd.freshB (g := gb476) (o := .cells #[.int .i32 t472, .int .u8 ((rd_T35 x4_1 (ji10)).f1)] 35 (0, 0)) (by (with_reducible repeat (first | refine blk_drewN ?_ _ | refine blk_drew ?_ | refine blk_alloc ?_ _)); refine blk_put (cs := #[.int .i32 t472, .int .u8 t473]) ?_ 1 _ rfl; (with_reducible repeat (first | refine blk_drewN ?_ _ | refine blk_drew ?_ | refine blk_alloc ?_ _)); exact BK476.out) k_ hk)); (case aO => exact (by (with_reducible repeat (first | apply Kd.R_alloc | apply Kd.R_drewN | apply Kd.R_drew)); exact Kd.R_mono (Kd.R_far (p := ⟨gb476, 1, none⟩) (Kd.R_mono HO_4.out (fun k_ hk => (⟨hk, hk.2⟩ : _ ∧ k_ ≠ gb476))) (fun _ hk => hk.2) (.int .u8 ((rd_T35 x4_1 (ji10)).f1))) (fun _ hk => hk.1.2))); (case aS => exact (below_size bG)); (case aL => have := LMc13.out; omega); intro v480 w21 ho hb hg hat; rw [← Ny479.out] at ho; have n0_ := Aside0.mk (blk_grown (g := gb476) (o := .cells #[.int .i32 t472, .int .u8 ((rd_T35 x4_1 (ji10)).f1)] 35 (0, 0)) (by (with_reducible repeat (first | refine blk_drewN ?_ _ | refine blk_drew ?_ | refine blk_alloc ?_ _)); refine blk_put (cs := #[.int .i32 t472, .int .u8 t473]) ?_ 1 _ rfl; (with_reducible repeat (first | refine blk_drewN ?_ _ | refine blk_drew ?_ | refine blk_alloc ?_ _)); exact BK476.out) hg (Kd.R_away HO_4.out (fun _ hk => hk.2))); have n1_ := Aside0.mk (hb); have n2_ := Aside0.mk (ho); clear BK476; clear HB; clear HO_4; have BK476 := n0_; have HB := n1_; have HO481 := n2_; clear n0_ n1_ n2_; clear ho hb hg hat))
            go_roundg k1
            case measure => have := HK1.out; omega
            case rel => exact ⟨(y479), (wrap64 (x5_1 + t474)), sA, H', ⟨by have := HK1.out; omega⟩, ⟨by (with_reducible repeat (first | apply Kd.R_alloc | apply Kd.R_drewN | apply Kd.R_drew)); exact Kd.R_mono HO481.out (fun _ hk => trivial)⟩, ⟨bG⟩⟩
           ·rw [if_neg c13] at H
            exact absurd H (by simp)
          ·rw [if_neg c12] at H
           exact absurd H (by simp)
         ·rw [if_neg c11] at H
          exact absurd H (by simp)
        ·rw [if_neg c9] at H
         have c9b0 : (t477 == 0) = false := beq_eq_false_iff_ne.mpr c9
         have c9b1 : (t477 != 0) = true := bne_iff_ne.mpr c9
         by_cases c22 : x4_1.length < 17592186044416
         ·rw [if_pos c22] at H
          have LMc22 := Aside0.mk c22
          clear c22
          obtain ⟨y482, hy482⟩ : ∃ y_ : List (S35), y_ = (x4_1 ++ [(⟨t472, t473⟩ : S35)]) := ⟨_, rfl⟩
          replace H : (flongref18_line.l0 k1 l0 y482 (wrap64 (x5_1 + t474))) = some (r1, r2) := hyA hy482 H
          have Ny482 := Aside0.mk hy482
          clear hy482
          have H' := Aside0.mk H
          clear H
          obtain ⟨i023, hi023, _, hsz23, _⟩ := info_parts info5
          obtain ⟨A23, hcut23, hA23, hC23⟩ := print_drop_of (P := Tryd.prog) (Value.int .u8) 0 25 5 .i64 Tryd.underlying25 hi023 hsz23 A0 c0 l0 x5_1 (of_decide_eq_true asA) (of_decide_eq_true asA) HC0.out
          have HR471 := Aside0.mk (Kd.C_of_reads (h1 := fun _ => rfl) (hA23 _ (Kd.reads_of_C HR0.out)))
          have HC471 := Aside0.mk hC23
          clear hA23 hC23 hi023 hsz23
          go_wp2_with (first | ((with_reducible refine gate_callee (f := 21) rfl ?_); refine goesL_ (some 17) rfl rfl Tryd.func21 (by kernel_rfl) rfl #[.slice A23 (l0.drop (x5_1 : Int).toNat).length (c0 - x5_1.toNat)] rfl (by (try simp only [List.map_toArray, List.map_cons, List.map_nil]); first | done | (rw [show (l0.drop (x5_1 : Int).toNat).length = (l0.length - x5_1.toNat) from List.length_drop] <;> rfl) | rfl | (simp only [List.length_drop, List.length_take]; rfl)) ?_; (with_reducible refine (flongref18_Take.calls k1 _ _ (l0.drop (x5_1 : Int).toNat) t472 t473 t474 t475 _ ?side1 ?side2 A5.out).mono ?_); (case side1 => repeat (first | exact (Kd.C_below HR471.out HB.out) | (with_reducible refine Kd.C_alloc ?_ _) | (with_reducible refine Kd.C_drewN ?_ _) | (with_reducible refine Kd.C_drew ?_))); (case side2 => exact HC471.out); rintro e w24 ⟨rfl, hb⟩; refine ⟨_, rfl, ?_⟩; replace HO_4 := Aside0.mk (Kd.R_below (kR HO_4) hb); replace HB := Aside0.mk (below_step bA hb); (try clear hb); (try clear hb2); (try clear hk); (try clear hi)) | ((with_reducible refine gate_dst (N := 6) rfl ?_); refine box_event ?hg (N := 6) ?hd (cs := #[.int .i32 0, .int .u8 0]) (t := 35) ?hr ?_; (case hd => rfl); (case hg => rfl); (case hr => first | (go_simp; done) | (go_simp; rfl)); intro gb476 hg w25 hbox hb; replace HO_4 := Aside0.mk (Kd.R_below (Kd.R_elderB (kR HO_4) gb476 (Nat.le_of_eq hg.symm)) hb); have BK476 := Aside0.mk (hbox); have GW476 := Aside0.mk ((geA hg : w.heap.size ≤ gb476)); have GE476 := Aside0.mk ((geA hg : w.heap.size ≤ gb476)); replace HB := Aside0.mk (below_step bA hb); clear hb hbox hg; have hcz26_0 : w25.cell? ⟨gb476, 0, none⟩ = some (.int .i32 0) := (blk_cell BK476.out 0).trans rfl; have hcz26_1 : w25.cell? ⟨gb476, 1, none⟩ = some (.int .u8 0) := (blk_cell BK476.out 1).trans rfl; have hfz26_0 := blk_frozen BK476.out 0; have hfz26_1 := blk_frozen BK476.out 1; obtain ⟨Ao27, co27, eo27⟩ := Kd.R_slice HO_4.out; subst eo27) | (go_at_call 31; (with_reducible refine (flongref02_Width.calls k1 t472 t477 _ A8.out).mono ?_); rintro e w28 ⟨rfl, hb⟩; have n0_ := Aside0.mk (Kd.R_below (by (with_reducible repeat (first | apply Kd.R_alloc | apply Kd.R_drewN | apply Kd.R_drew)); exact (Kd.R_mono (Kd.R_far (p := ⟨gb476, 1, none⟩) (Kd.R_far (p := ⟨gb476, 0, none⟩) (Kd.R_mono HO_4.out (fun k_ hk => (⟨hk, hk.2⟩ : _ ∧ k_ ≠ gb476))) (fun _ hk => hk.2) (.int .i32 t472)) (fun _ hk => hk.2) (.int .u8 t473)) (fun _ h_ => h_.1))) hb); have n1_ := Aside0.mk (blk_below (g := gb476) (o := .cells #[.int .i32 t472, .int .u8 t473] 35 (0, 0)) (by (with_reducible repeat (first | refine blk_drewN ?_ _ | refine blk_drew ?_ | refine blk_alloc ?_ _)); refine blk_put (cs := #[.int .i32 t472, .int .u8 0]) ?_ 1 _ rfl; (with_reducible repeat (first | refine blk_drewN ?_ _ | refine blk_drew ?_ | refine blk_alloc ?_ _)); refine blk_put (cs := #[.int .i32 0, .int .u8 0]) ?_ 0 _ rfl; (with_reducible repeat (first | refine blk_drewN ?_ _ | refine blk_drew ?_ | refine blk_alloc ?_ _)); exact BK476.out) hb); have n2_ := Aside0.mk (below_step bG hb); clear HO_4; clear BK476; clear HB; have HO_4 := n0_; have BK476 := n1_; have HB := n2_; clear n0_ n1_ n2_; (try clear hb); (try clear hb2); (try clear hk); (try clear hi); have hcz29_0 : w28.cell? ⟨gb476, 0, none⟩ = some (.int .i32 t472) := (blk_cell BK476.out 0).trans rfl; have hcz29_1 : w28.cell? ⟨gb476, 1, none⟩ = some (.int .u8 t473) := (blk_cell BK476.out 1).trans rfl; have hfz29_0 := blk_frozen BK476.out 0; have hfz29_1 := blk_frozen BK476.out 1) | ((with_reducible refine gate_builtin (b := .append) (xs := #[.tmp 40, .tmp 42]) rfl ?_); at_builtin; refine Kd.R_append k35 (w0 := w) w.heap.size rfl (.tmp 40) (.tmp 42) 27 35 (.agg #[(.int .i32 0), (.int .u8 0)]) 8 rfl Tryd.underlying27 info35 rfl (by decide) (by omega) (.slice Ao27 x4_1.length co27) x4_1 (⟨t472, t473⟩ : S35) [.int .i32 t472, .int .u8 t473] (fun k_ => k_ ≠ gb476) (fun _ => False) rfl rfl ?aP (fun _ hk => hk.elim) ?aF ?aO ?aB ?aS ?aL ?_; (case aP => exact k35_mkM _ _ _ (⟨t472, t473⟩ : S35)); (case aB => exact bG); (case aF => exact (fun k_ hk => Kd.freshB (g := gb476) (o := .cells #[.int .i32 t472, .int .u8 t473] 35 (0, 0)) (kB BK476) k_ hk)); (case aO => exact (by (with_reducible repeat (first | apply Kd.R_alloc | apply Kd.R_drewN | apply Kd.R_drew)); exact Kd.R_mono HO_4.out (fun _ hk => hk.2))); (case aS => exact (below_size bG)); (case aL => have := LMc22.out; omega); intro v483 w30 ho hb hg hat; rw [← Ny482.out] at ho; have n0_ := Aside0.mk (blk_grown (g := gb476) (o := .cells #[.int .i32 t472, .int .u8 t473] 35 (0, 0)) (kB BK476) hg (Kd.R_away HO_4.out (fun _ hk => hk.2))); have n1_ := Aside0.mk (hb); have n2_ := Aside0.mk (ho); clear BK476; clear HB; clear HO_4; have BK476 := n0_; have HB := n1_; have HO484 := n2_; clear n0_ n1_ n2_; clear ho hb hg hat))
          go_roundg k1
          case measure => have := HK1.out; omega
          case rel => exact ⟨(y482), (wrap64 (x5_1 + t474)), sA, H', ⟨by have := HK1.out; omega⟩, ⟨by (with_reducible repeat (first | apply Kd.R_alloc | apply Kd.R_drewN | apply Kd.R_drew)); exact Kd.R_mono HO484.out (fun _ hk => trivial)⟩, ⟨bG⟩⟩
         ·rw [if_neg c22] at H
          exact absurd H (by simp)
       ·rw [if_neg c7] at H
        have c7b0 : decide (0 < (x4_1.length : Int)) = false := decide_eq_false c7
        have c7b1 : decide (0 < x4_1.length) = false := decide_eq_false (by omega)
        clear c7
        by_cases c31 : x4_1.length < 17592186044416
        ·rw [if_pos c31] at H
         have LMc31 := Aside0.mk c31
         clear c31
         obtain ⟨y485, hy485⟩ : ∃ y_ : List (S35), y_ = (x4_1 ++ [(⟨t472, t473⟩ : S35)]) := ⟨_, rfl⟩
         replace H : (flongref18_line.l0 k1 l0 y485 (wrap64 (x5_1 + t474))) = some (r1, r2) := hyA hy485 H
         have Ny485 := Aside0.mk hy485
         clear hy485
         have H' := Aside0.mk H
         clear H
         obtain ⟨i032, hi032, _, hsz32, _⟩ := info_parts info5
         obtain ⟨A32, hcut32, hA32, hC32⟩ := print_drop_of (P := Tryd.prog) (Value.int .u8) 0 25 5 .i64 Tryd.underlying25 hi032 hsz32 A0 c0 l0 x5_1 (of_decide_eq_true asA) (of_decide_eq_true asA) HC0.out
         have HR471 := Aside0.mk (Kd.C_of_reads (h1 := fun _ => rfl) (hA32 _ (Kd.reads_of_C HR0.out)))
         have HC471 := Aside0.mk hC32
         clear hA32 hC32 hi032 hsz32
         go_wp2_with (first | ((with_reducible refine gate_callee (f := 21) rfl ?_); refine goesL_ (some 17) rfl rfl Tryd.func21 (by kernel_rfl) rfl #[.slice A32 (l0.drop (x5_1 : Int).toNat).length (c0 - x5_1.toNat)] rfl (by (try simp only [List.map_toArray, List.map_cons, List.map_nil]); first | done | (rw [show (l0.drop (x5_1 : Int).toNat).length = (l0.length - x5_1.toNat) from List.length_drop] <;> rfl) | rfl | (simp only [List.length_drop, List.length_take]; rfl)) ?_; (with_reducible refine (flongref18_Take.calls k1 _ _ (l0.drop (x5_1 : Int).toNat) t472 t473 t474 t475 _ ?side1 ?side2 A5.out).mono ?_); (case side1 => repeat (first | exact (Kd.C_below HR471.out HB.out) | (with_reducible refine Kd.C_alloc ?_ _) | (with_reducible refine Kd.C_drewN ?_ _) | (with_reducible refine Kd.C_drew ?_))); (case side2 => exact HC471.out); rintro e w33 ⟨rfl, hb⟩; refine ⟨_, rfl, ?_⟩; replace HO_4 := Aside0.mk (Kd.R_below (kR HO_4) hb); replace HB := Aside0.mk (below_step bA hb); (try clear hb); (try clear hb2); (try clear hk); (try clear hi)) | ((with_reducible refine gate_dst (N := 6) rfl ?_); refine box_event ?hg (N := 6) ?hd (cs := #[.int .i32 0, .int .u8 0]) (t := 35) ?hr ?_; (case hd => rfl); (case hg => rfl); (case hr => first | (go_simp; done) | (go_simp; rfl)); intro gb476 hg w34 hbox hb; replace HO_4 := Aside0.mk (Kd.R_below (Kd.R_elderB (kR HO_4) gb476 (Nat.le_of_eq hg.symm)) hb); have BK476 := Aside0.mk (hbox); have GW476 := Aside0.mk ((geA hg : w.heap.size ≤ gb476)); have GE476 := Aside0.mk ((geA hg : w.heap.size ≤ gb476)); replace HB := Aside0.mk (below_step bA hb); clear hb hbox hg; have hcz35_0 : w34.cell? ⟨gb476, 0, none⟩ = some (.int .i32 0) := (blk_cell BK476.out 0).trans rfl; have hcz35_1 : w34.cell? ⟨gb476, 1, none⟩ = some (.int .u8 0) := (blk_cell BK476.out 1).trans rfl; have hfz35_0 := blk_frozen BK476.out 0; have hfz35_1 := blk_frozen BK476.out 1; obtain ⟨Ao36, co36, eo36⟩ := Kd.R_slice HO_4.out; subst eo36) | ((with_reducible refine gate_builtin (b := .append) (xs := #[.tmp 40, .tmp 42]) rfl ?_); at_builtin; refine Kd.R_append k35 (w0 := w) w.heap.size rfl (.tmp 40) (.tmp 42) 27 35 (.agg #[(.int .i32 0), (.int .u8 0)]) 8 rfl Tryd.underlying27 info35 rfl (by decide) (by omega) (.slice Ao36 x4_1.length co36) x4_1 (⟨t472, t473⟩ : S35) [.int .i32 t472, .int .u8 t473] (fun k_ => k_ ≠ gb476) (fun _ => False) rfl (by first | (go_simp; done) | (go_simp; rfl)) ?aP (fun _ hk => hk.elim) ?aF ?aO ?aB ?aS ?aL ?_; (case aP => exact k35_mkM _ _ _ (⟨t472, t473⟩ : S35)); (case aB => exact bG); (case aF => exact (fun k_ hk => Kd.freshB (g := gb476) (o := .cells #[.int .i32 t472, .int .u8 t473] 35 (0, 0)) (by (with_reducible repeat (first | refine blk_drewN ?_ _ | refine blk_drew ?_ | refine blk_alloc ?_ _)); refine blk_put (cs := #[.int .i32 t472, .int .u8 0]) ?_ 1 _ rfl; (with_reducible repeat (first | refine blk_drewN ?_ _ | refine blk_drew ?_ | refine blk_alloc ?_ _)); refine blk_put (cs := #[.int .i32 0, .int .u8 0]) ?_ 0 _ rfl; (with_reducible repeat (first | refine blk_drewN ?_ _ | refine blk_drew ?_ | refine blk_alloc ?_ _)); exact BK476.out) k_ hk)); (case aO => exact (by (with_reducible repeat (first | apply Kd.R_alloc | apply Kd.R_drewN | apply Kd.R_drew)); exact Kd.R_mono (Kd.R_far (p := ⟨gb476, 1, none⟩) (Kd.R_far (p := ⟨gb476, 0, none⟩) (Kd.R_mono HO_4.out (fun k_ hk => (⟨hk, hk.2⟩ : _ ∧ k_ ≠ gb476))) (fun _ hk => hk.2) (.int .i32 t472)) (fun _ hk => hk.2) (.int .u8 t473)) (fun _ hk => hk.1.2))); (case aS => exact (below_size bG)); (case aL => have := LMc31.out; omega); intro v486 w37 ho hb hg hat; rw [← Ny485.out] at ho; have n0_ := Aside0.mk (blk_grown (g := gb476) (o := .cells #[.int .i32 t472, .int .u8 t473] 35 (0, 0)) (by (with_reducible repeat (first | refine blk_drewN ?_ _ | refine blk_drew ?_ | refine blk_alloc ?_ _)); refine blk_put (cs := #[.int .i32 t472, .int .u8 0]) ?_ 1 _ rfl; (with_reducible repeat (first | refine blk_drewN ?_ _ | refine blk_drew ?_ | refine blk_alloc ?_ _)); refine blk_put (cs := #[.int .i32 0, .int .u8 0]) ?_ 0 _ rfl; (with_reducible repeat (first | refine blk_drewN ?_ _ | refine blk_drew ?_ | refine blk_alloc ?_ _)); exact BK476.out) hg (Kd.R_away HO_4.out (fun _ hk => hk.2))); have n1_ := Aside0.mk (hb); have n2_ := Aside0.mk (ho); clear BK476; clear HB; clear HO_4; have BK476 := n0_; have HB := n1_; have HO487 := n2_; clear n0_ n1_ n2_; clear ho hb hg hat))
         go_roundg k1
         case measure => have := HK1.out; omega
         case rel => exact ⟨(y485), (wrap64 (x5_1 + t474)), sA, H', ⟨by have := HK1.out; omega⟩, ⟨by (with_reducible repeat (first | apply Kd.R_alloc | apply Kd.R_drewN | apply Kd.R_drew)); exact Kd.R_mono HO487.out (fun _ hk => trivial)⟩, ⟨bG⟩⟩
        ·rw [if_neg c31] at H
         exact absurd H (by simp)
      ·rw [if_neg c6] at H
       have c6b0 : (t475 == 0) = false := beq_eq_false_iff_ne.mpr c6
       have c6b1 : (t475 != 0) = true := bne_iff_ne.mpr c6
       simp only [Option.some.injEq, Prod.mk.injEq] at H
       obtain ⟨rfl, rfl⟩ := H
       obtain ⟨i038, hi038, _, hsz38, _⟩ := info_parts info5
       obtain ⟨A38, hcut38, hA38, hC38⟩ := print_drop_of (P := Tryd.prog) (Value.int .u8) 0 25 5 .i64 Tryd.underlying25 hi038 hsz38 A0 c0 l0 x5_1 (of_decide_eq_true asA) (of_decide_eq_true asA) HC0.out
       have HR471 := Aside0.mk (Kd.C_of_reads (h1 := fun _ => rfl) (hA38 _ (Kd.reads_of_C HR0.out)))
       have HC471 := Aside0.mk hC38
       clear hA38 hC38 hi038 hsz38
       go_wp2_with (first | ((with_reducible refine gate_callee (f := 21) rfl ?_); refine goesL_ (some 17) rfl rfl Tryd.func21 (by kernel_rfl) rfl #[.slice A38 (l0.drop (x5_1 : Int).toNat).length (c0 - x5_1.toNat)] rfl (by (try simp only [List.map_toArray, List.map_cons, List.map_nil]); first | done | (rw [show (l0.drop (x5_1 : Int).toNat).length = (l0.length - x5_1.toNat) from List.length_drop] <;> rfl) | rfl | (simp only [List.length_drop, List.length_take]; rfl)) ?_; (with_reducible refine (flongref18_Take.calls k1 _ _ (l0.drop (x5_1 : Int).toNat) t472 t473 t474 t475 _ ?side1 ?side2 A5.out).mono ?_); (case side1 => repeat (first | exact (Kd.C_below HR471.out HB.out) | (with_reducible refine Kd.C_alloc ?_ _) | (with_reducible refine Kd.C_drewN ?_ _) | (with_reducible refine Kd.C_drew ?_))); (case side2 => exact HC471.out); rintro e w39 ⟨rfl, hb⟩; refine ⟨_, rfl, ?_⟩; replace HO_4 := Aside0.mk (Kd.R_below (kR HO_4) hb); replace HB := Aside0.mk (below_step bA hb); (try clear hb); (try clear hb2); (try clear hk); (try clear hi)) | ((with_reducible refine gate_dst (N := 6) rfl ?_); refine box_event ?hg (N := 6) ?hd (cs := #[.int .i32 0, .int .u8 0]) (t := 35) ?hr ?_; (case hd => rfl); (case hg => rfl); (case hr => first | (go_simp; done) | (go_simp; rfl)); intro gb476 hg w40 hbox hb; replace HO_4 := Aside0.mk (Kd.R_below (Kd.R_elderB (kR HO_4) gb476 (Nat.le_of_eq hg.symm)) hb); have BK476 := Aside0.mk (hbox); have GW476 := Aside0.mk ((geA hg : w.heap.size ≤ gb476)); have GE476 := Aside0.mk ((geA hg : w.heap.size ≤ gb476)); replace HB := Aside0.mk (below_step bA hb); clear hb hbox hg; have hcz41_0 : w40.cell? ⟨gb476, 0, none⟩ = some (.int .i32 0) := (blk_cell BK476.out 0).trans rfl; have hcz41_1 : w40.cell? ⟨gb476, 1, none⟩ = some (.int .u8 0) := (blk_cell BK476.out 1).trans rfl; have hfz41_0 := blk_frozen BK476.out 0; have hfz41_1 := blk_frozen BK476.out 1))
       go_ret2
       exact ⟨_, eW, by first | exact Kd.R_nil _ _ _ _ _ | exact Kd.N_nil _ _ _ _ _ | exact Kd.V_nil _ _ _ _ _ | exact Kd.Q_nil _ _ _ _ _ | exact Kd.S_nil _ _ _ _ _, bG⟩
     ·rw [if_neg c4] at H
      exact absurd H (by simp)
    ·rw [if_neg c3] at H
     exact absurd H (by simp)
   ·rw [if_neg c2] at H
    have c2b0 : decide (x5_1 < (l0.length : Int)) = false := decide_eq_false c2
    clear c2
    replace H := Option.bind_eq_some_iff.mp H
    obtain ⟨t468, A420, H⟩ := H
    replace H : (some (x4_1, ((strOfNums t468).toList == (strOfNums l0).toList))) = some (r1, r2) := H
    have A42 := Aside0.mk A420
    clear A420
    simp only [Option.some.injEq, Prod.mk.injEq] at H
    obtain ⟨rfl, rfl⟩ := H
    obtain ⟨Ao43, co43, eo43⟩ := Kd.R_slice HO_4.out
    subst eo43
    try go_wp2
    have n0_ := Aside0.mk (Kd.R_drew HO_4.out)
    have n1_ := Aside0.mk (below_drew1 HB.out)
    clear HO_4
    clear HB
    have HO_4 := n0_
    have HB := n1_
    clear n0_ n1_
    refine start_ (n := 9) (S := fun w' => (convert 25 9 (.slice A0 l0.length c0)).run Tryd.prog w' = .ok (.string (strOfNums l0)) w') (ds := []) #[false, false, false, false, false, false, false, false, false] (by kernel_rfl) rfl rfl ((Kd.C_string (P := Tryd.prog) (A := A0) (c := c0) Tryd.underlying25 Tryd.underlying5 Tryd.underlying9 (Kd.C_below HR0.out bA))) (fun hHeld => ?_); refine with_tabW flongref18_line.tab11 flongref18_line.bits11 (fun HT_ HW_ => ?_)
    generalize wr.drew = w44 at HO_4 HB hHeld ⊢
    refine pure_ (i := 0) (N := some 47) (v := ?_) (a' := ?_) #[true, false, false, false, false, false, false, false, false] rfl rfl (any_of HT_.out (by kernel_rfl)) (fun _ _ _ h => h) (Or.inl ⟨by rfl, ?_⟩) ?_ ?_
    rotate_left
    ·intro w'
     go_simp
     with_reducible rfl
    rotate_left
    ·simp only [Act.put, List.setIfInBounds_toArray, List.set_cons_zero, List.set_cons_succ, i64_w, i32_w]
     rfl
    refine pure_ (i := 1) (N := some 48) (v := ?_) (a' := ?_) #[true, true, false, false, false, false, false, false, false] rfl rfl (any_of HT_.out (by kernel_rfl)) (fun _ _ _ h => h) (Or.inl ⟨by rfl, ?_⟩) ?_ ?_
    rotate_left
    ·intro w'
     go_simp
     with_reducible rfl
    rotate_left
    ·simp only [Act.put, List.setIfInBounds_toArray, List.set_cons_zero, List.set_cons_succ, i64_w, i32_w]
     rfl
    refine pure_ (i := 4) (N := some 51) (v := ?_) (a' := ?_) #[true, true, false, false, true, false, false, false, false] rfl rfl (any_of HT_.out (by kernel_rfl)) (fun _ _ _ h => h) (Or.inl ⟨by rfl, ?_⟩) ?_ ?_
    rotate_left
    ·intro w'
     go_simp
     with_reducible rfl
    rotate_left
    ·simp only [Act.put, List.setIfInBounds_toArray, List.set_cons_zero, List.set_cons_succ, i64_w, i32_w]
     rfl
    refine take_ (i := 5) (N := some 52) (v := ?_) (a' := ?_) #[true, true, false, false, true, true, false, false, false] rfl rfl (take_ofW HT_.out HW_.out (by kernel_rfl)) (fun _ _ _ h => h) (Or.inl ⟨by rfl, ?_⟩) hHeld ?_ ?_
    rotate_left
    ·intro w' s0
     go_simp
     with_reducible rfl
    rotate_left
    ·simp only [Act.put, List.setIfInBounds_toArray, List.set_cons_zero, List.set_cons_succ, i64_w, i32_w]
     rfl
    refine one_ (i := 2) (N := some 49) #[true, true, true, false, true, true, false, false, false] rfl rfl (one_of HT_.out (by kernel_rfl)) (by decide) (fun K hK => ?_)
    refine goes_ Tryd.func17 (by kernel_rfl) rfl #[.slice Ao43 x4_1.length co43] (by rfl) rfl rfl aP ?_
    with_reducible refine (flongref18_Row.calls k1 _ _ x4_1 t468 _ ?side1 ?side2 A42.out).mono ?_
    (case side1 => repeat (first | exact (Kd.R_reads' HO_4.out).2.2 | (with_reducible refine Kd.C_alloc ?_ _) | (with_reducible refine Kd.C_drewN ?_ _) | (with_reducible refine Kd.C_drew ?_)))
    (case side2 => exact (Kd.R_reads' HO_4.out).2.1)
    rintro e w45 ⟨v469, rfl, ho0, hb⟩
    refine ⟨_, rfl, ?_⟩
    have n0_ := Aside0.mk (Kd.R_below (kR HO_4) hb)
    have n1_ := Aside0.mk (Kd.R_lower ho0 (below_size bA))
    have n2_ := Aside0.mk (below_step bA hb)
    clear HO_4
    clear HB
    have HO_4 := n0_
    have HO470 := n1_
    have HB := n2_
    clear n0_ n1_ n2_
    (try clear hb)
    (try clear hb2)
    (try clear hk)
    (try clear hi)
    (try clear ho0)
    refine hK.out _ _ ((Kd.C_string (P := Tryd.prog) (A := A0) (c := c0) Tryd.underlying25 Tryd.underlying5 Tryd.underlying9 (Kd.C_below HR0.out bA))) (fun hHeld => ?_)
    clear hK K
    refine norm_ (a' := ?_) ?_ ?_
    rotate_left
    ·show Act.put _ (some 49) _ = _
     simp only [Act.put, List.setIfInBounds_toArray, List.set_cons_zero, List.set_cons_succ, i64_w, i32_w]
     rfl
    refine pure_ (i := 7) (N := some 2) (v := ?_) (a' := ?_) #[true, true, true, false, true, true, false, true, false] rfl rfl (any_of HT_.out (by kernel_rfl)) (fun _ _ _ h => h) (Or.inl ⟨by rfl, ?_⟩) ?_ ?_
    rotate_left
    ·intro w'
     go_simp
     with_reducible rfl
    rotate_left
    ·simp only [Act.put, List.setIfInBounds_toArray, List.set_cons_zero, List.set_cons_succ, i64_w, i32_w]
     rfl
    refine one_ (i := 3) (N := some 50) #[true, true, true, true, true, true, false, true, false] rfl rfl (one_of HT_.out (by kernel_rfl)) (by decide) (fun K hK => ?_)
    have hcv46 := own_string (P := Tryd.prog) Tryd.underlying25 Tryd.underlying5 Tryd.underlying9 (Kd.own_of_R HO470.out)
    refine value_ (w1 := ?_) (v := ?_) (by rfl) rfl ?_ ?_
    rotate_left 2
    ·go_simp
     constructor
     ·rfl
     ·rfl
    clear hcv46
    refine hK.out _ _ ((Kd.C_string (P := Tryd.prog) (A := A0) (c := c0) Tryd.underlying25 Tryd.underlying5 Tryd.underlying9 (Kd.C_below HR0.out bA))) (fun hHeld => ?_)
    clear hK K
    refine norm_ (a' := ?_) ?_ ?_
    rotate_left
    ·show Act.put _ (some 50) _ = _
     simp only [Act.put, List.setIfInBounds_toArray, List.set_cons_zero, List.set_cons_succ, i64_w, i32_w]
     rfl
    refine pure_ (i := 6) (N := some 53) (v := ?_) (a' := ?_) #[true, true, true, true, true, true, true, true, false] rfl rfl (any_of HT_.out (by kernel_rfl)) (fun _ _ _ h => h) (Or.inl ⟨by rfl, ?_⟩) ?_ ?_
    rotate_left
    ·intro w'
     go_simp
     with_reducible rfl
    rotate_left
    ·simp only [Act.put, List.setIfInBounds_toArray, List.set_cons_zero, List.set_cons_succ, i64_w, i32_w]
     rfl
    refine pure_ (i := 8) (N := some 3) (v := ?_) (a' := ?_) #[true, true, true, true, true, true, true, true, true] rfl rfl (any_of HT_.out (by kernel_rfl)) (fun _ _ _ h => h) (Or.inl ⟨by rfl, ?_⟩) ?_ ?_
    rotate_left
    ·intro w'
     go_simp
     with_reducible rfl
    rotate_left
    ·simp only [Act.put, List.setIfInBounds_toArray, List.set_cons_zero, List.set_cons_succ, i64_w, i32_w]
     rfl
    refine done_ (done_of HT_.out (by kernel_rfl)) ?_
    try go_wp2
    go_ret2
    exact ⟨_, eW, kR HO_4, bA⟩

/-! ### flongref18_Read: function 19 -/
def flongref18_Read.l0 : Nat → List Int → List (List (S35)) → Int → Int → Option ((List (List (S35))) × Int)
 | 0, _, _, _, _ => none
 | k + 1, x0, x4, x5, x6 => if x6 < (x0.length : Int) then (if 0 ≤ x6 then (if (rd x0 x6) = 10 then (if 0 ≤ x5 then (if x5 ≤ x6 then (if x6 ≤ (x0.length : Int) then ((flongref18_line.f k ((x0.take (x6 : Int).toNat).drop (x5 : Int).toNat)).bind fun bt490 => (if bt490.2 = true then (if x4.length < 5864062014805 then (flongref18_Read.l0 k x0 (x4 ++ [bt490.1]) (wrap64 (x6 + 1)) (wrap64 (x6 + 1))) else (none)) else (some (([] : List (List (S35))), 5)))) else (none)) else (none)) else (none)) else (flongref18_Read.l0 k x0 x4 x5 (wrap64 (x6 + 1)))) else (none)) else (if x5 < (x0.length : Int) then (some (([] : List (List (S35))), 5)) else (some (x4, 0)))
def flongref18_Read.f (k : Nat) (l0 : List Int) : Option ((List (List (S35))) × Int) := flongref18_Read.l0 k l0 ([] : List (List (S35))) 0 0
theorem flongref18_Read.mono_l : ∀ k, (∀ y0 y1 y2 y3, LeO (flongref18_Read.l0 k y0 y1 y2 y3) (flongref18_Read.l0 (k + 1) y0 y1 y2 y3))
 | 0 => fun _ _ _ _ r h => by simp [flongref18_Read.l0] at h
 | k + 1 => by
  have ih0 := flongref18_Read.mono_l k
  ·intro y0 y1 y2 y3
   unfold flongref18_Read.l0
   repeat' first
   | (with_reducible exact ih0 _ _ _ _)
   | (with_reducible exact flongref18_line.mono _ _)
   | (with_reducible exact LeO.refl _)
   | (with_reducible exact LeO.none _)
   | (with_reducible refine LeO.ite ?_ ?_)
   | (with_reducible refine LeO.bind ?_ (fun _ => ?_))
theorem flongref18_Read.mono : ∀ a0 k, LeO (flongref18_Read.f k a0) (flongref18_Read.f (k + 1) a0) := by
 intro a0 k
 have ih0 := flongref18_Read.mono_l k
 unfold flongref18_Read.f
 repeat' first
   | (with_reducible exact ih0 _ _ _ _)
   | (with_reducible exact flongref18_line.mono _ _)
   | (with_reducible exact LeO.refl _)
   | (with_reducible exact LeO.none _)
   | (with_reducible refine LeO.ite ?_ ?_)
   | (with_reducible refine LeO.bind ?_ (fun _ => ?_))
theorem flongref18_Read.calls (k : Nat) (A0 : Option Addr) (c0 : Nat) (l0 : List Int) (r1 : List (List (S35))) (r2 : Int) (w : World) (hr0 : Kd.C (Kd.int .u8) w A0 l0.length l0) (hc0 : l0.length ≤ c0) (h : flongref18_Read.f k l0 = some (r1, r2)) :
  Calls Tryd.prog 19 #[.slice A0 l0.length c0] w fun e w' => ∃ v0_ : Value, e = .returned (.tuple #[v0_, .int .i64 r2]) ∧ Kd.S (Kd.slice 35 k35) 27 w' w.heap.size (fun _ => True) v0_ r1 ∧ Below w.heap.size w w' := by
 have HR0 := Aside0.mk hr0
 have HC0 := Aside0.mk hc0
 clear hr0 hc0
 have HB := Aside0.mk (Below.refl w.heap.size w)
 have H : (flongref18_Read.l0 k l0 ([] : List (List (S35))) 0 0) = some (r1, r2) := h
 clear h
 have H' := Aside0.mk H
 clear H
 go_enter Tryd.func19, Tryd.ntmps19
 go_wp2
 go_loopg [4, 5, 6] k (fun kq v4 v5 v6 w' => ∃ (x4_1 : List (List (S35))) (x5_1 : Int) (x6_1 : Int), v5 = .int .i64 x5_1 ∧ v6 = .int .i64 x6_1 ∧ Aside0 (flongref18_Read.l0 kq l0 x4_1 x5_1 x6_1 = some (r1, r2)) ∧ Aside0 (kq ≤ k) ∧ Aside0 (Kd.S (Kd.slice 35 k35) 27 w' w.heap.size (fun _ => True) v4 x4_1) ∧ Aside0 (Below w.heap.size w w'))
 case atStart => exact ⟨(([] : List (List (S35)))), (0), (0), sA, sA, H', ⟨Nat.le_refl _⟩, ⟨by first | exact Kd.S_nil _ _ _ _ _ | exact Kd.N_nil _ _ _ _ _ | exact Kd.V_nil _ _ _ _ _ | exact Kd.Q_nil _ _ _ _ _ | exact Kd.R_nil _ _ _ _ _⟩, ⟨bA⟩⟩
 case round =>
  clear H'
  try clear c1
  obtain ⟨x4_1, x5_1, x6_1, rfl, rfl, HA, HK1, HO_4, HB⟩ := hrel
  cases gk with
  | zero => exact absurd HA.out (by simp [flongref18_Read.l0])
  | succ k1 =>
   have H := HA.out
   clear HA
   simp only [flongref18_Read.l0] at H
   by_cases c2 : x6_1 < (l0.length : Int)
   ·rw [if_pos c2] at H
    have c2b0 : decide (x6_1 < (l0.length : Int)) = true := decide_eq_true c2
    clear c2
    by_cases c3 : 0 ≤ x6_1
    ·rw [if_pos c3] at H
     have c3b0 : decide (0 ≤ x6_1) = true := decide_eq_true c3
     clear c3
     by_cases c4 : (rd l0 x6_1) = 10
     ·rw [if_pos c4] at H
      have c4b0 : ((rd l0 x6_1) == 10) = true := beq_iff_eq.mpr c4
      have c4b1 : ((rd l0 x6_1) != 10) = false := bne_eq_false_iff_eq.mpr c4
      clear c4
      by_cases c5 : 0 ≤ x5_1
      ·rw [if_pos c5] at H
       have c5b0 := eq_true c5
       have c5b1 : decide (0 ≤ x5_1) = true := decide_eq_true c5
       clear c5
       by_cases c6 : x5_1 ≤ x6_1
       ·rw [if_pos c6] at H
        have c6b0 := eq_true c6
        have c6b1 : decide (x5_1 ≤ x6_1) = true := decide_eq_true c6
        clear c6
        by_cases c7 : x6_1 ≤ (l0.length : Int)
        ·rw [if_pos c7] at H
         have c7b0 := eq_true c7
         have c7b1 : decide (x6_1 ≤ (l0.length : Int)) = true := decide_eq_true c7
         clear c7
         replace H := Option.bind_eq_some_iff.mp H
         obtain ⟨⟨t490, t491⟩, A80, H⟩ := H
         replace H : (if t491 = true then (if x4_1.length < 5864062014805 then (flongref18_Read.l0 k1 l0 (x4_1 ++ [t490]) (wrap64 (x6_1 + 1)) (wrap64 (x6_1 + 1))) else (none)) else (some (([] : List (List (S35))), 5))) = some (r1, r2) := H
         have A8 := Aside0.mk A80
         clear A80
         by_cases c9 : t491 = true
         ·subst c9
          have H1 : (if x4_1.length < 5864062014805 then (flongref18_Read.l0 k1 l0 (x4_1 ++ [t490]) (wrap64 (x6_1 + 1)) (wrap64 (x6_1 + 1))) else (none)) = some (r1, r2) := by rw [if_pos rfl] at H; exact H
          clear H
          have H := H1
          clear H1
          by_cases c10 : x4_1.length < 5864062014805
          ·rw [if_pos c10] at H
           have LMc10 := Aside0.mk c10
           clear c10
           obtain ⟨y494, hy494⟩ : ∃ y_ : List (List (S35)), y_ = (x4_1 ++ [t490]) := ⟨_, rfl⟩
           replace H : (flongref18_Read.l0 k1 l0 y494 (wrap64 (x6_1 + 1)) (wrap64 (x6_1 + 1))) = some (r1, r2) := hyA hy494 H
           have Ny494 := Aside0.mk hy494
           clear hy494
           have H' := Aside0.mk H
           clear H
           have p488 : 0 ≤ (x6_1 : Int) := of_decide_eq_true asA
           have q488 : x6_1 < (l0.length : Int) := of_decide_eq_true asA
           obtain ⟨ad488, e488, hx488_0⟩ := Kd.at_int HR0.out x6_1 p488 q488
           cases e488
           replace hx488_0 := (HB.out.cell (World.block_lt_of_cell? w _ hx488_0)).trans hx488_0
           replace p488 := eq_true p488
           replace q488 := eq_true q488
           obtain ⟨i011, hi011, _, hsz11, _⟩ := info_parts info5
           obtain ⟨A11, hcut11, hA11, hC11⟩ := print_mid_of (P := Tryd.prog) (Value.int .u8) 0 25 5 .i64 .i64 Tryd.underlying25 hi011 hsz11 (some ad488) c0 l0 x5_1 x6_1 (of_decide_eq_true asA) (by first | omega | exact of_decide_eq_true asA) (of_decide_eq_true asA) HC0.out
           have HR489 := Aside0.mk (Kd.C_of_reads (h1 := fun _ => rfl) (hA11 _ (Kd.reads_of_C HR0.out)))
           have HC489 := Aside0.mk hC11
           clear hA11 hC11 hi011 hsz11
           go_wp2_with (first | ((with_reducible refine gate_callee (f := 44) rfl ?_); refine goesL_ (some 25) rfl rfl Tryd.func44 (by kernel_rfl) rfl #[.slice A11 ((l0.take (x6_1 : Int).toNat).drop (x5_1 : Int).toNat).length (c0 - x5_1.toNat)] rfl (by (try simp only [List.map_toArray, List.map_cons, List.map_nil]); first | done | (rw [show ((l0.take (x6_1 : Int).toNat).drop (x5_1 : Int).toNat).length = (x6_1.toNat - x5_1.toNat) from (by rw [List.length_drop, List.length_take]; have h_ : (x6_1 : Int) ≤ (l0.length : Int) := of_decide_eq_true asA; omega)] <;> rfl) | rfl | (simp only [List.length_drop, List.length_take]; rfl)) ?_; (with_reducible refine (flongref18_line.calls k1 _ _ ((l0.take (x6_1 : Int).toNat).drop (x5_1 : Int).toNat) t490 true _ ?side1 ?side2 A8.out).mono ?_); (case side1 => repeat (first | exact (Kd.C_below HR489.out HB.out) | (with_reducible refine Kd.C_alloc ?_ _) | (with_reducible refine Kd.C_drewN ?_ _) | (with_reducible refine Kd.C_drew ?_))); (case side2 => exact HC489.out); rintro e w12 ⟨v492, rfl, ho0, hb⟩; refine ⟨_, rfl, ?_⟩; replace HO_4 := Aside0.mk (Kd.S_elder' (kS HO_4) (Kd.R_base ho0) hb); have HO493 := Aside0.mk (Kd.R_lower ho0 (below_size bA)); replace HB := Aside0.mk (below_step bA hb); (try clear hb); (try clear hb2); (try clear hk); (try clear hi); (try clear ho0); obtain ⟨Ao14, co14, eo14⟩ := Kd.R_slice HO493.out; subst eo14) | ((with_reducible refine gate_builtin (b := .append) (xs := #[.tmp 30, .tmp 32]) rfl ?_); at_builtin; refine Kd.S_append (Kd.slice 35 k35) (w0 := w) w.heap.size rfl (.tmp 30) (.tmp 32) 39 27 (.slice none 0 0) 24 rfl Tryd.underlying39 info27 rfl (by decide) (by omega) u4 x4_1 t490 [.slice Ao14 t490.length co14] (fun _ => True) (fun k_ => some k_ = (.slice Ao14 t490.length co14 : Value).ownBlock) rfl rfl ?aP (fun k_ hk_ => ((Kd.R_mono (ok' := fun k_ => ((fun _ => True)) k_ ∧ some k_ ≠ (u4 : Value).ownBlock) (Kd.R_apart' (HO493.out) (Kd.S_typed HO_4.out) (by decide)) (fun k_ hk => ⟨trivial, hk.2⟩))).1 k_ hk_.symm) ?aF ?aO ?aB ?aS ?aL ?_; (case aP => exact Kd.M_row (Kd.R_mono (Kd.R_tight rfl (Kd.R_mono (ok' := fun k_ => ((fun _ => True)) k_ ∧ some k_ ≠ (u4 : Value).ownBlock) (Kd.R_apart' (HO493.out) (Kd.S_typed HO_4.out) (by decide)) (fun k_ hk => ⟨trivial, hk.2⟩))) (fun _ h_ => h_))); (case aB => exact bA); (case aF => exact (fun _ _ => trivial)); (case aO => exact (by (with_reducible repeat (first | apply Kd.S_alloc | apply Kd.S_drewN | apply Kd.S_drew)); exact Kd.S_mono HO_4.out (fun k_ hk => ⟨trivial, fun e_ => hk.2 e_⟩))); (case aS => exact (below_size bA)); (case aL => have := LMc10.out; omega); intro v495 w13 ho hb hg hat; rw [← Ny494.out] at ho; have n0_ := Aside0.mk (hb); have n1_ := Aside0.mk (ho); clear HB; clear HO_4; clear HO493; have HB := n0_; have HO496 := n1_; clear n0_ n1_; clear ho hb hg hat))
           go_roundg k1
           case measure => have := HK1.out; omega
           case rel => exact ⟨(y494), (wrap64 (x6_1 + 1)), (wrap64 (x6_1 + 1)), sA, sA, H', ⟨by have := HK1.out; omega⟩, ⟨kS HO496⟩, ⟨bA⟩⟩
          ·rw [if_neg c10] at H
           exact absurd H (by simp)
         ·replace c9 := Bool.eq_false_iff.mpr c9
          subst c9
          have H1 : (some (([] : List (List (S35))), 5)) = some (r1, r2) := by rw [if_neg (show ¬ (false = true) by decide)] at H; exact H
          clear H
          have H := H1
          clear H1
          simp only [Option.some.injEq, Prod.mk.injEq] at H
          obtain ⟨rfl, rfl⟩ := H
          have p488 : 0 ≤ (x6_1 : Int) := of_decide_eq_true asA
          have q488 : x6_1 < (l0.length : Int) := of_decide_eq_true asA
          obtain ⟨ad488, e488, hx488_0⟩ := Kd.at_int HR0.out x6_1 p488 q488
          cases e488
          replace hx488_0 := (HB.out.cell (World.block_lt_of_cell? w _ hx488_0)).trans hx488_0
          replace p488 := eq_true p488
          replace q488 := eq_true q488
          obtain ⟨i015, hi015, _, hsz15, _⟩ := info_parts info5
          obtain ⟨A15, hcut15, hA15, hC15⟩ := print_mid_of (P := Tryd.prog) (Value.int .u8) 0 25 5 .i64 .i64 Tryd.underlying25 hi015 hsz15 (some ad488) c0 l0 x5_1 x6_1 (of_decide_eq_true asA) (by first | omega | exact of_decide_eq_true asA) (of_decide_eq_true asA) HC0.out
          have HR489 := Aside0.mk (Kd.C_of_reads (h1 := fun _ => rfl) (hA15 _ (Kd.reads_of_C HR0.out)))
          have HC489 := Aside0.mk hC15
          clear hA15 hC15 hi015 hsz15
          go_wp2_with (first | ((with_reducible refine gate_callee (f := 44) rfl ?_); refine goesL_ (some 25) rfl rfl Tryd.func44 (by kernel_rfl) rfl #[.slice A15 ((l0.take (x6_1 : Int).toNat).drop (x5_1 : Int).toNat).length (c0 - x5_1.toNat)] rfl (by (try simp only [List.map_toArray, List.map_cons, List.map_nil]); first | done | (rw [show ((l0.take (x6_1 : Int).toNat).drop (x5_1 : Int).toNat).length = (x6_1.toNat - x5_1.toNat) from (by rw [List.length_drop, List.length_take]; have h_ : (x6_1 : Int) ≤ (l0.length : Int) := of_decide_eq_true asA; omega)] <;> rfl) | rfl | (simp only [List.length_drop, List.length_take]; rfl)) ?_; (with_reducible refine (flongref18_line.calls k1 _ _ ((l0.take (x6_1 : Int).toNat).drop (x5_1 : Int).toNat) t490 false _ ?side1 ?side2 A8.out).mono ?_); (case side1 => repeat (first | exact (Kd.C_below HR489.out HB.out) | (with_reducible refine Kd.C_alloc ?_ _) | (with_reducible refine Kd.C_drewN ?_ _) | (with_reducible refine Kd.C_drew ?_))); (case side2 => exact HC489.out); rintro e w16 ⟨v492, rfl, ho0, hb⟩; refine ⟨_, rfl, ?_⟩; replace HO_4 := Aside0.mk (Kd.S_elder' (kS HO_4) (Kd.R_base ho0) hb); have HO493 := Aside0.mk (Kd.R_lower ho0 (below_size bA)); replace HB := Aside0.mk (below_step bA hb); (try clear hb); (try clear hb2); (try clear hk); (try clear hi); (try clear ho0)))
          go_ret2
          exact ⟨_, eW, by first | exact Kd.S_nil _ _ _ _ _ | exact Kd.N_nil _ _ _ _ _ | exact Kd.V_nil _ _ _ _ _ | exact Kd.Q_nil _ _ _ _ _ | exact Kd.R_nil _ _ _ _ _, bA⟩
        ·rw [if_neg c7] at H
         exact absurd H (by simp)
       ·rw [if_neg c6] at H
        exact absurd H (by simp)
      ·rw [if_neg c5] at H
       exact absurd H (by simp)
     ·rw [if_neg c4] at H
      have c4b0 : ((rd l0 x6_1) == 10) = false := beq_eq_false_iff_ne.mpr c4
      have c4b1 : ((rd l0 x6_1) != 10) = true := bne_iff_ne.mpr c4
      have H' := Aside0.mk H
      clear H
      have p488 : 0 ≤ (x6_1 : Int) := of_decide_eq_true asA
      have q488 : x6_1 < (l0.length : Int) := of_decide_eq_true asA
      obtain ⟨ad488, e488, hx488_0⟩ := Kd.at_int HR0.out x6_1 p488 q488
      cases e488
      replace hx488_0 := (HB.out.cell (World.block_lt_of_cell? w _ hx488_0)).trans hx488_0
      replace p488 := eq_true p488
      replace q488 := eq_true q488
      go_wp2
      go_roundg k1
      case measure => have := HK1.out; omega
      case rel => exact ⟨(x4_1), (x5_1), (wrap64 (x6_1 + 1)), sA, sA, H', ⟨by have := HK1.out; omega⟩, ⟨kS HO_4⟩, ⟨bA⟩⟩
    ·rw [if_neg c3] at H
     exact absurd H (by simp)
   ·rw [if_neg c2] at H
    have c2b0 : decide (x6_1 < (l0.length : Int)) = false := decide_eq_false c2
    clear c2
    by_cases c17 : x5_1 < (l0.length : Int)
    ·rw [if_pos c17] at H
     have c17b0 : decide (x5_1 < (l0.length : Int)) = true := decide_eq_true c17
     clear c17
     simp only [Option.some.injEq, Prod.mk.injEq] at H
     obtain ⟨rfl, rfl⟩ := H
     go_wp2
     go_ret2
     exact ⟨_, eW, by first | exact Kd.S_nil _ _ _ _ _ | exact Kd.N_nil _ _ _ _ _ | exact Kd.V_nil _ _ _ _ _ | exact Kd.Q_nil _ _ _ _ _ | exact Kd.R_nil _ _ _ _ _, bA⟩
    ·rw [if_neg c17] at H
     have c17b0 : decide (x5_1 < (l0.length : Int)) = false := decide_eq_false c17
     clear c17
     simp only [Option.some.injEq, Prod.mk.injEq] at H
     obtain ⟨rfl, rfl⟩ := H
     go_wp2
     go_ret2
     exact ⟨_, eW, kS HO_4, bA⟩

/-! ### flongref03_Same: function 51 -/
def flongref03_Same.l0 : Nat → List (S35) → List (S35) → Int → Option (Bool)
 | 0, _, _, _ => none
 | k + 1, x0, x1, x5 => if x5 < (x0.length : Int) then (if 0 ≤ x5 then (if x5 < (x1.length : Int) then (if (!(((rd_T35 x0 x5).f0) == ((rd_T35 x1 x5).f0)) || (!(((rd_T35 x0 x5).f1) == ((rd_T35 x1 x5).f1)))) = true then (some false) else (flongref03_Same.l0 k x0 x1 (wrap64 (x5 + 1)))) else (none)) else (none)) else (some true)
def flongref03_Same.f (k : Nat) (l0 : List (S35)) (l1 : List (S35)) : Option (Bool) := if (l0.length : Int) = (l1.length : Int) then (flongref03_Same.l0 k l0 l1 0) else (some false)
theorem flongref03_Same.mono_l : ∀ k, (∀ y0 y1 y2, LeO (flongref03_Same.l0 k y0 y1 y2) (flongref03_Same.l0 (k + 1) y0 y1 y2))
 | 0 => fun _ _ _ r h => by simp [flongref03_Same.l0] at h
 | k + 1 => by
  have ih0 := flongref03_Same.mono_l k
  ·intro y0 y1 y2
   unfold flongref03_Same.l0
   repeat' first
   | (with_reducible exact ih0 _ _ _)
   | (with_reducible exact LeO.refl _)
   | (with_reducible exact LeO.none _)
   | (with_reducible refine LeO.ite ?_ ?_)
   | (with_reducible refine LeO.bind ?_ (fun _ => ?_))
theorem flongref03_Same.mono : ∀ a0 a1 k, LeO (flongref03_Same.f k a0 a1) (flongref03_Same.f (k + 1) a0 a1) := by
 intro a0 a1 k
 have ih0 := flongref03_Same.mono_l k
 unfold flongref03_Same.f
 repeat' first
   | (with_reducible exact ih0 _ _ _)
   | (with_reducible exact LeO.refl _)
   | (with_reducible exact LeO.none _)
   | (with_reducible refine LeO.ite ?_ ?_)
   | (with_reducible refine LeO.bind ?_ (fun _ => ?_))
theorem flongref03_Same.calls (k : Nat) (A0 : Option Addr) (c0 : Nat) (l0 : List (S35)) (A1 : Option Addr) (c1 : Nat) (l1 : List (S35)) (r : Bool) (w : World) (hr0 : Kd.C k35 w A0 l0.length l0) (hc0 : l0.length ≤ c0) (hr1 : Kd.C k35 w A1 l1.length l1) (hc1 : l1.length ≤ c1) (h : flongref03_Same.f k l0 l1 = some r) :
  Calls Tryd.prog 51 #[.slice A0 l0.length c0, .slice A1 l1.length c1] w fun e w' => e = .returned (.bool r) ∧ Drawn0 w w' := by
 have hu35 := Tryd.underlying35
 have HR0 := Aside0.mk hr0
 have HC0 := Aside0.mk hc0
 clear hr0 hc0
 have HR1 := Aside0.mk hr1
 have HC1 := Aside0.mk hc1
 clear hr1 hc1
 have H : (if (l0.length : Int) = (l1.length : Int) then (flongref03_Same.l0 k l0 l1 0) else (some false)) = some r := h
 clear h
 by_cases c3 : (l0.length : Int) = (l1.length : Int)
 ·rw [if_pos c3] at H
  have c3b0 : ((l0.length : Int) == (l1.length : Int)) = true := beq_iff_eq.mpr c3
  have c3b1 : ((l0.length : Int) != (l1.length : Int)) = false := bne_eq_false_iff_eq.mpr c3
  have c3b2 : (l0.length == l1.length) = true := by first | simpa using c3 | (simp at c3 ⊢; omega)
  clear c3
  have H' := Aside0.mk H
  clear H
  go_enter Tryd.func51, Tryd.ntmps51
  go_wp2
  repeat (go_quiet (fail); try go_wp2)
  go_loopg [5] k (fun kq v5 w' => ∃ (x5_1 : Int), v5 = .int .i64 x5_1 ∧ Aside0 (flongref03_Same.l0 kq l0 l1 x5_1 = some r) ∧ Aside0 (kq ≤ k) ∧ Drawn0 w w')
  case atStart => exact ⟨(0), sA, H', ⟨Nat.le_refl _⟩, by repeat (first | exact Drawn0.refl _ | apply Drawn0.step)⟩
  case round =>
   clear H'
   try clear c1
   try clear p2
   try clear c3
   try clear c3b0
   try clear c3b1
   try clear c3b2
   obtain ⟨x5_1, rfl, HA, HK1, ⟨m1, rfl⟩⟩ := hrel
   cases gk with
   | zero => exact absurd HA.out (by simp [flongref03_Same.l0])
   | succ k1 =>
    have H := HA.out
    clear HA
    simp only [flongref03_Same.l0] at H
    by_cases c4 : x5_1 < (l0.length : Int)
    ·rw [if_pos c4] at H
     have c4b0 : decide (x5_1 < (l0.length : Int)) = true := decide_eq_true c4
     clear c4
     by_cases c5 : 0 ≤ x5_1
     ·rw [if_pos c5] at H
      have c5b0 : decide (0 ≤ x5_1) = true := decide_eq_true c5
      clear c5
      by_cases c6 : x5_1 < (l1.length : Int)
      ·rw [if_pos c6] at H
       have c6b0 : decide (x5_1 < (l1.length : Int)) = true := decide_eq_true c6
       clear c6
       by_cases c7 : (!(((rd_T35 l0 x5_1).f0) == ((rd_T35 l1 x5_1).f0)) || (!(((rd_T35 l0 x5_1).f1) == ((rd_T35 l1 x5_1).f1)))) = true
       ·rw [if_pos c7] at H
        have c7b0 : (!(((rd_T35 l0 x5_1).f0) == ((rd_T35 l1 x5_1).f0)) || (!(((rd_T35 l0 x5_1).f1) == ((rd_T35 l1 x5_1).f1)))) = true := c7
        clear c7
        obtain rfl := Option.some.inj H
        have p497 : 0 ≤ (x5_1 : Int) := of_decide_eq_true asA
        have q497 : x5_1 < (l0.length : Int) := of_decide_eq_true asA
        obtain ⟨ad497, e497, hx497_0, hx497_1⟩ := at_T35 HR0.out x5_1 p497 q497
        cases e497
        replace p497 := eq_true p497
        replace q497 := eq_true q497
        have p498 : 0 ≤ (x5_1 : Int) := of_decide_eq_true asA
        have q498 : x5_1 < (l1.length : Int) := of_decide_eq_true asA
        obtain ⟨ad498, e498, hx498_0, hx498_1⟩ := at_T35 HR1.out x5_1 p498 q498
        cases e498
        replace p498 := eq_true p498
        replace q498 := eq_true q498
        go_wp2
        repeat (go_quiet (fail); try go_wp2)
        go_ret
        exact ⟨sA, by repeat (first | exact Drawn0.refl _ | apply Drawn0.step)⟩
       ·rw [if_neg c7] at H
        have c7b0 : (!(((rd_T35 l0 x5_1).f0) == ((rd_T35 l1 x5_1).f0)) || (!(((rd_T35 l0 x5_1).f1) == ((rd_T35 l1 x5_1).f1)))) = false := by simpa using c7
        clear c7
        have H' := Aside0.mk H
        clear H
        have p497 : 0 ≤ (x5_1 : Int) := of_decide_eq_true asA
        have q497 : x5_1 < (l0.length : Int) := of_decide_eq_true asA
        obtain ⟨ad497, e497, hx497_0, hx497_1⟩ := at_T35 HR0.out x5_1 p497 q497
        cases e497
        replace p497 := eq_true p497
        replace q497 := eq_true q497
        have p498 : 0 ≤ (x5_1 : Int) := of_decide_eq_true asA
        have q498 : x5_1 < (l1.length : Int) := of_decide_eq_true asA
        obtain ⟨ad498, e498, hx498_0, hx498_1⟩ := at_T35 HR1.out x5_1 p498 q498
        cases e498
        replace p498 := eq_true p498
        replace q498 := eq_true q498
        go_wp2
        repeat (go_quiet (fail); try go_wp2)
        go_roundg k1
        case measure => have := HK1.out; omega
        case rel => exact ⟨(wrap64 (x5_1 + 1)), sA, H', ⟨by have := HK1.out; omega⟩, by repeat (first | exact Drawn0.refl _ | apply Drawn0.step)⟩
      ·rw [if_neg c6] at H
       exact absurd H (by simp)
     ·rw [if_neg c5] at H
      exact absurd H (by simp)
    ·rw [if_neg c4] at H
     have c4b0 : decide (x5_1 < (l0.length : Int)) = false := decide_eq_false c4
     clear c4
     obtain rfl := Option.some.inj H
     go_wp2
     repeat (go_quiet (fail); try go_wp2)
     go_ret
     exact ⟨sA, by repeat (first | exact Drawn0.refl _ | apply Drawn0.step)⟩
 ·rw [if_neg c3] at H
  have c3b0 : ((l0.length : Int) == (l1.length : Int)) = false := beq_eq_false_iff_ne.mpr c3
  have c3b1 : ((l0.length : Int) != (l1.length : Int)) = true := bne_iff_ne.mpr c3
  have c3b2 : (l0.length == l1.length) = false := by first | simpa using c3 | (simp at c3 ⊢; omega)
  obtain rfl := Option.some.inj H
  go_enter Tryd.func51, Tryd.ntmps51
  go_wp2
  repeat (go_quiet (fail); try go_wp2)
  go_ret
  exact ⟨sA, by repeat (first | exact Drawn0.refl _ | apply Drawn0.step)⟩

/-! ### flongref03_SameRows: function 22 -/
def flongref03_SameRows.l0 : Nat → List (List (S35)) → List (List (S35)) → Int → Option (Bool)
 | 0, _, _, _ => none
 | k + 1, x0, x1, x5 => if x5 < (x0.length : Int) then (if 0 ≤ x5 then (if x5 < (x1.length : Int) then ((flongref03_Same.f k (rd_L7 x0 x5) (rd_L7 x1 x5)).bind fun t501 => (if t501 = true then (flongref03_SameRows.l0 k x0 x1 (wrap64 (x5 + 1))) else (some false))) else (none)) else (none)) else (some true)
def flongref03_SameRows.f (k : Nat) (l0 : List (List (S35))) (l1 : List (List (S35))) : Option (Bool) := if (l0.length : Int) = (l1.length : Int) then (flongref03_SameRows.l0 k l0 l1 0) else (some false)
theorem flongref03_SameRows.mono_l : ∀ k, (∀ y0 y1 y2, LeO (flongref03_SameRows.l0 k y0 y1 y2) (flongref03_SameRows.l0 (k + 1) y0 y1 y2))
 | 0 => fun _ _ _ r h => by simp [flongref03_SameRows.l0] at h
 | k + 1 => by
  have ih0 := flongref03_SameRows.mono_l k
  ·intro y0 y1 y2
   unfold flongref03_SameRows.l0
   repeat' first
   | (with_reducible exact ih0 _ _ _)
   | (with_reducible exact flongref03_Same.mono _ _ _)
   | (with_reducible exact LeO.refl _)
   | (with_reducible exact LeO.none _)
   | (with_reducible refine LeO.ite ?_ ?_)
   | (with_reducible refine LeO.bind ?_ (fun _ => ?_))
theorem flongref03_SameRows.mono : ∀ a0 a1 k, LeO (flongref03_SameRows.f k a0 a1) (flongref03_SameRows.f (k + 1) a0 a1) := by
 intro a0 a1 k
 have ih0 := flongref03_SameRows.mono_l k
 unfold flongref03_SameRows.f
 repeat' first
   | (with_reducible exact ih0 _ _ _)
   | (with_reducible exact flongref03_Same.mono _ _ _)
   | (with_reducible exact LeO.refl _)
   | (with_reducible exact LeO.none _)
   | (with_reducible refine LeO.ite ?_ ?_)
   | (with_reducible refine LeO.bind ?_ (fun _ => ?_))
theorem flongref03_SameRows.calls (k : Nat) (A0 : Option Addr) (c0 : Nat) (l0 : List (List (S35))) (A1 : Option Addr) (c1 : Nat) (l1 : List (List (S35))) (r : Bool) (w : World) (hr0 : Kd.C (Kd.slice 35 k35) w A0 l0.length l0) (hc0 : l0.length ≤ c0) (hr1 : Kd.C (Kd.slice 35 k35) w A1 l1.length l1) (hc1 : l1.length ≤ c1) (h : flongref03_SameRows.f k l0 l1 = some r) :
  Calls Tryd.prog 22 #[.slice A0 l0.length c0, .slice A1 l1.length c1] w fun e w' => e = .returned (.bool r) ∧ Drawn0 w w' := by
 have HR0 := Aside0.mk hr0
 have HC0 := Aside0.mk hc0
 clear hr0 hc0
 have HR1 := Aside0.mk hr1
 have HC1 := Aside0.mk hc1
 clear hr1 hc1
 have H : (if (l0.length : Int) = (l1.length : Int) then (flongref03_SameRows.l0 k l0 l1 0) else (some false)) = some r := h
 clear h
 by_cases c3 : (l0.length : Int) = (l1.length : Int)
 ·rw [if_pos c3] at H
  have c3b0 : ((l0.length : Int) == (l1.length : Int)) = true := beq_iff_eq.mpr c3
  have c3b1 : ((l0.length : Int) != (l1.length : Int)) = false := bne_eq_false_iff_eq.mpr c3
  have c3b2 : (l0.length == l1.length) = true := by first | simpa using c3 | (simp at c3 ⊢; omega)
  clear c3
  have H' := Aside0.mk H
  clear H
  go_enter Tryd.func22, Tryd.ntmps22
  go_wp2
  repeat (go_quiet (fail); try go_wp2)
  go_loopg [5] k (fun kq v5 w' => ∃ (x5_1 : Int), v5 = .int .i64 x5_1 ∧ Aside0 (flongref03_SameRows.l0 kq l0 l1 x5_1 = some r) ∧ Aside0 (kq ≤ k) ∧ Drawn0 w w')
  case atStart => exact ⟨(0), sA, H', ⟨Nat.le_refl _⟩, by repeat (first | exact Drawn0.refl _ | apply Drawn0.step)⟩
  case round =>
   clear H'
   try clear c1
   try clear c2
   try clear p2
   try clear c3
   try clear c3b0
   try clear c3b1
   try clear c3b2
   obtain ⟨x5_1, rfl, HA, HK1, ⟨m1, rfl⟩⟩ := hrel
   cases gk with
   | zero => exact absurd HA.out (by simp [flongref03_SameRows.l0])
   | succ k1 =>
    have H := HA.out
    clear HA
    simp only [flongref03_SameRows.l0] at H
    by_cases c4 : x5_1 < (l0.length : Int)
    ·rw [if_pos c4] at H
     have c4b0 : decide (x5_1 < (l0.length : Int)) = true := decide_eq_true c4
     clear c4
     by_cases c5 : 0 ≤ x5_1
     ·rw [if_pos c5] at H
      have c5b0 : decide (0 ≤ x5_1) = true := decide_eq_true c5
      clear c5
      by_cases c6 : x5_1 < (l1.length : Int)
      ·rw [if_pos c6] at H
       have c6b0 : decide (x5_1 < (l1.length : Int)) = true := decide_eq_true c6
       clear c6
       replace H := Option.bind_eq_some_iff.mp H
       obtain ⟨t501, A70, H⟩ := H
       replace H : (if t501 = true then (flongref03_SameRows.l0 k1 l0 l1 (wrap64 (x5_1 + 1))) else (some false)) = some r := H
       have A7 := Aside0.mk A70
       clear A70
       by_cases c8 : t501 = true
       ·subst c8
        have H1 : (flongref03_SameRows.l0 k1 l0 l1 (wrap64 (x5_1 + 1))) = some r := by rw [if_pos rfl] at H; exact H
        clear H
        have H := H1
        clear H1
        have H' := Aside0.mk H
        clear H
        have p499 : 0 ≤ (x5_1 : Int) := of_decide_eq_true asA
        have q499 : x5_1 < (l0.length : Int) := of_decide_eq_true asA
        obtain ⟨ad499, A499_0, c499_0, e499, hx499_0, hl499_0, hi499_0⟩ := at_L7 HR0.out x5_1 p499 q499
        cases e499
        have HR499_0 := Aside0.mk hi499_0
        have HC499_0 := Aside0.mk hl499_0
        clear hi499_0 hl499_0
        replace p499 := eq_true p499
        replace q499 := eq_true q499
        have p500 : 0 ≤ (x5_1 : Int) := of_decide_eq_true asA
        have q500 : x5_1 < (l1.length : Int) := of_decide_eq_true asA
        obtain ⟨ad500, A500_0, c500_0, e500, hx500_0, hl500_0, hi500_0⟩ := at_L7 HR1.out x5_1 p500 q500
        cases e500
        have HR500_0 := Aside0.mk hi500_0
        have HC500_0 := Aside0.mk hl500_0
        clear hi500_0 hl500_0
        replace p500 := eq_true p500
        replace q500 := eq_true q500
        go_wp2_with (first | (go_at_call 51; (with_reducible refine (flongref03_Same.calls k1 _ _ (rd_L7 l0 x5_1) _ _ (rd_L7 l1 x5_1) true _ ?side1 ?side2 ?side3 ?side4 A7.out).mono ?_); (case side1 => repeat (first | exact HR499_0.out | (with_reducible refine Kd.C_alloc ?_ _) | (with_reducible refine Kd.C_drewN ?_ _) | (with_reducible refine Kd.C_drew ?_))); (case side2 => exact HC499_0.out); (case side3 => repeat (first | exact HR500_0.out | (with_reducible refine Kd.C_alloc ?_ _) | (with_reducible refine Kd.C_drewN ?_ _) | (with_reducible refine Kd.C_drew ?_))); (case side4 => exact HC500_0.out); rintro e w' ⟨rfl, ⟨nd, rfl⟩⟩; (try first | exact ⟨rfl, _, World.drewN_drewN _ _ _⟩ | exact ⟨rfl, _, Eq.trans (World.drewN_drewN _ _ _) (congrArg (World.drewN _) (Nat.add_assoc _ _ _))⟩)))
        repeat (go_quiet (first | (go_at_call 51; (with_reducible refine (flongref03_Same.calls k1 _ _ (rd_L7 l0 x5_1) _ _ (rd_L7 l1 x5_1) true _ ?side1 ?side2 ?side3 ?side4 A7.out).mono ?_); (case side1 => repeat (first | exact HR499_0.out | (with_reducible refine Kd.C_alloc ?_ _) | (with_reducible refine Kd.C_drewN ?_ _) | (with_reducible refine Kd.C_drew ?_))); (case side2 => exact HC499_0.out); (case side3 => repeat (first | exact HR500_0.out | (with_reducible refine Kd.C_alloc ?_ _) | (with_reducible refine Kd.C_drewN ?_ _) | (with_reducible refine Kd.C_drew ?_))); (case side4 => exact HC500_0.out); rintro e w' ⟨rfl, ⟨nd, rfl⟩⟩; (try first | exact ⟨rfl, _, World.drewN_drewN _ _ _⟩ | exact ⟨rfl, _, Eq.trans (World.drewN_drewN _ _ _) (congrArg (World.drewN _) (Nat.add_assoc _ _ _))⟩))); try go_wp2_with (first | (go_at_call 51; (with_reducible refine (flongref03_Same.calls k1 _ _ (rd_L7 l0 x5_1) _ _ (rd_L7 l1 x5_1) true _ ?side1 ?side2 ?side3 ?side4 A7.out).mono ?_); (case side1 => repeat (first | exact HR499_0.out | (with_reducible refine Kd.C_alloc ?_ _) | (with_reducible refine Kd.C_drewN ?_ _) | (with_reducible refine Kd.C_drew ?_))); (case side2 => exact HC499_0.out); (case side3 => repeat (first | exact HR500_0.out | (with_reducible refine Kd.C_alloc ?_ _) | (with_reducible refine Kd.C_drewN ?_ _) | (with_reducible refine Kd.C_drew ?_))); (case side4 => exact HC500_0.out); rintro e w' ⟨rfl, ⟨nd, rfl⟩⟩; (try first | exact ⟨rfl, _, World.drewN_drewN _ _ _⟩ | exact ⟨rfl, _, Eq.trans (World.drewN_drewN _ _ _) (congrArg (World.drewN _) (Nat.add_assoc _ _ _))⟩))))
        go_roundg k1
        case measure => have := HK1.out; omega
        case rel => exact ⟨(wrap64 (x5_1 + 1)), sA, H', ⟨by have := HK1.out; omega⟩, by repeat (first | exact Drawn0.refl _ | apply Drawn0.step)⟩
       ·replace c8 := Bool.eq_false_iff.mpr c8
        subst c8
        have H1 : (some false) = some r := by rw [if_neg (show ¬ (false = true) by decide)] at H; exact H
        clear H
        have H := H1
        clear H1
        obtain rfl := Option.some.inj H
        have p499 : 0 ≤ (x5_1 : Int) := of_decide_eq_true asA
        have q499 : x5_1 < (l0.length : Int) := of_decide_eq_true asA
        obtain ⟨ad499, A499_0, c499_0, e499, hx499_0, hl499_0, hi499_0⟩ := at_L7 HR0.out x5_1 p499 q499
        cases e499
        have HR499_0 := Aside0.mk hi499_0
        have HC499_0 := Aside0.mk hl499_0
        clear hi499_0 hl499_0
        replace p499 := eq_true p499
        replace q499 := eq_true q499
        have p500 : 0 ≤ (x5_1 : Int) := of_decide_eq_true asA
        have q500 : x5_1 < (l1.length : Int) := of_decide_eq_true asA
        obtain ⟨ad500, A500_0, c500_0, e500, hx500_0, hl500_0, hi500_0⟩ := at_L7 HR1.out x5_1 p500 q500
        cases e500
        have HR500_0 := Aside0.mk hi500_0
        have HC500_0 := Aside0.mk hl500_0
        clear hi500_0 hl500_0
        replace p500 := eq_true p500
        replace q500 := eq_true q500
        go_wp2_with (first | (go_at_call 51; (with_reducible refine (flongref03_Same.calls k1 _ _ (rd_L7 l0 x5_1) _ _ (rd_L7 l1 x5_1) false _ ?side1 ?side2 ?side3 ?side4 A7.out).mono ?_); (case side1 => repeat (first | exact HR499_0.out | (with_reducible refine Kd.C_alloc ?_ _) | (with_reducible refine Kd.C_drewN ?_ _) | (with_reducible refine Kd.C_drew ?_))); (case side2 => exact HC499_0.out); (case side3 => repeat (first | exact HR500_0.out | (with_reducible refine Kd.C_alloc ?_ _) | (with_reducible refine Kd.C_drewN ?_ _) | (with_reducible refine Kd.C_drew ?_))); (case side4 => exact HC500_0.out); rintro e w' ⟨rfl, ⟨nd, rfl⟩⟩; (try first | exact ⟨rfl, _, World.drewN_drewN _ _ _⟩ | exact ⟨rfl, _, Eq.trans (World.drewN_drewN _ _ _) (congrArg (World.drewN _) (Nat.add_assoc _ _ _))⟩)))
        repeat (go_quiet (first | (go_at_call 51; (with_reducible refine (flongref03_Same.calls k1 _ _ (rd_L7 l0 x5_1) _ _ (rd_L7 l1 x5_1) false _ ?side1 ?side2 ?side3 ?side4 A7.out).mono ?_); (case side1 => repeat (first | exact HR499_0.out | (with_reducible refine Kd.C_alloc ?_ _) | (with_reducible refine Kd.C_drewN ?_ _) | (with_reducible refine Kd.C_drew ?_))); (case side2 => exact HC499_0.out); (case side3 => repeat (first | exact HR500_0.out | (with_reducible refine Kd.C_alloc ?_ _) | (with_reducible refine Kd.C_drewN ?_ _) | (with_reducible refine Kd.C_drew ?_))); (case side4 => exact HC500_0.out); rintro e w' ⟨rfl, ⟨nd, rfl⟩⟩; (try first | exact ⟨rfl, _, World.drewN_drewN _ _ _⟩ | exact ⟨rfl, _, Eq.trans (World.drewN_drewN _ _ _) (congrArg (World.drewN _) (Nat.add_assoc _ _ _))⟩))); try go_wp2_with (first | (go_at_call 51; (with_reducible refine (flongref03_Same.calls k1 _ _ (rd_L7 l0 x5_1) _ _ (rd_L7 l1 x5_1) false _ ?side1 ?side2 ?side3 ?side4 A7.out).mono ?_); (case side1 => repeat (first | exact HR499_0.out | (with_reducible refine Kd.C_alloc ?_ _) | (with_reducible refine Kd.C_drewN ?_ _) | (with_reducible refine Kd.C_drew ?_))); (case side2 => exact HC499_0.out); (case side3 => repeat (first | exact HR500_0.out | (with_reducible refine Kd.C_alloc ?_ _) | (with_reducible refine Kd.C_drewN ?_ _) | (with_reducible refine Kd.C_drew ?_))); (case side4 => exact HC500_0.out); rintro e w' ⟨rfl, ⟨nd, rfl⟩⟩; (try first | exact ⟨rfl, _, World.drewN_drewN _ _ _⟩ | exact ⟨rfl, _, Eq.trans (World.drewN_drewN _ _ _) (congrArg (World.drewN _) (Nat.add_assoc _ _ _))⟩))))
        go_ret
        exact ⟨sA, by repeat (first | exact Drawn0.refl _ | apply Drawn0.step)⟩
      ·rw [if_neg c6] at H
       exact absurd H (by simp)
     ·rw [if_neg c5] at H
      exact absurd H (by simp)
    ·rw [if_neg c4] at H
     have c4b0 : decide (x5_1 < (l0.length : Int)) = false := decide_eq_false c4
     clear c4
     obtain rfl := Option.some.inj H
     go_wp2
     repeat (go_quiet (fail); try go_wp2)
     go_ret
     exact ⟨sA, by repeat (first | exact Drawn0.refl _ | apply Drawn0.step)⟩
 ·rw [if_neg c3] at H
  have c3b0 : ((l0.length : Int) == (l1.length : Int)) = false := beq_eq_false_iff_ne.mpr c3
  have c3b1 : ((l0.length : Int) != (l1.length : Int)) = true := bne_iff_ne.mpr c3
  have c3b2 : (l0.length == l1.length) = false := by first | simpa using c3 | (simp at c3 ⊢; omega)
  obtain rfl := Option.some.inj H
  go_enter Tryd.func22, Tryd.ntmps22
  go_wp2
  repeat (go_quiet (fail); try go_wp2)
  go_ret
  exact ⟨sA, by repeat (first | exact Drawn0.refl _ | apply Drawn0.step)⟩

end Go.Proofs.YtmeinakeiefcdaaDoor.X
