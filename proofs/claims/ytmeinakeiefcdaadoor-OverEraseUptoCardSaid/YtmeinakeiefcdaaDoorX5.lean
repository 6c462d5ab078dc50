-- Written by this session's xprint.py (a variant of the kit's printer). Not trusted: Lean checks it.
import Derived.Test.YtmeinakeiefcdaaDoorX0
import Derived.Test.YtmeinakeiefcdaaDoorSlim
import Derived.Test.YtmeinakeiefcdaaDoorX2
import Derived.Test.YtmeinakeiefcdaaDoorX4
import Derived.Test.YtmeinakeiefcdaaDoorHandA
namespace Go.Proofs.YtmeinakeiefcdaaDoor.X
open Go.Proofs.YtmeinakeiefcdaaDoor.Hand
open Go.RowKit Go.Proofs.YtmeinakeiefcdaaDoorW.PrintWords Go.Proofs.YtmeinakeiefcdaaDoorW.PrintLast Go.Proofs.YtmeinakeiefcdaaDoorW.PrintMore
attribute [local go_sem] max2_int min2_int max_two min_two max_three min_three max_four min_four   -- for this text's walks alone
set_option linter.unusedVariables false
set_option maxHeartbeats 8000000
set_option maxRecDepth 100000
set_option linter.unusedSimpArgs false

/-! ### over_line: function 42 -/
def over_line.l0 : Nat → ByteArray → List (S35) → List Int → Option ((List (S35)) × Bool)
 | 0, _, _, _ => none
 | k + 1, x0, x4, x5 => if (x5.length : Int) > 0 then ((over_Take.f k x5).bind fun bt310 => (if bt310.2.2.2 = 0 then (if (x4.length : Int) > 0 then ((runes_Width.f bt310.1).bind fun t315 => (if t315 = 0 then (if 0 ≤ (wrap64 ((x4.length : Int) - 1)) then (if (wrap64 ((x4.length : Int) - 1)) < (x4.length : Int) then (if x4.length < 17592186044416 then (if 0 ≤ bt310.2.2.1 then (if bt310.2.2.1 ≤ (x5.length : Int) then (over_line.l0 k x0 (x4 ++ [(⟨bt310.1, (rd_T35 x4 (wrap64 ((x4.length : Int) - 1))).f1⟩ : S35)]) (x5.drop (bt310.2.2.1 : Int).toNat)) else (none)) else (none)) else (none)) else (none)) else (none)) else (if x4.length < 17592186044416 then (if 0 ≤ bt310.2.2.1 then (if bt310.2.2.1 ≤ (x5.length : Int) then (over_line.l0 k x0 (x4 ++ [(⟨bt310.1, bt310.2.1⟩ : S35)]) (x5.drop (bt310.2.2.1 : Int).toNat)) else (none)) else (none)) else (none)))) else (if x4.length < 17592186044416 then (if 0 ≤ bt310.2.2.1 then (if bt310.2.2.1 ≤ (x5.length : Int) then (over_line.l0 k x0 (x4 ++ [(⟨bt310.1, bt310.2.1⟩ : S35)]) (x5.drop (bt310.2.2.1 : Int).toNat)) else (none)) else (none)) else (none))) else (some (([] : List (S35)), false)))) else ((over_Row.f k x4).bind fun t307 => (some (x4, ((strOfNums t307).toList == x0.toList))))
def over_line.f (k : Nat) (a0 : ByteArray) : Option ((List (S35)) × Bool) := (conv_bytes.f a0).bind fun t304 => (over_line.l0 k a0 ([] : List (S35)) t304)
theorem over_line.mono_l : ∀ k, (∀ y0 y1 y2, LeO (over_line.l0 k y0 y1 y2) (over_line.l0 (k + 1) y0 y1 y2))
 | 0 => fun _ _ _ r h => by simp [over_line.l0] at h
 | k + 1 => by
  have ih0 := over_line.mono_l k
  ·intro y0 y1 y2
   unfold over_line.l0
   repeat' first
   | (with_reducible exact ih0 _ _ _)
   | (with_reducible exact over_Row.mono _ _)
   | (with_reducible exact over_Take.mono _ _)
   | (with_reducible exact LeO.refl _)
   | (with_reducible exact LeO.none _)
   | (with_reducible refine LeO.ite ?_ ?_)
   | (with_reducible refine LeO.bind ?_ (fun _ => ?_))
theorem over_line.mono : ∀ a0 k, LeO (over_line.f k a0) (over_line.f (k + 1) a0) := by
 intro a0 k
 have ih0 := over_line.mono_l k
 unfold over_line.f
 repeat' first
   | (with_reducible exact ih0 _ _ _)
   | (with_reducible exact over_Row.mono _ _)
   | (with_reducible exact over_Take.mono _ _)
   | (with_reducible exact LeO.refl _)
   | (with_reducible exact LeO.none _)
   | (with_reducible refine LeO.ite ?_ ?_)
   | (with_reducible refine LeO.bind ?_ (fun _ => ?_))
def over_line.T10 : Bool × List (List Nat × List Nat) := (true, [([], []), ([], []), ([1], [1]), ([0, 2], [0, 2]), ([], []), ([], []), ([4, 5], [4, 5]), ([3, 3, 0, 1, 2, 3], [0, 3]), ([6, 7, 0, 1, 2, 3, 4, 5, 6, 7], [4, 6])])
def over_line.B10 : List Nat := [0, 0, 2, 7, 0, 0, 48, 15, 255]
theorem over_line.tab10 : rtab .any (opsOf Tryd.f42 10) = over_line.T10 := by kernel_rfl
theorem over_line.bits10 : waitsOk over_line.T10.2 over_line.B10 = true := by kernel_rfl
def over_line.T11 : Bool × List (List Nat × List Nat) := (true, [([], []), ([], []), ([1], [1]), ([2], [2]), ([], []), ([3, 4], [3, 4]), ([0, 2, 0], [0]), ([5, 6, 0, 1, 2, 3, 4, 5, 6], [5])])
def over_line.B11 : List Nat := [0, 0, 2, 6, 0, 30, 7, 127]
theorem over_line.tab11 : rtab .any (opsOf Tryd.f42 11) = over_line.T11 := by kernel_rfl
theorem over_line.bits11 : waitsOk over_line.T11.2 over_line.B11 = true := by kernel_rfl
theorem over_line.calls (k : Nat) (a0 : ByteArray) (r1 : List (S35)) (r2 : Bool) (w : World) (hG : GOK [0,1,2] w) (h : over_line.f k a0 = some (r1, r2)) :
  Calls Tryd.prog 42 #[.string a0] w fun e w' => ∃ v0_ : Value, e = .returned (.tuple #[v0_, .bool r2]) ∧ Kd.R k35 35 w' w.heap.size (fun _ => True) v0_ r1 ∧ Below w.heap.size w w' := by
 have hu35 := Tryd.underlying35
 have HG := Aside0.mk hG
 clear hG
 have HB := Aside0.mk (Below.refl w.heap.size w)
 have H : ((conv_bytes.f a0).bind fun t304 => (over_line.l0 k a0 ([] : List (S35)) t304)) = some (r1, r2) := h
 clear h
 replace H := Option.bind_eq_some_iff.mp H
 obtain ⟨t304, A20, H⟩ := H
 replace H : (over_line.l0 k a0 ([] : List (S35)) t304) = some (r1, r2) := H
 have A2 := Aside0.mk A20
 clear A20
 have H' := Aside0.mk H
 clear H
 go_enter Tryd.func42, Tryd.ntmps42
 go_wp2_with (first | ((with_reducible refine gate_convert (src := 9) (dst := 25) rfl ?_); refine convL_ _ rfl rfl a0 rfl rfl ?_; (with_reducible refine (conv_bytes.calls a0 t304 _ A2.out).mono ?_); rintro e w3 ⟨v305, rfl, ho0, hb⟩; refine ⟨_, rfl, ?_⟩; have HO306 := Aside0.mk (Kd.V_lower (Kd.V_mono (ok' := fun k_ => True) ho0 (fun k_ hk_ => trivial)) (below_size bA)); replace HB := Aside0.mk (below_step bA hb); (try clear hb); (try clear hb2); (try clear hk); (try clear hi); (try clear ho0)))
 go_loopg [4, 5] k (fun kq v4 v5 w' => ∃ (x4_1 : List (S35)) (x5_1 : List Int), Aside0 (over_line.l0 kq a0 x4_1 x5_1 = some (r1, r2)) ∧ Aside0 (kq ≤ k) ∧ Aside0 (Kd.R k35 35 w' w.heap.size (fun _ => True) v4 x4_1) ∧ Aside0 (Kd.V (Kd.int .u8) 5 w' w.heap.size (fun k_ => some k_ ≠ (v4 : Value).ownBlock) v5 x5_1) ∧ Aside0 (Below w.heap.size w w'))
 case atStart => exact ⟨(([] : List (S35))), (t304), H', ⟨Nat.le_refl _⟩, ⟨by first | exact Kd.R_nil _ _ _ _ _ | exact Kd.N_nil _ _ _ _ _ | exact Kd.V_nil _ _ _ _ _ | exact Kd.Q_nil _ _ _ _ _ | exact Kd.S_nil _ _ _ _ _⟩, ⟨by (with_reducible repeat (first | apply Kd.V_alloc | apply Kd.V_drewN | apply Kd.V_drew)); exact Kd.V_mono HO306.out (fun _ hk => (by simp [Value.ownBlock]))⟩, ⟨bA⟩⟩
 case round =>
  clear H'
  try clear p2
  obtain ⟨x4_1, x5_1, HA, HK1, HO_4, HO_5, HB⟩ := hrel
  cases gk with
  | zero => exact absurd HA.out (by simp [over_line.l0])
  | succ k1 =>
   have H := HA.out
   clear HA
   simp only [over_line.l0] at H
   by_cases c4 : (x5_1.length : Int) > 0
   ·rw [if_pos c4] at H
    have c4b0 : decide (0 < (x5_1.length : Int)) = true := decide_eq_true c4
    have c4b1 : decide (0 < x5_1.length) = true := decide_eq_true (by omega)
    clear c4
    replace H := Option.bind_eq_some_iff.mp H
    obtain ⟨⟨t310, t311, t312, t313⟩, A50, H⟩ := H
    replace H : (if t313 = 0 then (if (x4_1.length : Int) > 0 then ((runes_Width.f t310).bind fun t315 => (if t315 = 0 then (if 0 ≤ (wrap64 ((x4_1.length : Int) - 1)) then (if (wrap64 ((x4_1.length : Int) - 1)) < (x4_1.length : Int) then (if x4_1.length < 17592186044416 then (if 0 ≤ t312 then (if t312 ≤ (x5_1.length : Int) then (over_line.l0 k1 a0 (x4_1 ++ [(⟨t310, (rd_T35 x4_1 (wrap64 ((x4_1.length : Int) - 1))).f1⟩ : S35)]) (x5_1.drop (t312 : Int).toNat)) else (none)) else (none)) else (none)) else (none)) else (none)) else (if x4_1.length < 17592186044416 then (if 0 ≤ t312 then (if t312 ≤ (x5_1.length : Int) then (over_line.l0 k1 a0 (x4_1 ++ [(⟨t310, t311⟩ : S35)]) (x5_1.drop (t312 : Int).toNat)) else (none)) else (none)) else (none)))) else (if x4_1.length < 17592186044416 then (if 0 ≤ t312 then (if t312 ≤ (x5_1.length : Int) then (over_line.l0 k1 a0 (x4_1 ++ [(⟨t310, t311⟩ : S35)]) (x5_1.drop (t312 : Int).toNat)) else (none)) else (none)) else (none))) else (some (([] : List (S35)), false))) = some (r1, r2) := H
    have A5 := Aside0.mk A50
    clear A50
    by_cases c6 : t313 = 0
    ·rw [if_pos c6] at H
     have c6b0 : (t313 == 0) = true := beq_iff_eq.mpr c6
     have c6b1 : (t313 != 0) = false := bne_eq_false_iff_eq.mpr c6
     clear c6
     by_cases c7 : (x4_1.length : Int) > 0
     ·rw [if_pos c7] at H
      have c7b0 : decide (0 < (x4_1.length : Int)) = true := decide_eq_true c7
      have c7b1 : decide (0 < x4_1.length) = true := decide_eq_true (by omega)
      clear c7
      replace H := Option.bind_eq_some_iff.mp H
      obtain ⟨t315, A80, H⟩ := H
      replace H : (if t315 = 0 then (if 0 ≤ (wrap64 ((x4_1.length : Int) - 1)) then (if (wrap64 ((x4_1.length : Int) - 1)) < (x4_1.length : Int) then (if x4_1.length < 17592186044416 then (if 0 ≤ t312 then (if t312 ≤ (x5_1.length : Int) then (over_line.l0 k1 a0 (x4_1 ++ [(⟨t310, (rd_T35 x4_1 (wrap64 ((x4_1.length : Int) - 1))).f1⟩ : S35)]) (x5_1.drop (t312 : Int).toNat)) else (none)) else (none)) else (none)) else (none)) else (none)) else (if x4_1.length < 17592186044416 then (if 0 ≤ t312 then (if t312 ≤ (x5_1.length : Int) then (over_line.l0 k1 a0 (x4_1 ++ [(⟨t310, t311⟩ : S35)]) (x5_1.drop (t312 : Int).toNat)) else (none)) else (none)) else (none))) = some (r1, r2) := H
      have A8 := Aside0.mk A80
      clear A80
      by_cases c9 : t315 = 0
      ·rw [if_pos c9] at H
       have c9b0 : (t315 == 0) = true := beq_iff_eq.mpr c9
       have c9b1 : (t315 != 0) = false := bne_eq_false_iff_eq.mpr c9
       clear c9
       obtain ⟨ji10, hji10⟩ : ∃ j_ : Int, (wrap64 ((x4_1.length : Int) - 1)) = j_ := ⟨_, rfl⟩
       replace H : (if 0 ≤ (ji10) then (if (ji10) < (x4_1.length : Int) then (if x4_1.length < 17592186044416 then (if 0 ≤ t312 then (if t312 ≤ (x5_1.length : Int) then (over_line.l0 k1 a0 (x4_1 ++ [(⟨t310, (rd_T35 x4_1 (ji10)).f1⟩ : S35)]) (x5_1.drop (t312 : Int).toNat)) else (none)) else (none)) else (none)) else (none)) else (none)) = some (r1, r2) := by first | (rw [hji10] at H; exact H) | (simp only [hji10] at H ⊢; exact H)
       (try rw [hji10] at A5)
       (try rw [hji10] at A8)
       have hji10w : (IntKind.i64.wrap ((x4_1.length : Int) - 1)) = ji10 := (i64_w _).trans hji10
       by_cases c11 : 0 ≤ (ji10)
       ·rw [if_pos c11] at H
        have c11b0 : decide (0 ≤ (ji10)) = true := decide_eq_true c11
        clear c11
        by_cases c12 : (ji10) < (x4_1.length : Int)
        ·rw [if_pos c12] at H
         have c12b0 : decide ((ji10) < (x4_1.length : Int)) = true := decide_eq_true c12
         clear c12
         by_cases c13 : x4_1.length < 17592186044416
         ·rw [if_pos c13] at H
          have LMc13 := Aside0.mk c13
          clear c13
          obtain ⟨y317, hy317⟩ : ∃ y_ : List (S35), y_ = (x4_1 ++ [(⟨t310, (rd_T35 x4_1 (ji10)).f1⟩ : S35)]) := ⟨_, rfl⟩
          replace H : (if 0 ≤ t312 then (if t312 ≤ (x5_1.length : Int) then (over_line.l0 k1 a0 y317 (x5_1.drop (t312 : Int).toNat)) else (none)) else (none)) = some (r1, r2) := hyA hy317 H
          have Ny317 := Aside0.mk hy317
          clear hy317
          by_cases c14 : 0 ≤ t312
          ·rw [if_pos c14] at H
           have c14b0 := eq_true c14
           have c14b1 : decide (0 ≤ t312) = true := decide_eq_true c14
           clear c14
           by_cases c15 : t312 ≤ (x5_1.length : Int)
           ·rw [if_pos c15] at H
            have c15b0 := eq_true c15
            have c15b1 : decide (t312 ≤ (x5_1.length : Int)) = true := decide_eq_true c15
            clear c15
            obtain ⟨y320, hy320⟩ : ∃ y_ : List Int, y_ = (x5_1.drop (t312 : Int).toNat) := ⟨_, rfl⟩
            replace H : (over_line.l0 k1 a0 y317 y320) = some (r1, r2) := hyA hy320 H
            have Ny320 := Aside0.mk hy320
            clear hy320
            have H' := Aside0.mk H
            clear H
            obtain ⟨Ao16, co16, eo16⟩ := Kd.V_slice HO_5.out
            subst eo16
            try go_wp2_with (first | ((with_reducible refine gate_callee (f := 20) rfl ?_); refine goesL_ (some 17) rfl rfl Tryd.func20 (by kernel_rfl) rfl #[.slice Ao16 x5_1.length co16] rfl aP ?_; (with_reducible refine (over_Take.calls k1 _ _ x5_1 t310 t311 t312 t313 _ ?side1 ?side2 ?side3 A5.out).mono ?_); (case side1 => repeat (first | exact (Kd.V_reads' HO_5.out).2.2 | (with_reducible refine Kd.C_alloc ?_ _) | (with_reducible refine Kd.C_drewN ?_ _) | (with_reducible refine Kd.C_drew ?_))); (case side2 => exact (Kd.V_reads' HO_5.out).2.1); (case side3 => exact GOK.of_below (GOK.sub HG.out rfl) bA); rintro e w17 ⟨rfl, hb⟩; refine ⟨_, rfl, ?_⟩; replace HO_4 := Aside0.mk (Kd.R_below (kR HO_4) hb); replace HO_5 := Aside0.mk (Kd.V_below (kV HO_5) hb); replace HB := Aside0.mk (below_step bA hb); (try clear hb); (try clear hb2); (try clear hk); (try clear hi)) | ((with_reducible refine gate_dst (N := 6) rfl ?_); refine box_event ?hg (N := 6) ?hd (cs := #[.int .i32 0, .int .u8 0]) (t := 35) ?hr ?_; (case hd => rfl); (case hg => rfl); (case hr => first | (go_simp; done) | (go_simp; rfl)); intro gb314 hg w18 hbox hb; replace HO_4 := Aside0.mk (Kd.R_below (Kd.R_elderB (kR HO_4) gb314 (Nat.le_of_eq hg.symm)) hb); replace HO_5 := Aside0.mk (Kd.V_below (Kd.V_elderB (kV HO_5) gb314 (Nat.le_of_eq hg.symm)) hb); have BK314 := Aside0.mk (hbox); have GW314 := Aside0.mk ((geA hg : w.heap.size ≤ gb314)); have GE314 := Aside0.mk ((geA hg : w.heap.size ≤ gb314)); replace HB := Aside0.mk (below_step bA hb); clear hb hbox hg; have hcz19_0 : w18.cell? ⟨gb314, 0, none⟩ = some (.int .i32 0) := (blk_cell BK314.out 0).trans rfl; have hcz19_1 : w18.cell? ⟨gb314, 1, none⟩ = some (.int .u8 0) := (blk_cell BK314.out 1).trans rfl; have hfz19_0 := blk_frozen BK314.out 0; have hfz19_1 := blk_frozen BK314.out 1; obtain ⟨Ao20, co20, eo20⟩ := Kd.R_slice HO_4.out; subst eo20) | (go_at_call 47; (with_reducible refine (runes_Width.calls t310 t315 _ ?side1 A8.out).mono ?_); (case side1 => exact GOK.of_below (GOK.sub HG.out rfl) bG); rintro e w' ⟨rfl, ⟨nd, rfl⟩⟩; have p316 : 0 ≤ ((ji10) : Int) := of_decide_eq_true asA; have q316 : (ji10) < (x4_1.length : Int) := of_decide_eq_true asA; obtain ⟨ad316, e316, hx316_0, hx316_1⟩ := at_T35 (Kd.R_reads' HO_4.out).2.2 (ji10) p316 q316; cases e316; have hn316_0 : ad316.block ≠ gb314 := Kd.own_blk (by first | exact Kd.R_ne HO_4.out BK314.out (by decide) | (intro e_; have h_ := HO_4.out.1 _ e_.symm; simp at h_)); have hn316_1 : ad316.block ≠ gb314 := Kd.own_blk (by first | exact Kd.R_ne HO_4.out BK314.out (by decide) | (intro e_; have h_ := HO_4.out.1 _ e_.symm; simp at h_)); replace hx316_0 := (cell_far (p := ⟨gb314, 0, none⟩) (by first | (rw [add_block]; exact hn316_0) | (show (Addr.add _ _).block ≠ _; rw [add_block]; exact hn316_0) | exact hn316_0) (.int .i32 t310)).trans hx316_0; replace hx316_1 := (cell_far (p := ⟨gb314, 0, none⟩) (by first | (rw [add_block]; exact hn316_0) | (show (Addr.add _ _).block ≠ _; rw [add_block]; exact hn316_0) | exact hn316_0) (.int .i32 t310)).trans hx316_1; replace hx316_0 := (cell_far (p := ⟨gb314, 1, none⟩) (by first | (rw [add_block]; exact hn316_1) | (show (Addr.add _ _).block ≠ _; rw [add_block]; exact hn316_1) | exact hn316_1) (.int .u8 t311)).trans hx316_0; replace hx316_1 := (cell_far (p := ⟨gb314, 1, none⟩) (by first | (rw [add_block]; exact hn316_1) | (show (Addr.add _ _).block ≠ _; rw [add_block]; exact hn316_1) | exact hn316_1) (.int .u8 t311)).trans hx316_1; clear hn316_0; clear hn316_1; replace p316 := eq_true p316; replace q316 := eq_true q316))
            (try simp only [drewN_setCell])
            have n0_ : Aside0 (Kd.R k35 35 (((w18.setCell ⟨gb314, 0, none⟩ (.int .i32 t310)).setCell ⟨gb314, 1, none⟩ (.int .u8 t311)).setCell ⟨gb314, 1, none⟩ (.int .u8 ((rd_T35 x4_1 (ji10)).f1))) w.heap.size (fun k_ => k_ ≠ gb314) (.slice (some ad316) x4_1.length co20) x4_1) := ⟨by (with_reducible repeat (first | apply Kd.R_alloc | apply Kd.R_drewN | apply Kd.R_drew)); exact Kd.R_mono (Kd.R_far (p := ⟨gb314, 1, none⟩) (Kd.R_far (p := ⟨gb314, 1, none⟩) (Kd.R_far (p := ⟨gb314, 0, none⟩) (Kd.R_mono HO_4.out (fun k_ hk => (⟨hk, hk.2⟩ : _ ∧ k_ ≠ gb314))) (fun _ hk => hk.2) (.int .i32 t310)) (fun _ hk => hk.2) (.int .u8 t311)) (fun _ hk => hk.2) (.int .u8 ((rd_T35 x4_1 (ji10)).f1))) (fun _ hk => hk.1.2)⟩
            have n1_ : Aside0 (Kd.V (Kd.int .u8) 5 (((w18.setCell ⟨gb314, 0, none⟩ (.int .i32 t310)).setCell ⟨gb314, 1, none⟩ (.int .u8 t311)).setCell ⟨gb314, 1, none⟩ (.int .u8 ((rd_T35 x4_1 (ji10)).f1))) w.heap.size (fun k_ => some k_ ≠ (.slice (some ad316) x4_1.length co20 : Value).ownBlock ∧ k_ ≠ gb314) (.slice Ao16 x5_1.length co16) x5_1) := ⟨by (with_reducible repeat (first | apply Kd.V_alloc | apply Kd.V_drewN | apply Kd.V_drew)); exact Kd.V_mono (Kd.V_far (p := ⟨gb314, 1, none⟩) (Kd.V_far (p := ⟨gb314, 1, none⟩) (Kd.V_far (p := ⟨gb314, 0, none⟩) (Kd.V_mono HO_5.out (fun k_ hk => (⟨hk, hk.2⟩ : _ ∧ k_ ≠ gb314))) (fun _ hk => hk.2) (.int .i32 t310)) (fun _ hk => hk.2) (.int .u8 t311)) (fun _ hk => hk.2) (.int .u8 ((rd_T35 x4_1 (ji10)).f1))) (fun _ hk => ⟨hk.1.1, hk.1.2⟩)⟩
            have n2_ : Aside0 ((((w18.setCell ⟨gb314, 0, none⟩ (.int .i32 t310)).setCell ⟨gb314, 1, none⟩ (.int .u8 t311)).setCell ⟨gb314, 1, none⟩ (.int .u8 ((rd_T35 x4_1 (ji10)).f1))).heap[gb314]? = some (.cells #[.int .i32 t310, .int .u8 ((rd_T35 x4_1 (ji10)).f1)] 35 (0, 0))) := ⟨by (with_reducible repeat (first | refine blk_drewN ?_ _ | refine blk_drew ?_ | refine blk_alloc ?_ _)); refine blk_put (cs := #[.int .i32 t310, .int .u8 t311]) ?_ 1 _ rfl; (with_reducible repeat (first | refine blk_drewN ?_ _ | refine blk_drew ?_ | refine blk_alloc ?_ _)); refine blk_put (cs := #[.int .i32 t310, .int .u8 0]) ?_ 1 _ rfl; (with_reducible repeat (first | refine blk_drewN ?_ _ | refine blk_drew ?_ | refine blk_alloc ?_ _)); refine blk_put (cs := #[.int .i32 0, .int .u8 0]) ?_ 0 _ rfl; (with_reducible repeat (first | refine blk_drewN ?_ _ | refine blk_drew ?_ | refine blk_alloc ?_ _)); exact BK314.out⟩
            have n3_ : Aside0 (Below w.heap.size w (((w18.setCell ⟨gb314, 0, none⟩ (.int .i32 t310)).setCell ⟨gb314, 1, none⟩ (.int .u8 t311)).setCell ⟨gb314, 1, none⟩ (.int .u8 ((rd_T35 x4_1 (ji10)).f1)))) := ⟨bG⟩
            (try clear HO_4)
            (try clear HO_5)
            (try clear BK314)
            (try clear HB)
            generalize (((w18.setCell ⟨gb314, 0, none⟩ (.int .i32 t310)).setCell ⟨gb314, 1, none⟩ (.int .u8 t311)).setCell ⟨gb314, 1, none⟩ (.int .u8 ((rd_T35 x4_1 (ji10)).f1))) = w21 at n0_ n1_ n2_ n3_ ⊢
            have HO_4 := n0_
            have HO_5 := n1_
            have BK314 := n2_
            have HB := n3_
            clear n0_ n1_ n2_ n3_
            (try (rw [drewN_self w21]; generalize hq_ : World.drewN w21 _ = w21; have n0_ : Aside0 (Kd.R k35 35 w21 w.heap.size (fun k_ => k_ ≠ gb314) (.slice (some ad316) x4_1.length co20) x4_1) := ⟨by rw [← hq_]; exact (kR HO_4)⟩; have n1_ : Aside0 (Kd.V (Kd.int .u8) 5 w21 w.heap.size (fun k_ => some k_ ≠ (.slice (some ad316) x4_1.length co20 : Value).ownBlock ∧ k_ ≠ gb314) (.slice Ao16 x5_1.length co16) x5_1) := ⟨by rw [← hq_]; exact (kV HO_5)⟩; have n2_ : Aside0 (w21.heap[gb314]? = some (.cells #[.int .i32 t310, .int .u8 ((rd_T35 x4_1 (ji10)).f1)] 35 (0, 0))) := ⟨by rw [← hq_]; exact (kB BK314)⟩; have n3_ : Aside0 (Below w.heap.size w w21) := ⟨by rw [← hq_]; exact bG⟩; clear HO_4 HO_5 BK314 HB hq_; have HO_4 := n0_; have HO_5 := n1_; have BK314 := n2_; have HB := n3_; clear n0_ n1_ n2_ n3_))
            have n0_ := Aside0.mk (Kd.R_drew HO_4.out)
            have n1_ := Aside0.mk (Kd.V_drew HO_5.out)
            have n2_ := Aside0.mk (blk_drew BK314.out)
            have n3_ := Aside0.mk (below_drew1 HB.out)
            clear HO_4
            clear HO_5
            clear BK314
            clear HB
            have HO_4 := n0_
            have HO_5 := n1_
            have BK314 := n2_
            have HB := n3_
            clear n0_ n1_ n2_ n3_
            have q23 : (t312 : Int) ≤ ((x5_1.length : Int) : Int) := of_decide_eq_true asA
            obtain ⟨i023, hi023, _, hsz23, _⟩ := info_parts info5
            have hroom23 : x5_1.length ≤ co16 := (Kd.V_reads' HO_5.out).2.1
            have hC23 : Kd.F (Kd.int .u8) _ _ Ao16 x5_1.length x5_1 := (Kd.V_at (base := w.heap.size) HO_5.out).2.2
            have q023 : (0 : Int) ≤ (t312 : Int) := of_decide_eq_true asA
            have hcut23 := cut_from (P := Tryd.prog) 25 5 .i64 Tryd.underlying25 hi023 1 hsz23 Ao16 x5_1.length co16 t312 q023 q23
            have hr23 := Kd.F_cut (m := (t312 : Int).toNat) (c := co16) hC23 (by omega) hroom23
            obtain ⟨A23, hA23⟩ : ∃ A1, A1 = (if co16 = (t312 : Int).toNat then Ao16 else (Ao16 : Option Addr).map (·.add ((t312 : Int).toNat * 1))) := ⟨_, rfl⟩
            obtain ⟨c23, hc23⟩ : ∃ c1, c1 = co16 - (t312 : Int).toNat := ⟨_, rfl⟩
            have hy23 : y320.length = x5_1.length - (t312 : Int).toNat := (by rw [Ny320.out, List.length_drop] <;> omega)
            rw [show (x5_1).drop (t312 : Int).toNat = y320 from Ny320.out.symm] at hr23
            replace hr23 : Kd.F (Kd.int .u8) _ _ A23 y320.length y320 := (by rw [hA23]; exact hr23)
            rw [← hy23, ← hA23, ← hc23] at hcut23
            have HO324 := Aside0.mk (show Kd.V (Kd.int .u8) 5 _ w.heap.size _ (.slice A23 y320.length c23) y320 from Kd.V_mk (by rw [hy23, hc23]; exact Nat.sub_le_sub_right hroom23 _) hr23)
            have HC324 := Aside0.mk (show y320.length ≤ c23 from by rw [hy23, hc23]; exact Nat.sub_le_sub_right hroom23 _)
            clear hr23 hC23 hroom23 hi023 hsz23 hc23
            have KY23 := Aside0.mk hy23
            have KA23 := Aside0.mk hA23
            clear hy23 hA23
            replace q23 := eq_true q23
            refine start_ (n := 9) (S := fun w' => w'.cell? ⟨gb314, 0, none⟩ = some (.int .i32 t310) ∧ w'.cell? ⟨gb314, 1, none⟩ = some (.int .u8 ((rd_T35 x4_1 (ji10)).f1))) (ds := []) #[false, false, false, false, false, false, false, false, false] (by kernel_rfl) rfl rfl ⟨(blk_cell BK314.out 0).trans rfl, (blk_cell BK314.out 1).trans rfl⟩ (fun hHeld => ?_); refine with_tabW over_line.tab10 over_line.bits10 (fun HT_ HW_ => ?_)
            generalize w21.drew = w22 at HO_4 HO_5 BK314 HB HO324 hHeld ⊢
            refine pure_ (i := 0) (N := some 40) (v := ?_) (a' := ?_) #[true, false, false, false, false, false, false, false, false] rfl rfl (any_of HT_.out (by kernel_rfl)) (fun _ _ _ h => h) (Or.inl ⟨by rfl, ?_⟩) ?_ ?_
            rotate_left
            ·intro w'
             go_simp
             with_reducible rfl
            rotate_left
            ·simp only [Act.put, List.setIfInBounds_toArray, List.set_cons_zero, List.set_cons_succ, i64_w, i32_w]
             rfl
            refine pure_ (i := 4) (N := some 44) (v := ?_) (a' := ?_) #[true, false, false, false, true, false, false, false, false] rfl rfl (any_of HT_.out (by kernel_rfl)) (fun _ _ _ h => h) (Or.inl ⟨by rfl, ?_⟩) ?_ ?_
            rotate_left
            ·intro w'
             go_simp
             with_reducible rfl
            rotate_left
            ·simp only [Act.put, List.setIfInBounds_toArray, List.set_cons_zero, List.set_cons_succ, i64_w, i32_w]
             rfl
            refine pure_ (i := 5) (N := some 45) (v := ?_) (a' := ?_) #[true, false, false, false, true, true, false, false, false] rfl rfl (any_of HT_.out (by kernel_rfl)) (fun _ _ _ h => h) (Or.inl ⟨by rfl, ?_⟩) ?_ ?_
            rotate_left
            ·intro w'
             go_simp
             with_reducible rfl
            rotate_left
            ·simp only [Act.put, List.setIfInBounds_toArray, List.set_cons_zero, List.set_cons_succ, i64_w, i32_w]
             rfl
            refine pure_ (i := 6) (N := some 46) (v := ?_) (a' := ?_) #[true, false, false, false, true, true, true, false, false] rfl rfl (any_of HT_.out (by kernel_rfl)) (fun _ _ _ h => h) (Or.inl ⟨by rfl, ?_⟩) ?_ ?_
            rotate_left
            ·intro w'
             go_simp
             with_reducible rfl
            rotate_left
            ·simp only [Act.put, List.setIfInBounds_toArray, List.set_cons_zero, List.set_cons_succ, i64_w, i32_w]
             rfl
            refine take_ (i := 1) (N := some 41) (v := ?_) (a' := ?_) #[true, true, false, false, true, true, true, false, false] rfl rfl (take_ofW HT_.out HW_.out (by kernel_rfl)) (fun _ _ _ h => h) (Or.inl ⟨by rfl, ?_⟩) hHeld ?_ ?_
            rotate_left
            ·rintro w' ⟨s0, s1⟩
             go_simp
             with_reducible rfl
            rotate_left
            ·simp only [Act.put, List.setIfInBounds_toArray, List.set_cons_zero, List.set_cons_succ, i64_w, i32_w]
             rfl
            refine one_ (i := 2) (N := some 42) #[true, true, true, false, true, true, true, false, false] rfl rfl (one_of HT_.out (by kernel_rfl)) (by decide) (fun K hK => ?_)
            refine value_ (w1 := ?_) (v := ?_) (by rfl) rfl ?_ ?_
            rotate_left 2
            ·go_simp
             constructor
             ·rfl
             ·rfl
            refine hK.out _ _ ⟨(blk_cell (blk_alloc BK314.out _) 0).trans rfl, (blk_cell (blk_alloc BK314.out _) 1).trans rfl⟩ (fun hHeld => ?_)
            clear hK K
            refine norm_ (a' := ?_) ?_ ?_
            rotate_left
            ·show Act.put _ (some 42) _ = _
             simp only [Act.put, List.setIfInBounds_toArray, List.set_cons_zero, List.set_cons_succ, i64_w, i32_w]
             rfl
            refine one_ (i := 3) (N := some 43) #[true, true, true, true, true, true, true, false, false] rfl rfl (one_of HT_.out (by kernel_rfl)) (by decide) (fun K hK => ?_)
            refine Kd.R_append_step k35 (w0 := w) w.heap.size (by rfl) (.tmp 40) (.tmp 42) 27 35 (.agg #[(.int .i32 0), (.int .u8 0)]) 8 rfl Tryd.underlying27 info35 rfl (by decide) (by omega) (.slice (some ad316) x4_1.length co20) x4_1 (⟨t310, (rd_T35 x4_1 (ji10)).f1⟩ : S35) [.int .i32 t310, .int .u8 ((rd_T35 x4_1 (ji10)).f1)] (fun k_ => k_ ≠ gb314) (fun _ => False) rfl rfl ?aP (fun _ hk => hk.elim) ?aF ?aO ?aB ?aS ?aL ?_
            (case aP => exact k35_mkM _ _ _ (⟨t310, (rd_T35 x4_1 (ji10)).f1⟩ : S35))
            (case aB => exact bG)
            (case aF => exact (fun k_ hk => Kd.freshB (g := gb314) (o := .cells #[.int .i32 t310, .int .u8 ((rd_T35 x4_1 (ji10)).f1)] 35 (0, 0)) (kB BK314) k_ hk))
            (case aO => exact (kR HO_4))
            (case aS => exact (below_size bG))
            (case aL => have := LMc13.out; omega)
            intro v318 w24 ho hb hg hat
            rw [← Ny317.out] at ho
            have n0_ := Aside0.mk (Kd.V_afterv (ok := (fun k_ => k_ ≠ gb314)) (by (with_reducible repeat (first | apply Kd.V_alloc | apply Kd.V_drewN | apply Kd.V_drew)); exact Kd.V_mono HO_5.out (fun _ hk => ⟨hk.2, hk.1⟩)) hg hat)
            have n1_ := Aside0.mk (blk_grown (g := gb314) (o := .cells #[.int .i32 t310, .int .u8 ((rd_T35 x4_1 (ji10)).f1)] 35 (0, 0)) (kB BK314) hg (Kd.R_away HO_4.out (fun _ hk => hk)))
            have n2_ := Aside0.mk (Kd.V_afterv (ok := (fun k_ => k_ ≠ gb314)) (by (with_reducible repeat (first | apply Kd.V_alloc | apply Kd.V_drewN | apply Kd.V_drew)); exact Kd.V_mono HO324.out (fun _ hk => ⟨hk.2, hk.1⟩)) hg hat)
            have n3_ := Aside0.mk (hb)
            have n4_ := Aside0.mk (ho)
            clear HO_5
            clear BK314
            clear HO324
            clear HB
            clear HO_4
            have HO_5 := n0_
            have BK314 := n1_
            have HO324 := n2_
            have HB := n3_
            have HO319 := n4_
            clear n0_ n1_ n2_ n3_ n4_
            clear ho hb hg hat
            refine hK.out _ _ ⟨(blk_cell BK314.out 0).trans rfl, (blk_cell BK314.out 1).trans rfl⟩ (fun hHeld => ?_)
            clear hK K
            refine norm_ (a' := ?_) ?_ ?_
            rotate_left
            ·show Act.put _ (some 43) _ = _
             simp only [Act.put, List.setIfInBounds_toArray, List.set_cons_zero, List.set_cons_succ, i64_w, i32_w]
             rfl
            refine pure_ (i := 7) (N := some 4) (v := ?_) (a' := ?_) #[true, true, true, true, true, true, true, true, false] rfl rfl (any_of HT_.out (by kernel_rfl)) (fun _ _ _ h => h) (Or.inl ⟨by rfl, ?_⟩) ?_ ?_
            rotate_left
            ·intro w'
             go_simp
             with_reducible rfl
            rotate_left
            ·simp only [Act.put, List.setIfInBounds_toArray, List.set_cons_zero, List.set_cons_succ, i64_w, i32_w]
             rfl
            refine pure_ (i := 8) (N := some 5) (v := ?_) (a' := ?_) #[true, true, true, true, true, true, true, true, true] rfl rfl (any_of HT_.out (by kernel_rfl)) (fun _ _ _ h => h) (Or.inl ⟨by rfl, ?_⟩) ?_ ?_
            rotate_left
            ·intro w'
             go_simp
             with_reducible rfl
            rotate_left
            ·simp only [Act.put, List.setIfInBounds_toArray, List.set_cons_zero, List.set_cons_succ, i64_w, i32_w]
             rfl
            refine done_ (done_of HT_.out (by kernel_rfl)) ?_
            try go_wp2
            go_roundg k1
            case measure => have := HK1.out; omega
            case rel => exact ⟨(y317), (y320), H', ⟨by have := HK1.out; omega⟩, ⟨by (with_reducible repeat (first | apply Kd.R_alloc | apply Kd.R_drewN | apply Kd.R_drew)); exact Kd.R_mono HO319.out (fun _ hk => trivial)⟩, ⟨by (with_reducible repeat (first | apply Kd.V_alloc | apply Kd.V_drewN | apply Kd.V_drew)); exact Kd.V_mono HO324.out (fun _ hk => hk.2)⟩, ⟨bG⟩⟩
           ·rw [if_neg c15] at H
            exact absurd H (by simp)
          ·rw [if_neg c14] at H
           exact absurd H (by simp)
         ·rw [if_neg c13] at H
          exact absurd H (by simp)
        ·rw [if_neg c12] at H
         exact absurd H (by simp)
       ·rw [if_neg c11] at H
        exact absurd H (by simp)
      ·rw [if_neg c9] at H
       have c9b0 : (t315 == 0) = false := beq_eq_false_iff_ne.mpr c9
       have c9b1 : (t315 != 0) = true := bne_iff_ne.mpr c9
       by_cases c25 : x4_1.length < 17592186044416
       ·rw [if_pos c25] at H
        have LMc25 := Aside0.mk c25
        clear c25
        obtain ⟨y325, hy325⟩ : ∃ y_ : List (S35), y_ = (x4_1 ++ [(⟨t310, t311⟩ : S35)]) := ⟨_, rfl⟩
        replace H : (if 0 ≤ t312 then (if t312 ≤ (x5_1.length : Int) then (over_line.l0 k1 a0 y325 (x5_1.drop (t312 : Int).toNat)) else (none)) else (none)) = some (r1, r2) := hyA hy325 H
        have Ny325 := Aside0.mk hy325
        clear hy325
        by_cases c26 : 0 ≤ t312
        ·rw [if_pos c26] at H
         have c26b0 := eq_true c26
         have c26b1 : decide (0 ≤ t312) = true := decide_eq_true c26
         clear c26
         by_cases c27 : t312 ≤ (x5_1.length : Int)
         ·rw [if_pos c27] at H
          have c27b0 := eq_true c27
          have c27b1 : decide (t312 ≤ (x5_1.length : Int)) = true := decide_eq_true c27
          clear c27
          obtain ⟨y328, hy328⟩ : ∃ y_ : List Int, y_ = (x5_1.drop (t312 : Int).toNat) := ⟨_, rfl⟩
          replace H : (over_line.l0 k1 a0 y325 y328) = some (r1, r2) := hyA hy328 H
          have Ny328 := Aside0.mk hy328
          clear hy328
          have H' := Aside0.mk H
          clear H
          obtain ⟨Ao28, co28, eo28⟩ := Kd.V_slice HO_5.out
          subst eo28
          try go_wp2_with (first | ((with_reducible refine gate_callee (f := 20) rfl ?_); refine goesL_ (some 17) rfl rfl Tryd.func20 (by kernel_rfl) rfl #[.slice Ao28 x5_1.length co28] rfl aP ?_; (with_reducible refine (over_Take.calls k1 _ _ x5_1 t310 t311 t312 t313 _ ?side1 ?side2 ?side3 A5.out).mono ?_); (case side1 => repeat (first | exact (Kd.V_reads' HO_5.out).2.2 | (with_reducible refine Kd.C_alloc ?_ _) | (with_reducible refine Kd.C_drewN ?_ _) | (with_reducible refine Kd.C_drew ?_))); (case side2 => exact (Kd.V_reads' HO_5.out).2.1); (case side3 => exact GOK.of_below (GOK.sub HG.out rfl) bA); rintro e w29 ⟨rfl, hb⟩; refine ⟨_, rfl, ?_⟩; replace HO_4 := Aside0.mk (Kd.R_below (kR HO_4) hb); replace HO_5 := Aside0.mk (Kd.V_below (kV HO_5) hb); replace HB := Aside0.mk (below_step bA hb); (try clear hb); (try clear hb2); (try clear hk); (try clear hi)) | ((with_reducible refine gate_dst (N := 6) rfl ?_); refine box_event ?hg (N := 6) ?hd (cs := #[.int .i32 0, .int .u8 0]) (t := 35) ?hr ?_; (case hd => rfl); (case hg => rfl); (case hr => first | (go_simp; done) | (go_simp; rfl)); intro gb314 hg w30 hbox hb; replace HO_4 := Aside0.mk (Kd.R_below (Kd.R_elderB (kR HO_4) gb314 (Nat.le_of_eq hg.symm)) hb); replace HO_5 := Aside0.mk (Kd.V_below (Kd.V_elderB (kV HO_5) gb314 (Nat.le_of_eq hg.symm)) hb); have BK314 := Aside0.mk (hbox); have GW314 := Aside0.mk ((geA hg : w.heap.size ≤ gb314)); have GE314 := Aside0.mk ((geA hg : w.heap.size ≤ gb314)); replace HB := Aside0.mk (below_step bA hb); clear hb hbox hg; have hcz31_0 : w30.cell? ⟨gb314, 0, none⟩ = some (.int .i32 0) := (blk_cell BK314.out 0).trans rfl; have hcz31_1 : w30.cell? ⟨gb314, 1, none⟩ = some (.int .u8 0) := (blk_cell BK314.out 1).trans rfl; have hfz31_0 := blk_frozen BK314.out 0; have hfz31_1 := blk_frozen BK314.out 1; obtain ⟨Ao32, co32, eo32⟩ := Kd.R_slice HO_4.out; subst eo32) | (go_at_call 47; (with_reducible refine (runes_Width.calls t310 t315 _ ?side1 A8.out).mono ?_); (case side1 => exact GOK.of_below (GOK.sub HG.out rfl) bG); rintro e w' ⟨rfl, ⟨nd, rfl⟩⟩))
          (try simp only [drewN_setCell])
          have n0_ : Aside0 (Kd.R k35 35 ((w30.setCell ⟨gb314, 0, none⟩ (.int .i32 t310)).setCell ⟨gb314, 1, none⟩ (.int .u8 t311)) w.heap.size (fun k_ => k_ ≠ gb314) (.slice Ao32 x4_1.length co32) x4_1) := ⟨by (with_reducible repeat (first | apply Kd.R_alloc | apply Kd.R_drewN | apply Kd.R_drew)); exact Kd.R_mono (Kd.R_far (p := ⟨gb314, 1, none⟩) (Kd.R_far (p := ⟨gb314, 0, none⟩) (Kd.R_mono HO_4.out (fun k_ hk => (⟨hk, hk.2⟩ : _ ∧ k_ ≠ gb314))) (fun _ hk => hk.2) (.int .i32 t310)) (fun _ hk => hk.2) (.int .u8 t311)) (fun _ hk => hk.1.2)⟩
          have n1_ : Aside0 (Kd.V (Kd.int .u8) 5 ((w30.setCell ⟨gb314, 0, none⟩ (.int .i32 t310)).setCell ⟨gb314, 1, none⟩ (.int .u8 t311)) w.heap.size (fun k_ => some k_ ≠ (.slice Ao32 x4_1.length co32 : Value).ownBlock ∧ k_ ≠ gb314) (.slice Ao28 x5_1.length co28) x5_1) := ⟨by (with_reducible repeat (first | apply Kd.V_alloc | apply Kd.V_drewN | apply Kd.V_drew)); exact Kd.V_mono (Kd.V_far (p := ⟨gb314, 1, none⟩) (Kd.V_far (p := ⟨gb314, 0, none⟩) (Kd.V_mono HO_5.out (fun k_ hk => (⟨hk, hk.2⟩ : _ ∧ k_ ≠ gb314))) (fun _ hk => hk.2) (.int .i32 t310)) (fun _ hk => hk.2) (.int .u8 t311)) (fun _ hk => ⟨hk.1.1, hk.1.2⟩)⟩
          have n2_ : Aside0 (((w30.setCell ⟨gb314, 0, none⟩ (.int .i32 t310)).setCell ⟨gb314, 1, none⟩ (.int .u8 t311)).heap[gb314]? = some (.cells #[.int .i32 t310, .int .u8 t311] 35 (0, 0))) := ⟨by (with_reducible repeat (first | refine blk_drewN ?_ _ | refine blk_drew ?_ | refine blk_alloc ?_ _)); refine blk_put (cs := #[.int .i32 t310, .int .u8 0]) ?_ 1 _ rfl; (with_reducible repeat (first | refine blk_drewN ?_ _ | refine blk_drew ?_ | refine blk_alloc ?_ _)); refine blk_put (cs := #[.int .i32 0, .int .u8 0]) ?_ 0 _ rfl; (with_reducible repeat (first | refine blk_drewN ?_ _ | refine blk_drew ?_ | refine blk_alloc ?_ _)); exact BK314.out⟩
          have n3_ : Aside0 (Below w.heap.size w ((w30.setCell ⟨gb314, 0, none⟩ (.int .i32 t310)).setCell ⟨gb314, 1, none⟩ (.int .u8 t311))) := ⟨bG⟩
          (try clear HO_4)
          (try clear HO_5)
          (try clear BK314)
          (try clear HB)
          generalize ((w30.setCell ⟨gb314, 0, none⟩ (.int .i32 t310)).setCell ⟨gb314, 1, none⟩ (.int .u8 t311)) = w33 at n0_ n1_ n2_ n3_ ⊢
          have HO_4 := n0_
          have HO_5 := n1_
          have BK314 := n2_
          have HB := n3_
          clear n0_ n1_ n2_ n3_
          (try (rw [drewN_self w33]; generalize hq_ : World.drewN w33 _ = w33; have n0_ : Aside0 (Kd.R k35 35 w33 w.heap.size (fun k_ => k_ ≠ gb314) (.slice Ao32 x4_1.length co32) x4_1) := ⟨by rw [← hq_]; exact (kR HO_4)⟩; have n1_ : Aside0 (Kd.V (Kd.int .u8) 5 w33 w.heap.size (fun k_ => some k_ ≠ (.slice Ao32 x4_1.length co32 : Value).ownBlock ∧ k_ ≠ gb314) (.slice Ao28 x5_1.length co28) x5_1) := ⟨by rw [← hq_]; exact (kV HO_5)⟩; have n2_ : Aside0 (w33.heap[gb314]? = some (.cells #[.int .i32 t310, .int .u8 t311] 35 (0, 0))) := ⟨by rw [← hq_]; exact (kB BK314)⟩; have n3_ : Aside0 (Below w.heap.size w w33) := ⟨by rw [← hq_]; exact bG⟩; clear HO_4 HO_5 BK314 HB hq_; have HO_4 := n0_; have HO_5 := n1_; have BK314 := n2_; have HB := n3_; clear n0_ n1_ n2_ n3_))
          have n0_ := Aside0.mk (Kd.R_drew HO_4.out)
          have n1_ := Aside0.mk (Kd.V_drew HO_5.out)
          have n2_ := Aside0.mk (blk_drew BK314.out)
          have n3_ := Aside0.mk (below_drew1 HB.out)
          clear HO_4
          clear HO_5
          clear BK314
          clear HB
          have HO_4 := n0_
          have HO_5 := n1_
          have BK314 := n2_
          have HB := n3_
          clear n0_ n1_ n2_ n3_
          have q35 : (t312 : Int) ≤ ((x5_1.length : Int) : Int) := of_decide_eq_true asA
          obtain ⟨i035, hi035, _, hsz35, _⟩ := info_parts info5
          have hroom35 : x5_1.length ≤ co28 := (Kd.V_reads' HO_5.out).2.1
          have hC35 : Kd.F (Kd.int .u8) _ _ Ao28 x5_1.length x5_1 := (Kd.V_at (base := w.heap.size) HO_5.out).2.2
          have q035 : (0 : Int) ≤ (t312 : Int) := of_decide_eq_true asA
          have hcut35 := cut_from (P := Tryd.prog) 25 5 .i64 Tryd.underlying25 hi035 1 hsz35 Ao28 x5_1.length co28 t312 q035 q35
          have hr35 := Kd.F_cut (m := (t312 : Int).toNat) (c := co28) hC35 (by omega) hroom35
          obtain ⟨A35, hA35⟩ : ∃ A1, A1 = (if co28 = (t312 : Int).toNat then Ao28 else (Ao28 : Option Addr).map (·.add ((t312 : Int).toNat * 1))) := ⟨_, rfl⟩
          obtain ⟨c35, hc35⟩ : ∃ c1, c1 = co28 - (t312 : Int).toNat := ⟨_, rfl⟩
          have hy35 : y328.length = x5_1.length - (t312 : Int).toNat := (by rw [Ny328.out, List.length_drop] <;> omega)
          rw [show (x5_1).drop (t312 : Int).toNat = y328 from Ny328.out.symm] at hr35
          replace hr35 : Kd.F (Kd.int .u8) _ _ A35 y328.length y328 := (by rw [hA35]; exact hr35)
          rw [← hy35, ← hA35, ← hc35] at hcut35
          have HO332 := Aside0.mk (show Kd.V (Kd.int .u8) 5 _ w.heap.size _ (.slice A35 y328.length c35) y328 from Kd.V_mk (by rw [hy35, hc35]; exact Nat.sub_le_sub_right hroom35 _) hr35)
          have HC332 := Aside0.mk (show y328.length ≤ c35 from by rw [hy35, hc35]; exact Nat.sub_le_sub_right hroom35 _)
          clear hr35 hC35 hroom35 hi035 hsz35 hc35
          have KY35 := Aside0.mk hy35
          have KA35 := Aside0.mk hA35
          clear hy35 hA35
          replace q35 := eq_true q35
          refine start_ (n := 9) (S := fun w' => w'.cell? ⟨gb314, 0, none⟩ = some (.int .i32 t310) ∧ w'.cell? ⟨gb314, 1, none⟩ = some (.int .u8 t311)) (ds := []) #[false, false, false, false, false, false, false, false, false] (by kernel_rfl) rfl rfl ⟨(blk_cell BK314.out 0).trans rfl, (blk_cell BK314.out 1).trans rfl⟩ (fun hHeld => ?_); refine with_tabW over_line.tab10 over_line.bits10 (fun HT_ HW_ => ?_)
          generalize w33.drew = w34 at HO_4 HO_5 BK314 HB HO332 hHeld ⊢
          refine pure_ (i := 0) (N := some 40) (v := ?_) (a' := ?_) #[true, false, false, false, false, false, false, false, false] rfl rfl (any_of HT_.out (by kernel_rfl)) (fun _ _ _ h => h) (Or.inl ⟨by rfl, ?_⟩) ?_ ?_
          rotate_left
          ·intro w'
           go_simp
           with_reducible rfl
          rotate_left
          ·simp only [Act.put, List.setIfInBounds_toArray, List.set_cons_zero, List.set_cons_succ, i64_w, i32_w]
           rfl
          refine pure_ (i := 4) (N := some 44) (v := ?_) (a' := ?_) #[true, false, false, false, true, false, false, false, false] rfl rfl (any_of HT_.out (by kernel_rfl)) (fun _ _ _ h => h) (Or.inl ⟨by rfl, ?_⟩) ?_ ?_
          rotate_left
          ·intro w'
           go_simp
           with_reducible rfl
          rotate_left
          ·simp only [Act.put, List.setIfInBounds_toArray, List.set_cons_zero, List.set_cons_succ, i64_w, i32_w]
           rfl
          refine pure_ (i := 5) (N := some 45) (v := ?_) (a' := ?_) #[true, false, false, false, true, true, false, false, false] rfl rfl (any_of HT_.out (by kernel_rfl)) (fun _ _ _ h => h) (Or.inl ⟨by rfl, ?_⟩) ?_ ?_
          rotate_left
          ·intro w'
           go_simp
           with_reducible rfl
          rotate_left
          ·simp only [Act.put, List.setIfInBounds_toArray, List.set_cons_zero, List.set_cons_succ, i64_w, i32_w]
           rfl
          refine pure_ (i := 6) (N := some 46) (v := ?_) (a' := ?_) #[true, false, false, false, true, true, true, false, false] rfl rfl (any_of HT_.out (by kernel_rfl)) (fun _ _ _ h => h) (Or.inl ⟨by rfl, ?_⟩) ?_ ?_
          rotate_left
          ·intro w'
           go_simp
           with_reducible rfl
          rotate_left
          ·simp only [Act.put, List.setIfInBounds_toArray, List.set_cons_zero, List.set_cons_succ, i64_w, i32_w]
           rfl
          refine take_ (i := 1) (N := some 41) (v := ?_) (a' := ?_) #[true, true, false, false, true, true, true, false, false] rfl rfl (take_ofW HT_.out HW_.out (by kernel_rfl)) (fun _ _ _ h => h) (Or.inl ⟨by rfl, ?_⟩) hHeld ?_ ?_
          rotate_left
          ·rintro w' ⟨s0, s1⟩
           go_simp
           with_reducible rfl
          rotate_left
          ·simp only [Act.put, List.setIfInBounds_toArray, List.set_cons_zero, List.set_cons_succ, i64_w, i32_w]
           rfl
          refine one_ (i := 2) (N := some 42) #[true, true, true, false, true, true, true, false, false] rfl rfl (one_of HT_.out (by kernel_rfl)) (by decide) (fun K hK => ?_)
          refine value_ (w1 := ?_) (v := ?_) (by rfl) rfl ?_ ?_
          rotate_left 2
          ·go_simp
           constructor
           ·rfl
           ·rfl
          refine hK.out _ _ ⟨(blk_cell (blk_alloc BK314.out _) 0).trans rfl, (blk_cell (blk_alloc BK314.out _) 1).trans rfl⟩ (fun hHeld => ?_)
          clear hK K
          refine norm_ (a' := ?_) ?_ ?_
          rotate_left
          ·show Act.put _ (some 42) _ = _
           simp only [Act.put, List.setIfInBounds_toArray, List.set_cons_zero, List.set_cons_succ, i64_w, i32_w]
           rfl
          refine one_ (i := 3) (N := some 43) #[true, true, true, true, true, true, true, false, false] rfl rfl (one_of HT_.out (by kernel_rfl)) (by decide) (fun K hK => ?_)
          refine Kd.R_append_step k35 (w0 := w) w.heap.size (by rfl) (.tmp 40) (.tmp 42) 27 35 (.agg #[(.int .i32 0), (.int .u8 0)]) 8 rfl Tryd.underlying27 info35 rfl (by decide) (by omega) (.slice Ao32 x4_1.length co32) x4_1 (⟨t310, t311⟩ : S35) [.int .i32 t310, .int .u8 t311] (fun k_ => k_ ≠ gb314) (fun _ => False) rfl rfl ?aP (fun _ hk => hk.elim) ?aF ?aO ?aB ?aS ?aL ?_
          (case aP => exact k35_mkM _ _ _ (⟨t310, t311⟩ : S35))
          (case aB => exact bG)
          (case aF => exact (fun k_ hk => Kd.freshB (g := gb314) (o := .cells #[.int .i32 t310, .int .u8 t311] 35 (0, 0)) (kB BK314) k_ hk))
          (case aO => exact (kR HO_4))
          (case aS => exact (below_size bG))
          (case aL => have := LMc25.out; omega)
          intro v326 w36 ho hb hg hat
          rw [← Ny325.out] at ho
          have n0_ := Aside0.mk (Kd.V_afterv (ok := (fun k_ => k_ ≠ gb314)) (by (with_reducible repeat (first | apply Kd.V_alloc | apply Kd.V_drewN | apply Kd.V_drew)); exact Kd.V_mono HO_5.out (fun _ hk => ⟨hk.2, hk.1⟩)) hg hat)
          have n1_ := Aside0.mk (blk_grown (g := gb314) (o := .cells #[.int .i32 t310, .int .u8 t311] 35 (0, 0)) (kB BK314) hg (Kd.R_away HO_4.out (fun _ hk => hk)))
          have n2_ := Aside0.mk (Kd.V_afterv (ok := (fun k_ => k_ ≠ gb314)) (by (with_reducible repeat (first | apply Kd.V_alloc | apply Kd.V_drewN | apply Kd.V_drew)); exact Kd.V_mono HO332.out (fun _ hk => ⟨hk.2, hk.1⟩)) hg hat)
          have n3_ := Aside0.mk (hb)
          have n4_ := Aside0.mk (ho)
          clear HO_5
          clear BK314
          clear HO332
          clear HB
          clear HO_4
          have HO_5 := n0_
          have BK314 := n1_
          have HO332 := n2_
          have HB := n3_
          have HO327 := n4_
          clear n0_ n1_ n2_ n3_ n4_
          clear ho hb hg hat
          refine hK.out _ _ ⟨(blk_cell BK314.out 0).trans rfl, (blk_cell BK314.out 1).trans rfl⟩ (fun hHeld => ?_)
          clear hK K
          refine norm_ (a' := ?_) ?_ ?_
          rotate_left
          ·show Act.put _ (some 43) _ = _
           simp only [Act.put, List.setIfInBounds_toArray, List.set_cons_zero, List.set_cons_succ, i64_w, i32_w]
           rfl
          refine pure_ (i := 7) (N := some 4) (v := ?_) (a' := ?_) #[true, true, true, true, true, true, true, true, false] rfl rfl (any_of HT_.out (by kernel_rfl)) (fun _ _ _ h => h) (Or.inl ⟨by rfl, ?_⟩) ?_ ?_
          rotate_left
          ·intro w'
           go_simp
           with_reducible rfl
          rotate_left
          ·simp only [Act.put, List.setIfInBounds_toArray, List.set_cons_zero, List.set_cons_succ, i64_w, i32_w]
           rfl
          refine pure_ (i := 8) (N := some 5) (v := ?_) (a' := ?_) #[true, true, true, true, true, true, true, true, true] rfl rfl (any_of HT_.out (by kernel_rfl)) (fun _ _ _ h => h) (Or.inl ⟨by rfl, ?_⟩) ?_ ?_
          rotate_left
          ·intro w'
           go_simp
           with_reducible rfl
          rotate_left
          ·simp only [Act.put, List.setIfInBounds_toArray, List.set_cons_zero, List.set_cons_succ, i64_w, i32_w]
           rfl
          refine done_ (done_of HT_.out (by kernel_rfl)) ?_
          try go_wp2
          go_roundg k1
          case measure => have := HK1.out; omega
          case rel => exact ⟨(y325), (y328), H', ⟨by have := HK1.out; omega⟩, ⟨by (with_reducible repeat (first | apply Kd.R_alloc | apply Kd.R_drewN | apply Kd.R_drew)); exact Kd.R_mono HO327.out (fun _ hk => trivial)⟩, ⟨by (with_reducible repeat (first | apply Kd.V_alloc | apply Kd.V_drewN | apply Kd.V_drew)); exact Kd.V_mono HO332.out (fun _ hk => hk.2)⟩, ⟨bG⟩⟩
         ·rw [if_neg c27] at H
          exact absurd H (by simp)
        ·rw [if_neg c26] at H
         exact absurd H (by simp)
       ·rw [if_neg c25] at H
        exact absurd H (by simp)
     ·rw [if_neg c7] at H
      have c7b0 : decide (0 < (x4_1.length : Int)) = false := decide_eq_false c7
      have c7b1 : decide (0 < x4_1.length) = false := decide_eq_false (by omega)
      clear c7
      by_cases c37 : x4_1.length < 17592186044416
      ·rw [if_pos c37] at H
       have LMc37 := Aside0.mk c37
       clear c37
       obtain ⟨y333, hy333⟩ : ∃ y_ : List (S35), y_ = (x4_1 ++ [(⟨t310, t311⟩ : S35)]) := ⟨_, rfl⟩
       replace H : (if 0 ≤ t312 then (if t312 ≤ (x5_1.length : Int) then (over_line.l0 k1 a0 y333 (x5_1.drop (t312 : Int).toNat)) else (none)) else (none)) = some (r1, r2) := hyA hy333 H
       have Ny333 := Aside0.mk hy333
       clear hy333
       by_cases c38 : 0 ≤ t312
       ·rw [if_pos c38] at H
        have c38b0 := eq_true c38
        have c38b1 : decide (0 ≤ t312) = true := decide_eq_true c38
        clear c38
        by_cases c39 : t312 ≤ (x5_1.length : Int)
        ·rw [if_pos c39] at H
         have c39b0 := eq_true c39
         have c39b1 : decide (t312 ≤ (x5_1.length : Int)) = true := decide_eq_true c39
         clear c39
         obtain ⟨y336, hy336⟩ : ∃ y_ : List Int, y_ = (x5_1.drop (t312 : Int).toNat) := ⟨_, rfl⟩
         replace H : (over_line.l0 k1 a0 y333 y336) = some (r1, r2) := hyA hy336 H
         have Ny336 := Aside0.mk hy336
         clear hy336
         have H' := Aside0.mk H
         clear H
         obtain ⟨Ao40, co40, eo40⟩ := Kd.V_slice HO_5.out
         subst eo40
         try go_wp2_with (first | ((with_reducible refine gate_callee (f := 20) rfl ?_); refine goesL_ (some 17) rfl rfl Tryd.func20 (by kernel_rfl) rfl #[.slice Ao40 x5_1.length co40] rfl aP ?_; (with_reducible refine (over_Take.calls k1 _ _ x5_1 t310 t311 t312 t313 _ ?side1 ?side2 ?side3 A5.out).mono ?_); (case side1 => repeat (first | exact (Kd.V_reads' HO_5.out).2.2 | (with_reducible refine Kd.C_alloc ?_ _) | (with_reducible refine Kd.C_drewN ?_ _) | (with_reducible refine Kd.C_drew ?_))); (case side2 => exact (Kd.V_reads' HO_5.out).2.1); (case side3 => exact GOK.of_below (GOK.sub HG.out rfl) bA); rintro e w41 ⟨rfl, hb⟩; refine ⟨_, rfl, ?_⟩; replace HO_4 := Aside0.mk (Kd.R_below (kR HO_4) hb); replace HO_5 := Aside0.mk (Kd.V_below (kV HO_5) hb); replace HB := Aside0.mk (below_step bA hb); (try clear hb); (try clear hb2); (try clear hk); (try clear hi)) | ((with_reducible refine gate_dst (N := 6) rfl ?_); refine box_event ?hg (N := 6) ?hd (cs := #[.int .i32 0, .int .u8 0]) (t := 35) ?hr ?_; (case hd => rfl); (case hg => rfl); (case hr => first | (go_simp; done) | (go_simp; rfl)); intro gb314 hg w42 hbox hb; replace HO_4 := Aside0.mk (Kd.R_below (Kd.R_elderB (kR HO_4) gb314 (Nat.le_of_eq hg.symm)) hb); replace HO_5 := Aside0.mk (Kd.V_below (Kd.V_elderB (kV HO_5) gb314 (Nat.le_of_eq hg.symm)) hb); have BK314 := Aside0.mk (hbox); have GW314 := Aside0.mk ((geA hg : w.heap.size ≤ gb314)); have GE314 := Aside0.mk ((geA hg : w.heap.size ≤ gb314)); replace HB := Aside0.mk (below_step bA hb); clear hb hbox hg; have hcz43_0 : w42.cell? ⟨gb314, 0, none⟩ = some (.int .i32 0) := (blk_cell BK314.out 0).trans rfl; have hcz43_1 : w42.cell? ⟨gb314, 1, none⟩ = some (.int .u8 0) := (blk_cell BK314.out 1).trans rfl; have hfz43_0 := blk_frozen BK314.out 0; have hfz43_1 := blk_frozen BK314.out 1; obtain ⟨Ao44, co44, eo44⟩ := Kd.R_slice HO_4.out; subst eo44))
         have n0_ : Aside0 (Kd.R k35 35 ((w42.setCell ⟨gb314, 0, none⟩ (.int .i32 t310)).setCell ⟨gb314, 1, none⟩ (.int .u8 t311)) w.heap.size (fun k_ => k_ ≠ gb314) (.slice Ao44 x4_1.length co44) x4_1) := ⟨by (with_reducible repeat (first | apply Kd.R_alloc | apply Kd.R_drewN | apply Kd.R_drew)); exact Kd.R_mono (Kd.R_far (p := ⟨gb314, 1, none⟩) (Kd.R_far (p := ⟨gb314, 0, none⟩) (Kd.R_mono HO_4.out (fun k_ hk => (⟨hk, hk.2⟩ : _ ∧ k_ ≠ gb314))) (fun _ hk => hk.2) (.int .i32 t310)) (fun _ hk => hk.2) (.int .u8 t311)) (fun _ hk => hk.1.2)⟩
         have n1_ : Aside0 (Kd.V (Kd.int .u8) 5 ((w42.setCell ⟨gb314, 0, none⟩ (.int .i32 t310)).setCell ⟨gb314, 1, none⟩ (.int .u8 t311)) w.heap.size (fun k_ => some k_ ≠ (.slice Ao44 x4_1.length co44 : Value).ownBlock ∧ k_ ≠ gb314) (.slice Ao40 x5_1.length co40) x5_1) := ⟨by (with_reducible repeat (first | apply Kd.V_alloc | apply Kd.V_drewN | apply Kd.V_drew)); exact Kd.V_mono (Kd.V_far (p := ⟨gb314, 1, none⟩) (Kd.V_far (p := ⟨gb314, 0, none⟩) (Kd.V_mono HO_5.out (fun k_ hk => (⟨hk, hk.2⟩ : _ ∧ k_ ≠ gb314))) (fun _ hk => hk.2) (.int .i32 t310)) (fun _ hk => hk.2) (.int .u8 t311)) (fun _ hk => ⟨hk.1.1, hk.1.2⟩)⟩
         have n2_ : Aside0 (((w42.setCell ⟨gb314, 0, none⟩ (.int .i32 t310)).setCell ⟨gb314, 1, none⟩ (.int .u8 t311)).heap[gb314]? = some (.cells #[.int .i32 t310, .int .u8 t311] 35 (0, 0))) := ⟨by (with_reducible repeat (first | refine blk_drewN ?_ _ | refine blk_drew ?_ | refine blk_alloc ?_ _)); refine blk_put (cs := #[.int .i32 t310, .int .u8 0]) ?_ 1 _ rfl; (with_reducible repeat (first | refine blk_drewN ?_ _ | refine blk_drew ?_ | refine blk_alloc ?_ _)); refine blk_put (cs := #[.int .i32 0, .int .u8 0]) ?_ 0 _ rfl; (with_reducible repeat (first | refine blk_drewN ?_ _ | refine blk_drew ?_ | refine blk_alloc ?_ _)); exact BK314.out⟩
         have n3_ : Aside0 (Below w.heap.size w ((w42.setCell ⟨gb314, 0, none⟩ (.int .i32 t310)).setCell ⟨gb314, 1, none⟩ (.int .u8 t311))) := ⟨bG⟩
         (try clear HO_4)
         (try clear HO_5)
         (try clear BK314)
         (try clear HB)
         generalize ((w42.setCell ⟨gb314, 0, none⟩ (.int .i32 t310)).setCell ⟨gb314, 1, none⟩ (.int .u8 t311)) = w45 at n0_ n1_ n2_ n3_ ⊢
         have HO_4 := n0_
         have HO_5 := n1_
         have BK314 := n2_
         have HB := n3_
         clear n0_ n1_ n2_ n3_
         have n0_ := Aside0.mk (Kd.R_drew HO_4.out)
         have n1_ := Aside0.mk (Kd.V_drew HO_5.out)
         have n2_ := Aside0.mk (blk_drew BK314.out)
         have n3_ := Aside0.mk (below_drew1 HB.out)
         clear HO_4
         clear HO_5
         clear BK314
         clear HB
         have HO_4 := n0_
         have HO_5 := n1_
         have BK314 := n2_
         have HB := n3_
         clear n0_ n1_ n2_ n3_
         have q47 : (t312 : Int) ≤ ((x5_1.length : Int) : Int) := of_decide_eq_true asA
         obtain ⟨i047, hi047, _, hsz47, _⟩ := info_parts info5
         have hroom47 : x5_1.length ≤ co40 := (Kd.V_reads' HO_5.out).2.1
         have hC47 : Kd.F (Kd.int .u8) _ _ Ao40 x5_1.length x5_1 := (Kd.V_at (base := w.heap.size) HO_5.out).2.2
         have q047 : (0 : Int) ≤ (t312 : Int) := of_decide_eq_true asA
         have hcut47 := cut_from (P := Tryd.prog) 25 5 .i64 Tryd.underlying25 hi047 1 hsz47 Ao40 x5_1.length co40 t312 q047 q47
         have hr47 := Kd.F_cut (m := (t312 : Int).toNat) (c := co40) hC47 (by omega) hroom47
         obtain ⟨A47, hA47⟩ : ∃ A1, A1 = (if co40 = (t312 : Int).toNat then Ao40 else (Ao40 : Option Addr).map (·.add ((t312 : Int).toNat * 1))) := ⟨_, rfl⟩
         obtain ⟨c47, hc47⟩ : ∃ c1, c1 = co40 - (t312 : Int).toNat := ⟨_, rfl⟩
         have hy47 : y336.length = x5_1.length - (t312 : Int).toNat := (by rw [Ny336.out, List.length_drop] <;> omega)
         rw [show (x5_1).drop (t312 : Int).toNat = y336 from Ny336.out.symm] at hr47
         replace hr47 : Kd.F (Kd.int .u8) _ _ A47 y336.length y336 := (by rw [hA47]; exact hr47)
         rw [← hy47, ← hA47, ← hc47] at hcut47
         have HO340 := Aside0.mk (show Kd.V (Kd.int .u8) 5 _ w.heap.size _ (.slice A47 y336.length c47) y336 from Kd.V_mk (by rw [hy47, hc47]; exact Nat.sub_le_sub_right hroom47 _) hr47)
         have HC340 := Aside0.mk (show y336.length ≤ c47 from by rw [hy47, hc47]; exact Nat.sub_le_sub_right hroom47 _)
         clear hr47 hC47 hroom47 hi047 hsz47 hc47
         have KY47 := Aside0.mk hy47
         have KA47 := Aside0.mk hA47
         clear hy47 hA47
         replace q47 := eq_true q47
         refine start_ (n := 9) (S := fun w' => w'.cell? ⟨gb314, 0, none⟩ = some (.int .i32 t310) ∧ w'.cell? ⟨gb314, 1, none⟩ = some (.int .u8 t311)) (ds := []) #[false, false, false, false, false, false, false, false, false] (by kernel_rfl) rfl rfl ⟨(blk_cell BK314.out 0).trans rfl, (blk_cell BK314.out 1).trans rfl⟩ (fun hHeld => ?_); refine with_tabW over_line.tab10 over_line.bits10 (fun HT_ HW_ => ?_)
         generalize w45.drew = w46 at HO_4 HO_5 BK314 HB HO340 hHeld ⊢
         refine pure_ (i := 0) (N := some 40) (v := ?_) (a' := ?_) #[true, false, false, false, false, false, false, false, false] rfl rfl (any_of HT_.out (by kernel_rfl)) (fun _ _ _ h => h) (Or.inl ⟨by rfl, ?_⟩) ?_ ?_
         rotate_left
         ·intro w'
          go_simp
          with_reducible rfl
         rotate_left
         ·simp only [Act.put, List.setIfInBounds_toArray, List.set_cons_zero, List.set_cons_succ, i64_w, i32_w]
          rfl
         refine pure_ (i := 4) (N := some 44) (v := ?_) (a' := ?_) #[true, false, false, false, true, false, false, false, false] rfl rfl (any_of HT_.out (by kernel_rfl)) (fun _ _ _ h => h) (Or.inl ⟨by rfl, ?_⟩) ?_ ?_
         rotate_left
         ·intro w'
          go_simp
          with_reducible rfl
         rotate_left
         ·simp only [Act.put, List.setIfInBounds_toArray, List.set_cons_zero, List.set_cons_succ, i64_w, i32_w]
          rfl
         refine pure_ (i := 5) (N := some 45) (v := ?_) (a' := ?_) #[true, false, false, false, true, true, false, false, false] rfl rfl (any_of HT_.out (by kernel_rfl)) (fun _ _ _ h => h) (Or.inl ⟨by rfl, ?_⟩) ?_ ?_
         rotate_left
         ·intro w'
          go_simp
          with_reducible rfl
         rotate_left
         ·simp only [Act.put, List.setIfInBounds_toArray, List.set_cons_zero, List.set_cons_succ, i64_w, i32_w]
          rfl
         refine pure_ (i := 6) (N := some 46) (v := ?_) (a' := ?_) #[true, false, false, false, true, true, true, false, false] rfl rfl (any_of HT_.out (by kernel_rfl)) (fun _ _ _ h => h) (Or.inl ⟨by rfl, ?_⟩) ?_ ?_
         rotate_left
         ·intro w'
          go_simp
          with_reducible rfl
         rotate_left
         ·simp only [Act.put, List.setIfInBounds_toArray, List.set_cons_zero, List.set_cons_succ, i64_w, i32_w]
          rfl
         refine take_ (i := 1) (N := some 41) (v := ?_) (a' := ?_) #[true, true, false, false, true, true, true, false, false] rfl rfl (take_ofW HT_.out HW_.out (by kernel_rfl)) (fun _ _ _ h => h) (Or.inl ⟨by rfl, ?_⟩) hHeld ?_ ?_
         rotate_left
         ·rintro w' ⟨s0, s1⟩
          go_simp
          with_reducible rfl
         rotate_left
         ·simp only [Act.put, List.setIfInBounds_toArray, List.set_cons_zero, List.set_cons_succ, i64_w, i32_w]
          rfl
         refine one_ (i := 2) (N := some 42) #[true, true, true, false, true, true, true, false, false] rfl rfl (one_of HT_.out (by kernel_rfl)) (by decide) (fun K hK => ?_)
         refine value_ (w1 := ?_) (v := ?_) (by rfl) rfl ?_ ?_
         rotate_left 2
         ·go_simp
          constructor
          ·rfl
          ·rfl
         refine hK.out _ _ ⟨(blk_cell (blk_alloc BK314.out _) 0).trans rfl, (blk_cell (blk_alloc BK314.out _) 1).trans rfl⟩ (fun hHeld => ?_)
         clear hK K
         refine norm_ (a' := ?_) ?_ ?_
         rotate_left
         ·show Act.put _ (some 42) _ = _
          simp only [Act.put, List.setIfInBounds_toArray, List.set_cons_zero, List.set_cons_succ, i64_w, i32_w]
          rfl
         refine one_ (i := 3) (N := some 43) #[true, true, true, true, true, true, true, false, false] rfl rfl (one_of HT_.out (by kernel_rfl)) (by decide) (fun K hK => ?_)
         refine Kd.R_append_step k35 (w0 := w) w.heap.size (by rfl) (.tmp 40) (.tmp 42) 27 35 (.agg #[(.int .i32 0), (.int .u8 0)]) 8 rfl Tryd.underlying27 info35 rfl (by decide) (by omega) (.slice Ao44 x4_1.length co44) x4_1 (⟨t310, t311⟩ : S35) [.int .i32 t310, .int .u8 t311] (fun k_ => k_ ≠ gb314) (fun _ => False) rfl rfl ?aP (fun _ hk => hk.elim) ?aF ?aO ?aB ?aS ?aL ?_
         (case aP => exact k35_mkM _ _ _ (⟨t310, t311⟩ : S35))
         (case aB => exact bG)
         (case aF => exact (fun k_ hk => Kd.freshB (g := gb314) (o := .cells #[.int .i32 t310, .int .u8 t311] 35 (0, 0)) (kB BK314) k_ hk))
         (case aO => exact (kR HO_4))
         (case aS => exact (below_size bG))
         (case aL => have := LMc37.out; omega)
         intro v334 w48 ho hb hg hat
         rw [← Ny333.out] at ho
         have n0_ := Aside0.mk (Kd.V_afterv (ok := (fun k_ => k_ ≠ gb314)) (by (with_reducible repeat (first | apply Kd.V_alloc | apply Kd.V_drewN | apply Kd.V_drew)); exact Kd.V_mono HO_5.out (fun _ hk => ⟨hk.2, hk.1⟩)) hg hat)
         have n1_ := Aside0.mk (blk_grown (g := gb314) (o := .cells #[.int .i32 t310, .int .u8 t311] 35 (0, 0)) (kB BK314) hg (Kd.R_away HO_4.out (fun _ hk => hk)))
         have n2_ := Aside0.mk (Kd.V_afterv (ok := (fun k_ => k_ ≠ gb314)) (by (with_reducible repeat (first | apply Kd.V_alloc | apply Kd.V_drewN | apply Kd.V_drew)); exact Kd.V_mono HO340.out (fun _ hk => ⟨hk.2, hk.1⟩)) hg hat)
         have n3_ := Aside0.mk (hb)
         have n4_ := Aside0.mk (ho)
         clear HO_5
         clear BK314
         clear HO340
         clear HB
         clear HO_4
         have HO_5 := n0_
         have BK314 := n1_
         have HO340 := n2_
         have HB := n3_
         have HO335 := n4_
         clear n0_ n1_ n2_ n3_ n4_
         clear ho hb hg hat
         refine hK.out _ _ ⟨(blk_cell BK314.out 0).trans rfl, (blk_cell BK314.out 1).trans rfl⟩ (fun hHeld => ?_)
         clear hK K
         refine norm_ (a' := ?_) ?_ ?_
         rotate_left
         ·show Act.put _ (some 43) _ = _
          simp only [Act.put, List.setIfInBounds_toArray, List.set_cons_zero, List.set_cons_succ, i64_w, i32_w]
          rfl
         refine pure_ (i := 7) (N := some 4) (v := ?_) (a' := ?_) #[true, true, true, true, true, true, true, true, false] rfl rfl (any_of HT_.out (by kernel_rfl)) (fun _ _ _ h => h) (Or.inl ⟨by rfl, ?_⟩) ?_ ?_
         rotate_left
         ·intro w'
          go_simp
          with_reducible rfl
         rotate_left
         ·simp only [Act.put, List.setIfInBounds_toArray, List.set_cons_zero, List.set_cons_succ, i64_w, i32_w]
          rfl
         refine pure_ (i := 8) (N := some 5) (v := ?_) (a' := ?_) #[true, true, true, true, true, true, true, true, true] rfl rfl (any_of HT_.out (by kernel_rfl)) (fun _ _ _ h => h) (Or.inl ⟨by rfl, ?_⟩) ?_ ?_
         rotate_left
         ·intro w'
          go_simp
          with_reducible rfl
         rotate_left
         ·simp only [Act.put, List.setIfInBounds_toArray, List.set_cons_zero, List.set_cons_succ, i64_w, i32_w]
          rfl
         refine done_ (done_of HT_.out (by kernel_rfl)) ?_
         try go_wp2
         go_roundg k1
         case measure => have := HK1.out; omega
         case rel => exact ⟨(y333), (y336), H', ⟨by have := HK1.out; omega⟩, ⟨by (with_reducible repeat (first | apply Kd.R_alloc | apply Kd.R_drewN | apply Kd.R_drew)); exact Kd.R_mono HO335.out (fun _ hk => trivial)⟩, ⟨by (with_reducible repeat (first | apply Kd.V_alloc | apply Kd.V_drewN | apply Kd.V_drew)); exact Kd.V_mono HO340.out (fun _ hk => hk.2)⟩, ⟨bG⟩⟩
        ·rw [if_neg c39] at H
         exact absurd H (by simp)
       ·rw [if_neg c38] at H
        exact absurd H (by simp)
      ·rw [if_neg c37] at H
       exact absurd H (by simp)
    ·rw [if_neg c6] at H
     have c6b0 : (t313 == 0) = false := beq_eq_false_iff_ne.mpr c6
     have c6b1 : (t313 != 0) = true := bne_iff_ne.mpr c6
     simp only [Option.some.injEq, Prod.mk.injEq] at H
     obtain ⟨rfl, rfl⟩ := H
     obtain ⟨Ao49, co49, eo49⟩ := Kd.V_slice HO_5.out
     subst eo49
     go_wp2_with (first | ((with_reducible refine gate_callee (f := 20) rfl ?_); refine goesL_ (some 17) rfl rfl Tryd.func20 (by kernel_rfl) rfl #[.slice Ao49 x5_1.length co49] rfl aP ?_; (with_reducible refine (over_Take.calls k1 _ _ x5_1 t310 t311 t312 t313 _ ?side1 ?side2 ?side3 A5.out).mono ?_); (case side1 => repeat (first | exact (Kd.V_reads' HO_5.out).2.2 | (with_reducible refine Kd.C_alloc ?_ _) | (with_reducible refine Kd.C_drewN ?_ _) | (with_reducible refine Kd.C_drew ?_))); (case side2 => exact (Kd.V_reads' HO_5.out).2.1); (case side3 => exact GOK.of_below (GOK.sub HG.out rfl) bA); rintro e w50 ⟨rfl, hb⟩; refine ⟨_, rfl, ?_⟩; replace HO_4 := Aside0.mk (Kd.R_below (kR HO_4) hb); replace HO_5 := Aside0.mk (Kd.V_below (kV HO_5) hb); replace HB := Aside0.mk (below_step bA hb); (try clear hb); (try clear hb2); (try clear hk); (try clear hi)) | ((with_reducible refine gate_dst (N := 6) rfl ?_); refine box_event ?hg (N := 6) ?hd (cs := #[.int .i32 0, .int .u8 0]) (t := 35) ?hr ?_; (case hd => rfl); (case hg => rfl); (case hr => first | (go_simp; done) | (go_simp; rfl)); intro gb314 hg w51 hbox hb; replace HO_4 := Aside0.mk (Kd.R_below (Kd.R_elderB (kR HO_4) gb314 (Nat.le_of_eq hg.symm)) hb); replace HO_5 := Aside0.mk (Kd.V_below (Kd.V_elderB (kV HO_5) gb314 (Nat.le_of_eq hg.symm)) hb); have BK314 := Aside0.mk (hbox); have GW314 := Aside0.mk ((geA hg : w.heap.size ≤ gb314)); have GE314 := Aside0.mk ((geA hg : w.heap.size ≤ gb314)); replace HB := Aside0.mk (below_step bA hb); clear hb hbox hg; have hcz52_0 : w51.cell? ⟨gb314, 0, none⟩ = some (.int .i32 0) := (blk_cell BK314.out 0).trans rfl; have hcz52_1 : w51.cell? ⟨gb314, 1, none⟩ = some (.int .u8 0) := (blk_cell BK314.out 1).trans rfl; have hfz52_0 := blk_frozen BK314.out 0; have hfz52_1 := blk_frozen BK314.out 1))
     go_ret2
     exact ⟨_, eW, by first | exact Kd.R_nil _ _ _ _ _ | exact Kd.N_nil _ _ _ _ _ | exact Kd.V_nil _ _ _ _ _ | exact Kd.Q_nil _ _ _ _ _ | exact Kd.S_nil _ _ _ _ _, bG⟩
   ·rw [if_neg c4] at H
    have c4b0 : decide (0 < (x5_1.length : Int)) = false := decide_eq_false c4
    have c4b1 : decide (0 < x5_1.length) = false := decide_eq_false (by omega)
    clear c4
    replace H := Option.bind_eq_some_iff.mp H
    obtain ⟨t307, A530, H⟩ := H
    replace H : (some (x4_1, ((strOfNums t307).toList == a0.toList))) = some (r1, r2) := H
    have A53 := Aside0.mk A530
    clear A530
    simp only [Option.some.injEq, Prod.mk.injEq] at H
    obtain ⟨rfl, rfl⟩ := H
    obtain ⟨Ao54, co54, eo54⟩ := Kd.V_slice HO_5.out
    subst eo54
    try go_wp2
    have n0_ := Aside0.mk (Kd.R_drew HO_4.out)
    have n1_ := Aside0.mk (Kd.V_drew HO_5.out)
    have n2_ := Aside0.mk (below_drew1 HB.out)
    clear HO_4
    clear HO_5
    clear HB
    have HO_4 := n0_
    have HO_5 := n1_
    have HB := n2_
    clear n0_ n1_ n2_
    obtain ⟨Ao56, co56, eo56⟩ := Kd.R_slice HO_4.out
    (first | subst eo56 | (injection eo56 with f1_ f2_ f3_; have f4_ := f1_.symm; have f5_ := f3_.symm; clear f1_ f2_ f3_; subst f4_; subst f5_))
    refine start_ (n := 8) (S := fun w' => True) (ds := []) #[false, false, false, false, false, false, false, false] (by kernel_rfl) rfl rfl trivial (fun hHeld => ?_); refine with_tabW over_line.tab11 over_line.bits11 (fun HT_ HW_ => ?_)
    generalize wr.drew = w55 at HO_4 HO_5 HB hHeld ⊢
    refine pure_ (i := 0) (N := some 47) (v := ?_) (a' := ?_) #[true, false, false, false, false, false, false, false] rfl rfl (any_of HT_.out (by kernel_rfl)) (fun _ _ _ h => h) (Or.inl ⟨by rfl, ?_⟩) ?_ ?_
    rotate_left
    ·intro w'
     go_simp
     with_reducible rfl
    rotate_left
    ·simp only [Act.put, List.setIfInBounds_toArray, List.set_cons_zero, List.set_cons_succ, i64_w, i32_w]
     rfl
    refine pure_ (i := 1) (N := some 48) (v := ?_) (a' := ?_) #[true, true, false, false, false, false, false, false] rfl rfl (any_of HT_.out (by kernel_rfl)) (fun _ _ _ h => h) (Or.inl ⟨by rfl, ?_⟩) ?_ ?_
    rotate_left
    ·intro w'
     go_simp
     with_reducible rfl
    rotate_left
    ·simp only [Act.put, List.setIfInBounds_toArray, List.set_cons_zero, List.set_cons_succ, i64_w, i32_w]
     rfl
    refine pure_ (i := 4) (N := some 51) (v := ?_) (a' := ?_) #[true, true, false, false, true, false, false, false] rfl rfl (any_of HT_.out (by kernel_rfl)) (fun _ _ _ h => h) (Or.inl ⟨by rfl, ?_⟩) ?_ ?_
    rotate_left
    ·intro w'
     go_simp
     with_reducible rfl
    rotate_left
    ·simp only [Act.put, List.setIfInBounds_toArray, List.set_cons_zero, List.set_cons_succ, i64_w, i32_w]
     rfl
    refine one_ (i := 2) (N := some 49) #[true, true, true, false, true, false, false, false] rfl rfl (one_of HT_.out (by kernel_rfl)) (by decide) (fun K hK => ?_)
    refine goes_ Tryd.func12 (by kernel_rfl) rfl #[.slice Ao56 x4_1.length co56] (by rfl) rfl rfl aP ?_
    with_reducible refine (over_Row.calls k1 _ _ x4_1 t307 _ ?side1 ?side2 ?side3 A53.out).mono ?_
    (case side1 => repeat (first | exact (Kd.R_reads' HO_4.out).2.2 | (with_reducible refine Kd.C_alloc ?_ _) | (with_reducible refine Kd.C_drewN ?_ _) | (with_reducible refine Kd.C_drew ?_)))
    (case side2 => exact (Kd.R_reads' HO_4.out).2.1)
    (case side3 => exact GOK.of_below (GOK.sub HG.out rfl) bA)
    rintro e w57 ⟨v308, rfl, ho0, hb⟩
    refine ⟨_, rfl, ?_⟩
    have n0_ := Aside0.mk (Kd.R_below (kR HO_4) hb)
    have n1_ := Aside0.mk (Kd.V_elder' (kV HO_5) (Kd.R_base ho0) hb)
    have n2_ := Aside0.mk (Kd.R_lower ho0 (below_size bA))
    have n3_ := Aside0.mk (below_step bA hb)
    clear HO_4
    clear HO_5
    clear HB
    have HO_4 := n0_
    have HO_5 := n1_
    have HO309 := n2_
    have HB := n3_
    clear n0_ n1_ n2_ n3_
    (try clear hb)
    (try clear hb2)
    (try clear hk)
    (try clear hi)
    (try clear ho0)
    refine hK.out _ _ trivial (fun hHeld => ?_)
    clear hK K
    refine norm_ (a' := ?_) ?_ ?_
    rotate_left
    ·show Act.put _ (some 49) _ = _
     simp only [Act.put, List.setIfInBounds_toArray, List.set_cons_zero, List.set_cons_succ, i64_w, i32_w]
     rfl
    refine pure_ (i := 6) (N := some 2) (v := ?_) (a' := ?_) #[true, true, true, false, true, false, true, false] rfl rfl (any_of HT_.out (by kernel_rfl)) (fun _ _ _ h => h) (Or.inl ⟨by rfl, ?_⟩) ?_ ?_
    rotate_left
    ·intro w'
     go_simp
     with_reducible rfl
    rotate_left
    ·simp only [Act.put, List.setIfInBounds_toArray, List.set_cons_zero, List.set_cons_succ, i64_w, i32_w]
     rfl
    refine one_ (i := 3) (N := some 50) #[true, true, true, true, true, false, true, false] rfl rfl (one_of HT_.out (by kernel_rfl)) (by decide) (fun K hK => ?_)
    have hcv58 := own_string (P := Tryd.prog) Tryd.underlying25 Tryd.underlying5 Tryd.underlying9 (Kd.own_of_R HO309.out)
    refine value_ (w1 := ?_) (v := ?_) (by rfl) rfl ?_ ?_
    rotate_left 2
    ·go_simp
     constructor
     ·rfl
     ·rfl
    clear hcv58
    refine hK.out _ _ trivial (fun hHeld => ?_)
    clear hK K
    refine norm_ (a' := ?_) ?_ ?_
    rotate_left
    ·show Act.put _ (some 50) _ = _
     simp only [Act.put, List.setIfInBounds_toArray, List.set_cons_zero, List.set_cons_succ, i64_w, i32_w]
     rfl
    refine pure_ (i := 5) (N := some 52) (v := ?_) (a' := ?_) #[true, true, true, true, true, true, true, false] rfl rfl (any_of HT_.out (by kernel_rfl)) (fun _ _ _ h => h) (Or.inl ⟨by rfl, ?_⟩) ?_ ?_
    rotate_left
    ·intro w'
     go_simp
     with_reducible rfl
    rotate_left
    ·simp only [Act.put, List.setIfInBounds_toArray, List.set_cons_zero, List.set_cons_succ, i64_w, i32_w]
     rfl
    refine pure_ (i := 7) (N := some 3) (v := ?_) (a' := ?_) #[true, true, true, true, true, true, true, true] rfl rfl (any_of HT_.out (by kernel_rfl)) (fun _ _ _ h => h) (Or.inl ⟨by rfl, ?_⟩) ?_ ?_
    rotate_left
    ·intro w'
     go_simp
     with_reducible rfl
    rotate_left
    ·simp only [Act.put, List.setIfInBounds_toArray, List.set_cons_zero, List.set_cons_succ, i64_w, i32_w]
     rfl
    refine done_ (done_of HT_.out (by kernel_rfl)) ?_
    try go_wp2
    go_ret2
    exact ⟨_, eW, kR HO_4, bA⟩

end Go.Proofs.YtmeinakeiefcdaaDoor.X
