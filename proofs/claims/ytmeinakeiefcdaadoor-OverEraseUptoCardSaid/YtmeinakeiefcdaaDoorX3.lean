-- Written by this session's xprint.py (a variant of the kit's printer). Not trusted: Lean checks it.
import Derived.Test.YtmeinakeiefcdaaDoorX0
import Derived.Test.YtmeinakeiefcdaaDoorSlim
import Derived.Test.YtmeinakeiefcdaaDoorX1
import Derived.Test.YtmeinakeiefcdaaDoorX2
import Derived.Test.YtmeinakeiefcdaaDoorHandA
import Derived.Test.YtmeinakeiefcdaaDoorHandR
namespace Go.Proofs.YtmeinakeiefcdaaDoor.X
open Go.Proofs.YtmeinakeiefcdaaDoor.Hand
open Go.RowKit Go.Proofs.YtmeinakeiefcdaaDoorW.PrintWords Go.Proofs.YtmeinakeiefcdaaDoorW.PrintLast Go.Proofs.YtmeinakeiefcdaaDoorW.PrintMore
attribute [local go_sem] max2_int min2_int max_two min_two max_three min_three max_four min_four   -- for this text's walks alone
set_option linter.unusedVariables false
set_option maxHeartbeats 8000000
set_option maxRecDepth 100000
set_option linter.unusedSimpArgs false

/-! ### cells_Blank: function 75 -/
def cells_Blank.f (a0 : Int) : Option ((List (S35))) := (repeat_G.f (([(⟨32, 0⟩ : S35)] : List (S35))) (mx 0 (mn a0 65535))).bind fun t193 => (some t193)
theorem cells_Blank.calls (a0 : Int) (r : List (S35)) (w : World) (hG : GOK [1] w) (h : cells_Blank.f a0 = some r) :
  Calls Tryd.prog 75 #[.int .i64 a0] w fun e w' => ∃ v0_ : Value, e = .returned (v0_) ∧ Kd.R k35 35 w' w.heap.size (fun _ => True) v0_ r ∧ Below w.heap.size w w' := by
 have hu35 := Tryd.underlying35
 have HG := Aside0.mk hG
 clear hG
 have HB := Aside0.mk (Below.refl w.heap.size w)
 have H : ((repeat_G.f (([(⟨32, 0⟩ : S35)] : List (S35))) (mx 0 (mn a0 65535))).bind fun t193 => (some t193)) = some r := h
 clear h
 obtain ⟨y190, hy190⟩ : ∃ y_ : List (S35), y_ = (([(⟨32, 0⟩ : S35)] : List (S35))) := ⟨_, rfl⟩
 replace H : ((repeat_G.f y190 (mx 0 (mn a0 65535))).bind fun t193 => (some t193)) = some r := hyA hy190 H
 have Ny190 := Aside0.mk hy190
 clear hy190
 obtain ⟨ji2, hji2⟩ : ∃ j_ : Int, (mn a0 65535) = j_ := ⟨_, rfl⟩
 replace H : ((repeat_G.f y190 (mx 0 (ji2))).bind fun t193 => (some t193)) = some r := by first | (rw [hji2] at H; exact H) | (simp only [hji2] at H ⊢; exact H)
 (try (have hji2h : ji2 ≤ 65535 := by (rw [← hji2]; unfold mn; (repeat' split) <;> omega)))
 (try (have hji2g : ji2 ≤ 64 := by omega))
 have hji2_ : (if 65535 < a0 then 65535 else a0) = ji2 := hji2
 obtain ⟨ji3, hji3⟩ : ∃ j_ : Int, (mx 0 (ji2)) = j_ := ⟨_, rfl⟩
 replace H : ((repeat_G.f y190 (ji3)).bind fun t193 => (some t193)) = some r := by first | (rw [hji3] at H; exact H) | (simp only [hji3] at H ⊢; exact H)
 have hji3_ : (if 0 < (ji2) then (ji2) else 0) = ji3 := hji3
 replace H := Option.bind_eq_some_iff.mp H
 obtain ⟨t193, A40, H⟩ := H
 replace H : (some t193) = some r := H
 have A4 := Aside0.mk A40
 clear A40
 obtain rfl := Option.some.inj H
 have hgl5 := blank_1 (HG.out) (by decide)
 have hgl6 := blank_0 (HG.out) (by decide)
 go_enter Tryd.func75, Tryd.ntmps75
 go_wp2_with (first | ((with_reducible refine gate_dst (N := 4) rfl ?_); refine Kd.R_lit k35 _ 35 ?hg (N := 4) ?hd (xs := ([(⟨32, 0⟩ : S35)] : List (S35))) (inner := [.int .i32 32, .int .u8 0]) (ok := fun _ => True) (okp := fun _ => True) ?hr ?hp (fun _ hk => hk) trivial (Below.refl _ _) (Nat.le_refl _) (by simp) ?_; (case hd => rfl); (case hg => rfl); (case hr => first | (go_simp; done) | (go_simp; rfl)); (case hp => exact (Reps.c2 (show Kd.M k35 _ _ _ (⟨32, 0⟩ : S35) [.int .i32 32, .int .u8 0] from (k35_mkM _ _ _ (⟨32, 0⟩ : S35) )) (Reps.none _ _))); intro v191 w7 ho8 hb hg_ hnew_; clear hg_ hnew_; (first | rw [← Ny190.out] at ho8 | (simp only [Int.reduceToNat] at ho8; rw [← Ny190.out] at ho8)); have HO192 := Aside0.mk (Kd.R_lower ho8 (below_size bA)); replace HB := Aside0.mk (below_step bA hb); clear hb ho8; obtain ⟨Ao9, co9, eo9⟩ := Kd.R_slice HO192.out; subst eo9) | ((with_reducible refine gate_callee (f := 87) rfl ?_); refine goesL_ (some 8) rfl rfl Tryd.func87 (by kernel_rfl) rfl #[.slice Ao9 y190.length co9, .int .i64 ji3] rfl (by (try simp only [List.map_toArray, List.map_cons, List.map_nil]); first | done | (simp only [hji3]; rfl) | rfl | (simp only [List.length_drop, List.length_take]; rfl)) ?_; (with_reducible refine (repeat_G.calls _ _ y190 ji3 t193 _ ?side1 ?side2 A4.out).mono ?_); (case side1 => repeat (first | exact (Kd.R_reads' HO192.out).2.2 | (with_reducible refine Kd.C_alloc ?_ _) | (with_reducible refine Kd.C_drewN ?_ _) | (with_reducible refine Kd.C_drew ?_))); (case side2 => exact (Kd.R_reads' HO192.out).2.1); rintro e w10 ⟨v194, rfl, ho0, hb⟩; refine ⟨_, rfl, ?_⟩; have n0_ := Aside0.mk (Kd.R_elder' (kR HO192) (Kd.R_base ho0) hb); have n1_ := Aside0.mk (Kd.R_lower (Kd.R_new' ho0 (Kd.R_lt (kR HO192))) (below_size bA)); have n2_ := Aside0.mk (below_step bA hb); clear HO192; clear HB; have HO192 := n0_; have HO195 := n1_; have HB := n2_; clear n0_ n1_ n2_; (try clear hb); (try clear hb2); (try clear hk); (try clear hi); (try clear ho0)))
 go_ret
 exact ⟨_, by first | rfl | (simp [errW_none, errW_some] <;> rfl) | (simp only [← hji2, ← hji3]; first | rfl | (simp [errW_none, errW_some] <;> rfl)) | (simp [*, errW_none, errW_some] <;> rfl), by (with_reducible repeat (first | apply Kd.R_alloc | apply Kd.R_drewN | apply Kd.R_drew)); exact Kd.R_mono HO195.out (fun _ hk => trivial), bA⟩

/-! ### layout_Flat: function 53 -/
def layout_Flat.f (a0_0 : Int) (l0_1 : List (S35)) (a0_2 : Bool) : Option ((List (S35))) := if (l0_1.length : Int) = 0 then (some ([] : List (S35))) else ((cells_Blank.f a0_0).bind fun t197 => (if t197.length + l0_1.length < 17592186044416 then (some (t197 ++ l0_1)) else (none)))
theorem layout_Flat.calls (a0_0 : Int) (A0_1 : Option Addr) (c0_1 : Nat) (l0_1 : List (S35)) (a0_2 : Bool) (r : List (S35)) (w : World) (hr0_1 : Kd.C k35 w A0_1 l0_1.length l0_1) (hc0_1 : l0_1.length ≤ c0_1) (hG : GOK [1] w) (h : layout_Flat.f a0_0 l0_1 a0_2 = some r) :
  Calls Tryd.prog 53 #[.agg #[.int .i64 a0_0, .slice A0_1 l0_1.length c0_1, .bool a0_2]] w fun e w' => ∃ v0_ : Value, e = .returned (v0_) ∧ Kd.R k35 35 w' w.heap.size (fun _ => True) v0_ r ∧ Below w.heap.size w w' := by
 have hu30 := Tryd.underlying30
 have HG := Aside0.mk hG
 clear hG
 have HR0_1 := Aside0.mk hr0_1
 have HC0_1 := Aside0.mk hc0_1
 clear hr0_1 hc0_1
 have HB := Aside0.mk (Below.refl w.heap.size w)
 have H : (if (l0_1.length : Int) = 0 then (some ([] : List (S35))) else ((cells_Blank.f a0_0).bind fun t197 => (if t197.length + l0_1.length < 17592186044416 then (some (t197 ++ l0_1)) else (none)))) = some r := h
 clear h
 by_cases c2 : (l0_1.length : Int) = 0
 ·rw [if_pos c2] at H
  have c2b0 : ((l0_1.length : Int) == 0) = true := beq_iff_eq.mpr c2
  have c2b1 : ((l0_1.length : Int) != 0) = false := bne_eq_false_iff_eq.mpr c2
  clear c2
  obtain rfl := Option.some.inj H
  go_enter Tryd.func53, Tryd.ntmps53
  go_wp2_with (first | ((with_reducible refine gate_dst (N := 1) rfl ?_); refine box_event ?hg (N := 1) ?hd (cs := #[.int .i64 a0_0, .slice A0_1 l0_1.length c0_1, .bool a0_2]) (t := 30) ?hr ?_; (case hd => rfl); (case hg => rfl); (case hr => first | (go_simp; done) | (go_simp; rfl)); intro gb196 hg w3 hbox hb; have BK196 := Aside0.mk (hbox); have GW196 := Aside0.mk ((geA hg : w.heap.size ≤ gb196)); have GE196 := Aside0.mk ((geA hg : w.heap.size ≤ gb196)); replace HB := Aside0.mk (below_step bA hb); clear hb hbox hg; have hcz4_0 : w3.cell? ⟨gb196, 0, none⟩ = some (.int .i64 a0_0) := (blk_cell BK196.out 0).trans rfl; have hcz4_1 : w3.cell? ⟨gb196, 1, none⟩ = some (.slice A0_1 l0_1.length c0_1) := (blk_cell BK196.out 1).trans rfl; have hcz4_2 : w3.cell? ⟨gb196, 2, none⟩ = some (.bool a0_2) := (blk_cell BK196.out 2).trans rfl; have hfz4_0 := blk_frozen BK196.out 0; have hfz4_1 := blk_frozen BK196.out 1; have hfz4_2 := blk_frozen BK196.out 2))
  go_ret
  exact ⟨_, eW, by first | exact Kd.R_nil _ _ _ _ _ | exact Kd.N_nil _ _ _ _ _ | exact Kd.V_nil _ _ _ _ _ | exact Kd.Q_nil _ _ _ _ _ | exact Kd.S_nil _ _ _ _ _, bG⟩
 ·rw [if_neg c2] at H
  have c2b0 : ((l0_1.length : Int) == 0) = false := beq_eq_false_iff_ne.mpr c2
  have c2b1 : ((l0_1.length : Int) != 0) = true := bne_iff_ne.mpr c2
  have c2b2 : ¬ (l0_1 = []) := fun h_ => c2 (by rw [h_]; rfl)
  replace H := Option.bind_eq_some_iff.mp H
  obtain ⟨t197, A50, H⟩ := H
  replace H : (if t197.length + l0_1.length < 17592186044416 then (some (t197 ++ l0_1)) else (none)) = some r := H
  have A5 := Aside0.mk A50
  clear A50
  by_cases c6 : t197.length + l0_1.length < 17592186044416
  ·rw [if_pos c6] at H
   have LMc6 := Aside0.mk c6
   clear c6
   obtain ⟨y200, hy200⟩ : ∃ y_ : List (S35), y_ = (t197 ++ l0_1) := ⟨_, rfl⟩
   replace H : (some y200) = some r := hyA hy200 H
   have Ny200 := Aside0.mk hy200
   clear hy200
   obtain rfl := Option.some.inj H
   go_enter Tryd.func53, Tryd.ntmps53
   try go_wp2_with (first | ((with_reducible refine gate_dst (N := 1) rfl ?_); refine box_event ?hg (N := 1) ?hd (cs := #[.int .i64 a0_0, .slice A0_1 l0_1.length c0_1, .bool a0_2]) (t := 30) ?hr ?_; (case hd => rfl); (case hg => rfl); (case hr => first | (go_simp; done) | (go_simp; rfl)); intro gb196 hg w7 hbox hb; have BK196 := Aside0.mk (hbox); have GW196 := Aside0.mk ((geA hg : w.heap.size ≤ gb196)); have GE196 := Aside0.mk ((geA hg : w.heap.size ≤ gb196)); replace HB := Aside0.mk (below_step bA hb); clear hb hbox hg; have hcz8_0 : w7.cell? ⟨gb196, 0, none⟩ = some (.int .i64 a0_0) := (blk_cell BK196.out 0).trans rfl; have hcz8_1 : w7.cell? ⟨gb196, 1, none⟩ = some (.slice A0_1 l0_1.length c0_1) := (blk_cell BK196.out 1).trans rfl; have hcz8_2 : w7.cell? ⟨gb196, 2, none⟩ = some (.bool a0_2) := (blk_cell BK196.out 2).trans rfl; have hfz8_0 := blk_frozen BK196.out 0; have hfz8_1 := blk_frozen BK196.out 1; have hfz8_2 := blk_frozen BK196.out 2))
   have n0_ := Aside0.mk (blk_drew BK196.out)
   have n1_ := Aside0.mk (below_drew1 HB.out)
   clear BK196
   clear HB
   have BK196 := n0_
   have HB := n1_
   clear n0_ n1_
   refine start_ (n := 7) (S := fun w' => w'.cell? ⟨gb196, 0, none⟩ = some (.int .i64 a0_0) ∧ w'.cell? ⟨gb196, 1, none⟩ = some (.slice A0_1 l0_1.length c0_1) ∧ w'.cell? ⟨gb196, 2, none⟩ = some (.bool a0_2)) (ds := []) #[false, false, false, false, false, false, false] (by kernel_rfl) rfl rfl ⟨(blk_cell BK196.out 0).trans rfl, (blk_cell BK196.out 1).trans rfl, (blk_cell BK196.out 2).trans rfl⟩ (fun hHeld => ?_)
   generalize w7.drew = w9 at BK196 HB hHeld ⊢
   refine pure_ (i := 0) (N := some 7) (v := ?_) (a' := ?_) #[true, false, false, false, false, false, false] rfl rfl (by kernel_rfl) (fun _ _ _ h => h) (Or.inl ⟨by rfl, ?_⟩) ?_ ?_
   rotate_left
   ·intro w'
    go_simp
    with_reducible rfl
   rotate_left
   ·simp only [Act.put, List.setIfInBounds_toArray, List.set_cons_zero, List.set_cons_succ, i64_w, i32_w]
    rfl
   refine pure_ (i := 3) (N := some 10) (v := ?_) (a' := ?_) #[true, false, false, true, false, false, false] rfl rfl (by kernel_rfl) (fun _ _ _ h => h) (Or.inl ⟨by rfl, ?_⟩) ?_ ?_
   rotate_left
   ·intro w'
    go_simp
    with_reducible rfl
   rotate_left
   ·simp only [Act.put, List.setIfInBounds_toArray, List.set_cons_zero, List.set_cons_succ, i64_w, i32_w]
    rfl
   refine take_ (i := 1) (N := some 8) (v := ?_) (a' := ?_) #[true, true, false, true, false, false, false] rfl rfl (by kernel_rfl) (fun _ _ _ h => h) (Or.inl ⟨by rfl, ?_⟩) hHeld ?_ ?_
   rotate_left
   ·rintro w' ⟨s0, s1, s2⟩
    go_simp
    with_reducible rfl
   rotate_left
   ·simp only [Act.put, List.setIfInBounds_toArray, List.set_cons_zero, List.set_cons_succ, i64_w, i32_w]
    rfl
   refine take_ (i := 4) (N := some 11) (v := ?_) (a' := ?_) #[true, true, false, true, true, false, false] rfl rfl (by kernel_rfl) (fun _ _ _ h => h) (Or.inl ⟨by rfl, ?_⟩) hHeld ?_ ?_
   rotate_left
   ·rintro w' ⟨s0, s1, s2⟩
    go_simp
    with_reducible rfl
   rotate_left
   ·simp only [Act.put, List.setIfInBounds_toArray, List.set_cons_zero, List.set_cons_succ, i64_w, i32_w]
    rfl
   refine one_ (i := 2) (N := some 9) #[true, true, true, true, true, false, false] rfl rfl (by kernel_rfl) (by decide) (fun K hK => ?_)
   refine goes_ Tryd.func75 (by kernel_rfl) rfl #[.int .i64 a0_0] (by rfl) rfl rfl aP ?_
   with_reducible refine (cells_Blank.calls a0_0 t197 _ ?side1 A5.out).mono ?_
   (case side1 => exact GOK.of_below (GOK.sub HG.out rfl) bG)
   rintro e w10 ⟨v198, rfl, ho0, hb⟩
   refine ⟨_, rfl, ?_⟩
   have n0_ := Aside0.mk (Kd.R_lower ho0 (below_size bG))
   have n1_ := Aside0.mk (blk_below (g := gb196) (o := .cells #[.int .i64 a0_0, .slice A0_1 l0_1.length c0_1, .bool a0_2] 30 (0, 0)) (kB BK196) hb)
   have n2_ := Aside0.mk (below_step bG hb)
   clear BK196
   clear HB
   have HO199 := n0_
   have BK196 := n1_
   have HB := n2_
   clear n0_ n1_ n2_
   (try clear hb)
   (try clear hb2)
   (try clear hk)
   (try clear hi)
   (try clear ho0)
   refine hK.out _ _ ⟨(blk_cell BK196.out 0).trans rfl, (blk_cell BK196.out 1).trans rfl, (blk_cell BK196.out 2).trans rfl⟩ (fun hHeld => ?_)
   clear hK K
   refine norm_ (a' := ?_) ?_ ?_
   rotate_left
   ·show Act.put _ (some 9) _ = _
    simp only [Act.put, List.setIfInBounds_toArray, List.set_cons_zero, List.set_cons_succ, i64_w, i32_w]
    rfl
   refine one_ (i := 5) (N := some 12) #[true, true, true, true, true, true, false] rfl rfl (by kernel_rfl) (by decide) (fun K hK => ?_)
   refine Kd.R_append_rows_step k35 (w0 := w) w.heap.size (by rfl) (.tmp 9) (.tmp 11) 27 35 (.agg #[(.int .i32 0), (.int .u8 0)]) 8 rfl Tryd.underlying27 info35 rfl (by decide) (by omega) v198 t197 l0_1 _ _ _ (fun _ => True) (fun _ => False) rfl rfl ?aO ?aR (fun _ _ h => h) (fun _ h => h.elim) ?aF ?aB ?aS ?aL ?_
   (case aR => repeat (first | exact (Kd.C_below HR0_1.out HB.out) | (with_reducible refine Kd.C_alloc ?_ _) | (with_reducible refine Kd.C_drewN ?_ _) | (with_reducible refine Kd.C_drew ?_)))
   (case aB => exact bG)
   (case aF => exact (fun _ _ => trivial))
   (case aO => exact (kR HO199))
   (case aS => exact (below_size bG))
   (case aL => have := LMc6.out; omega)
   intro v201 w11 ho hb hg hat
   rw [← Ny200.out] at ho
   have n0_ := Aside0.mk (blk_grown (g := gb196) (o := .cells #[.int .i64 a0_0, .slice A0_1 l0_1.length c0_1, .bool a0_2] 30 (0, 0)) (kB BK196) hg (by first | exact Kd.R_ne HO199.out BK196.out (by decide) | (intro e_; have h_ := HO199.out.1 _ e_.symm; simp at h_)))
   have n1_ := Aside0.mk (hb)
   have n2_ := Aside0.mk (ho)
   clear BK196
   clear HB
   clear HO199
   have BK196 := n0_
   have HB := n1_
   have HO202 := n2_
   clear n0_ n1_ n2_
   clear ho hb hg hat
   refine hK.out _ _ ⟨(blk_cell BK196.out 0).trans rfl, (blk_cell BK196.out 1).trans rfl, (blk_cell BK196.out 2).trans rfl⟩ (fun hHeld => ?_)
   clear hK K
   refine norm_ (a' := ?_) ?_ ?_
   rotate_left
   ·show Act.put _ (some 12) _ = _
    simp only [Act.put, List.setIfInBounds_toArray, List.set_cons_zero, List.set_cons_succ, i64_w, i32_w]
    rfl
   refine pure_ (i := 6) (N := some 2) (v := ?_) (a' := ?_) #[true, true, true, true, true, true, true] rfl rfl (by kernel_rfl) (fun _ _ _ h => h) (Or.inl ⟨by rfl, ?_⟩) ?_ ?_
   rotate_left
   ·intro w'
    go_simp
    with_reducible rfl
   rotate_left
   ·simp only [Act.put, List.setIfInBounds_toArray, List.set_cons_zero, List.set_cons_succ, i64_w, i32_w]
    rfl
   refine done_ (by kernel_rfl) ?_
   try go_wp2
   go_ret
   exact ⟨_, eW, kR HO202, bG⟩
  ·rw [if_neg c6] at H
   exact absurd H (by simp)

/-! ### plain_Rows: function 26 -/
def plain_Rows.l0 : Nat → List (List (S35)) → List (S30) → Int → Int → Option ((List (List (S35))))
 | 0, _, _, _, _ => none
 | k + 1, x3, x6, x7, x8 => if x8 < x7 then (if 0 ≤ x8 then (if x8 < (x6.length : Int) then ((layout_Flat.f ((rd_T30 x6 x8).f0) ((rd_T30 x6 x8).f1) ((rd_T30 x6 x8).f2)).bind fun t205 => ((plain_Normal.f k t205).bind fun t208 => (if x3.length < 5864062014805 then (plain_Rows.l0 k (x3 ++ [t208]) x6 x7 (wrap64 (x8 + 1))) else (none)))) else (none)) else (none)) else (some x3)
def plain_Rows.f (k : Nat) (l0 : List (S30)) : Option ((List (List (S35)))) := plain_Rows.l0 k ([] : List (List (S35))) l0 (l0.length : Int) 0
theorem plain_Rows.mono_l : ∀ k, (∀ y0 y1 y2 y3, LeO (plain_Rows.l0 k y0 y1 y2 y3) (plain_Rows.l0 (k + 1) y0 y1 y2 y3))
 | 0 => fun _ _ _ _ r h => by simp [plain_Rows.l0] at h
 | k + 1 => by
  have ih0 := plain_Rows.mono_l k
  ·intro y0 y1 y2 y3
   unfold plain_Rows.l0
   repeat' first
   | (with_reducible exact ih0 _ _ _ _)
   | (with_reducible exact plain_Normal.mono _ _)
   | (with_reducible exact LeO.refl _)
   | (with_reducible exact LeO.none _)
   | (with_reducible refine LeO.ite ?_ ?_)
   | (with_reducible refine LeO.bind ?_ (fun _ => ?_))
theorem plain_Rows.mono : ∀ a0 k, LeO (plain_Rows.f k a0) (plain_Rows.f (k + 1) a0) := by
 intro a0 k
 have ih0 := plain_Rows.mono_l k
 unfold plain_Rows.f
 repeat' first
   | (with_reducible exact ih0 _ _ _ _)
   | (with_reducible exact plain_Normal.mono _ _)
   | (with_reducible exact LeO.refl _)
   | (with_reducible exact LeO.none _)
   | (with_reducible refine LeO.ite ?_ ?_)
   | (with_reducible refine LeO.bind ?_ (fun _ => ?_))
theorem plain_Rows.calls (k : Nat) (A0 : Option Addr) (c0 : Nat) (l0 : List (S30)) (r : List (List (S35))) (w : World) (hr0 : Kd.C k30 w A0 l0.length l0) (hc0 : l0.length ≤ c0) (hG : GOK [0,1] w) (h : plain_Rows.f k l0 = some r) :
  Calls Tryd.prog 26 #[.slice A0 l0.length c0] w fun e w' => ∃ v0_ : Value, e = .returned (v0_) ∧ Kd.S (Kd.slice 35 k35) 27 w' w.heap.size (fun _ => True) v0_ r ∧ Below w.heap.size w w' := by
 have hu30 := Tryd.underlying30
 have HG := Aside0.mk hG
 clear hG
 have HR0 := Aside0.mk hr0
 have HC0 := Aside0.mk hc0
 clear hr0 hc0
 have HB := Aside0.mk (Below.refl w.heap.size w)
 have H : (plain_Rows.l0 k ([] : List (List (S35))) l0 (l0.length : Int) 0) = some r := h
 clear h
 have H' := Aside0.mk H
 clear H
 go_enter Tryd.func26, Tryd.ntmps26
 go_wp2
 go_loopg [3, 8] k (fun kq v3 v8 w' => ∃ (x3_1 : List (List (S35))) (x8_1 : Int), v8 = .int .i64 x8_1 ∧ Aside0 (plain_Rows.l0 kq x3_1 l0 (l0.length : Int) x8_1 = some r) ∧ Aside0 (kq ≤ k) ∧ Aside0 (Kd.S (Kd.slice 35 k35) 27 w' w.heap.size (fun _ => True) v3 x3_1) ∧ Aside0 (Below w.heap.size w w'))
 case atStart => exact ⟨(([] : List (List (S35)))), (0), sA, H', ⟨Nat.le_refl _⟩, ⟨by first | exact Kd.S_nil _ _ _ _ _ | exact Kd.N_nil _ _ _ _ _ | exact Kd.V_nil _ _ _ _ _ | exact Kd.Q_nil _ _ _ _ _ | exact Kd.R_nil _ _ _ _ _⟩, ⟨bA⟩⟩
 case round =>
  clear H'
  obtain ⟨x3_1, x8_1, rfl, HA, HK1, HO_3, HB⟩ := hrel
  cases gk with
  | zero => exact absurd HA.out (by simp [plain_Rows.l0])
  | succ k1 =>
   have H := HA.out
   clear HA
   simp only [plain_Rows.l0] at H
   by_cases c2 : x8_1 < (l0.length : Int)
   ·rw [if_pos c2] at H
    have c2b0 : decide (x8_1 < (l0.length : Int)) = true := decide_eq_true c2
    clear c2
    by_cases c3 : 0 ≤ x8_1
    ·rw [if_pos c3] at H
     have c3b0 : decide (0 ≤ x8_1) = true := decide_eq_true c3
     clear c3
     by_cases c4 : x8_1 < (l0.length : Int)
     ·rw [if_pos c4] at H
      have c4b0 : decide (x8_1 < (l0.length : Int)) = true := decide_eq_true c4
      clear c4
      replace H := Option.bind_eq_some_iff.mp H
      obtain ⟨t205, A50, H⟩ := H
      replace H : ((plain_Normal.f k1 t205).bind fun t208 => (if x3_1.length < 5864062014805 then (plain_Rows.l0 k1 (x3_1 ++ [t208]) l0 (l0.length : Int) (wrap64 (x8_1 + 1))) else (none))) = some r := H
      have A5 := Aside0.mk A50
      clear A50
      replace H := Option.bind_eq_some_iff.mp H
      obtain ⟨t208, A60, H⟩ := H
      replace H : (if x3_1.length < 5864062014805 then (plain_Rows.l0 k1 (x3_1 ++ [t208]) l0 (l0.length : Int) (wrap64 (x8_1 + 1))) else (none)) = some r := H
      have A6 := Aside0.mk A60
      clear A60
      by_cases c7 : x3_1.length < 5864062014805
      ·rw [if_pos c7] at H
       have LMc7 := Aside0.mk c7
       clear c7
       obtain ⟨y211, hy211⟩ : ∃ y_ : List (List (S35)), y_ = (x3_1 ++ [t208]) := ⟨_, rfl⟩
       replace H : (plain_Rows.l0 k1 y211 l0 (l0.length : Int) (wrap64 (x8_1 + 1))) = some r := hyA hy211 H
       have Ny211 := Aside0.mk hy211
       clear hy211
       have H' := Aside0.mk H
       clear H
       have p203 : 0 ≤ (x8_1 : Int) := of_decide_eq_true asA
       have q203 : x8_1 < (l0.length : Int) := of_decide_eq_true asA
       obtain ⟨ad203, A203_1, c203_1, e203, hx203_0, hx203_1, hx203_2, hl203_1, hi203_1⟩ := at_T30 HR0.out x8_1 p203 q203
       cases e203
       replace hx203_0 := (HB.out.cell (World.block_lt_of_cell? w _ hx203_0)).trans hx203_0
       replace hx203_1 := (HB.out.cell (World.block_lt_of_cell? w _ hx203_1)).trans hx203_1
       replace hx203_2 := (HB.out.cell (World.block_lt_of_cell? w _ hx203_2)).trans hx203_2
       have HR203_1 := Aside0.mk hi203_1
       have HC203_1 := Aside0.mk hl203_1
       clear hi203_1 hl203_1
       replace p203 := eq_true p203
       replace q203 := eq_true q203
       go_wp2_with (first | ((with_reducible refine gate_dst (N := 5) rfl ?_); refine box_event ?hg (N := 5) ?hd (cs := #[.int .i64 0, .slice none 0 0, .bool false]) (t := 30) ?hr ?_; (case hd => rfl); (case hg => rfl); (case hr => first | (go_simp; done) | (go_simp; rfl)); intro gb204 hg w8 hbox hb; replace HO_3 := Aside0.mk (Kd.S_below (kS HO_3) hb); have BK204 := Aside0.mk (hbox); have GW204 := Aside0.mk ((geA hg : w.heap.size ≤ gb204)); have GE204 := Aside0.mk ((geA hg : w.heap.size ≤ gb204)); replace HB := Aside0.mk (below_step bA hb); clear hb hbox hg; have hcz9_0 : w8.cell? ⟨gb204, 0, none⟩ = some (.int .i64 0) := (blk_cell BK204.out 0).trans rfl; have hcz9_1 : w8.cell? ⟨gb204, 1, none⟩ = some (.slice none 0 0) := (blk_cell BK204.out 1).trans rfl; have hcz9_2 : w8.cell? ⟨gb204, 2, none⟩ = some (.bool false) := (blk_cell BK204.out 2).trans rfl; have hfz9_0 := blk_frozen BK204.out 0; have hfz9_1 := blk_frozen BK204.out 1; have hfz9_2 := blk_frozen BK204.out 2) | ((with_reducible refine gate_callee (f := 53) rfl ?_); refine goesL_ (some 14) rfl rfl Tryd.func53 (by kernel_rfl) rfl #[.agg #[.int .i64 ((rd_T30 l0 x8_1).f0), .slice A203_1 ((rd_T30 l0 x8_1).f1).length c203_1, .bool ((rd_T30 l0 x8_1).f2)]] rfl aP ?_; (with_reducible refine (layout_Flat.calls ((rd_T30 l0 x8_1).f0) _ _ ((rd_T30 l0 x8_1).f1) ((rd_T30 l0 x8_1).f2) t205 _ ?side1 ?side2 ?side3 A5.out).mono ?_); (case side1 => exact Kd.C_below HR203_1.out bG); (case side2 => exact HC203_1.out); (case side3 => exact GOK.of_below (GOK.sub HG.out rfl) bG); rintro e w10 ⟨v206, rfl, ho0, hb⟩; refine ⟨_, rfl, ?_⟩; have n0_ := Aside0.mk (Kd.S_elder' (by (with_reducible repeat (first | apply Kd.S_alloc | apply Kd.S_drewN | apply Kd.S_drew)); exact (Kd.S_mono (Kd.S_far (p := ⟨gb204, 2, none⟩) (Kd.S_far (p := ⟨gb204, 1, none⟩) (Kd.S_far (p := ⟨gb204, 0, none⟩) (Kd.S_types HO_3.out BK204.out (by decide)) (fun _ hk => hk.2) (.int .i64 ((rd_T30 l0 x8_1).f0))) (fun _ hk => hk.2) (.slice A203_1 ((rd_T30 l0 x8_1).f1).length c203_1)) (fun _ hk => hk.2) (.bool ((rd_T30 l0 x8_1).f2))) (fun _ h_ => h_.1))) (Kd.R_base ho0) hb); have n1_ := Aside0.mk (Kd.R_lower ho0 (below_size bG)); have n2_ := Aside0.mk (blk_below (g := gb204) (o := .cells #[.int .i64 ((rd_T30 l0 x8_1).f0), .slice A203_1 ((rd_T30 l0 x8_1).f1).length c203_1, .bool ((rd_T30 l0 x8_1).f2)] 30 (0, 0)) (by (with_reducible repeat (first | refine blk_drewN ?_ _ | refine blk_drew ?_ | refine blk_alloc ?_ _)); refine blk_put (cs := #[.int .i64 ((rd_T30 l0 x8_1).f0), .slice A203_1 ((rd_T30 l0 x8_1).f1).length c203_1, .bool false]) ?_ 2 _ rfl; (with_reducible repeat (first | refine blk_drewN ?_ _ | refine blk_drew ?_ | refine blk_alloc ?_ _)); refine blk_put (cs := #[.int .i64 ((rd_T30 l0 x8_1).f0), .slice none 0 0, .bool false]) ?_ 1 _ rfl; (with_reducible repeat (first | refine blk_drewN ?_ _ | refine blk_drew ?_ | refine blk_alloc ?_ _)); refine blk_put (cs := #[.int .i64 0, .slice none 0 0, .bool false]) ?_ 0 _ rfl; (with_reducible repeat (first | refine blk_drewN ?_ _ | refine blk_drew ?_ | refine blk_alloc ?_ _)); exact BK204.out) hb); have n3_ := Aside0.mk (below_step bG hb); clear HO_3; clear BK204; clear HB; have HO_3 := n0_; have HO207 := n1_; have BK204 := n2_; have HB := n3_; clear n0_ n1_ n2_ n3_; (try clear hb); (try clear hb2); (try clear hk); (try clear hi); (try clear ho0); obtain ⟨Ao11, co11, eo11⟩ := Kd.R_slice HO207.out; subst eo11) | ((with_reducible refine gate_callee (f := 27) rfl ?_); refine goesL_ (some 15) rfl rfl Tryd.func27 (by kernel_rfl) rfl #[.slice Ao11 t205.length co11] rfl aP ?_; (with_reducible refine (plain_Normal.calls k1 _ _ t205 t208 _ ?side1 ?side2 ?side3 A6.out).mono ?_); (case side1 => repeat (first | exact (Kd.R_reads' HO207.out).2.2 | (with_reducible refine Kd.C_alloc ?_ _) | (with_reducible refine Kd.C_drewN ?_ _) | (with_reducible refine Kd.C_drew ?_))); (case side2 => exact (Kd.R_reads' HO207.out).2.1); (case side3 => exact GOK.of_below (GOK.sub HG.out rfl) bG); rintro e w12 ⟨v209, rfl, ho0, hb⟩; refine ⟨_, rfl, ?_⟩; have n0_ := Aside0.mk (Kd.S_elder' (kS HO_3) (Kd.R_base ho0) hb); have n1_ := Aside0.mk (Kd.R_elder' (kR HO207) (Kd.R_base ho0) hb); have n2_ := Aside0.mk (Kd.R_lower (Kd.R_new' ho0 (Kd.R_lt (kR HO207))) (below_size bG)); have n3_ := Aside0.mk (blk_below (g := gb204) (o := .cells #[.int .i64 ((rd_T30 l0 x8_1).f0), .slice A203_1 ((rd_T30 l0 x8_1).f1).length c203_1, .bool ((rd_T30 l0 x8_1).f2)] 30 (0, 0)) (kB BK204) hb); have n4_ := Aside0.mk (below_step bG hb); clear HO_3; clear HO207; clear BK204; clear HB; have HO_3 := n0_; have HO207 := n1_; have HO210 := n2_; have BK204 := n3_; have HB := n4_; clear n0_ n1_ n2_ n3_ n4_; (try clear hb); (try clear hb2); (try clear hk); (try clear hi); (try clear ho0); obtain ⟨Ao14, co14, eo14⟩ := Kd.R_slice HO210.out; subst eo14) | ((with_reducible refine gate_builtin (b := .append) (xs := #[.tmp 12, .tmp 16]) rfl ?_); at_builtin; refine Kd.S_append (Kd.slice 35 k35) (w0 := w) w.heap.size rfl (.tmp 12) (.tmp 16) 39 27 (.slice none 0 0) 24 rfl Tryd.underlying39 info27 rfl (by decide) (by omega) u3 x3_1 t208 [.slice Ao14 t208.length co14] (fun k_ => some k_ ≠ (.slice Ao11 t205.length co11 : Value).ownBlock) (fun k_ => some k_ = (.slice Ao14 t208.length co14 : Value).ownBlock) rfl rfl ?aP (fun k_ hk_ => ((Kd.R_mono (ok' := fun k_ => ((fun k_ => some k_ ≠ (.slice Ao11 t205.length co11 : Value).ownBlock)) k_ ∧ some k_ ≠ (u3 : Value).ownBlock) (Kd.R_apart' (HO210.out) (Kd.S_typed HO_3.out) (by decide)) (fun k_ hk => ⟨hk.1.2, hk.2⟩))).1 k_ hk_.symm) ?aF ?aO ?aB ?aS ?aL ?_; (case aP => exact Kd.M_row (Kd.R_mono (Kd.R_tight rfl (Kd.R_mono (ok' := fun k_ => ((fun k_ => some k_ ≠ (.slice Ao11 t205.length co11 : Value).ownBlock)) k_ ∧ some k_ ≠ (u3 : Value).ownBlock) (Kd.R_apart' (HO210.out) (Kd.S_typed HO_3.out) (by decide)) (fun k_ hk => ⟨hk.1.2, hk.2⟩))) (fun _ h_ => h_))); (case aB => exact bG); (case aF => exact (fun k_ hk => Kd.fresh' (Kd.R_lt (kR HO207)) k_ hk)); (case aO => exact (by (with_reducible repeat (first | apply Kd.S_alloc | apply Kd.S_drewN | apply Kd.S_drew)); exact Kd.S_mono HO_3.out (fun k_ hk => ⟨hk.1.2, fun e_ => hk.2 e_⟩))); (case aS => exact (below_size bG)); (case aL => have := LMc7.out; omega); intro v212 w13 ho hb hg hat; rw [← Ny211.out] at ho; have n0_ := Aside0.mk (blk_grown (g := gb204) (o := .cells #[.int .i64 ((rd_T30 l0 x8_1).f0), .slice A203_1 ((rd_T30 l0 x8_1).f1).length c203_1, .bool ((rd_T30 l0 x8_1).f2)] 30 (0, 0)) (kB BK204) hg (Kd.S_ne HO_3.out BK204.out (by decide))); have n1_ := Aside0.mk (Kd.R_over' (kR HO207) (Kd.S_typed (kS HO_3)) (by decide) hg); have n2_ := Aside0.mk (hb); have n3_ := Aside0.mk (ho); clear BK204; clear HO207; clear HB; clear HO_3; clear HO210; have BK204 := n0_; have HO207 := n1_; have HB := n2_; have HO213 := n3_; clear n0_ n1_ n2_ n3_; clear ho hb hg hat))
       go_roundg k1
       case measure => have := HK1.out; omega
       case rel => exact ⟨(y211), (wrap64 (x8_1 + 1)), sA, H', ⟨by have := HK1.out; omega⟩, ⟨by (with_reducible repeat (first | apply Kd.S_alloc | apply Kd.S_drewN | apply Kd.S_drew)); exact Kd.S_mono HO213.out (fun _ hk => trivial)⟩, ⟨bG⟩⟩
      ·rw [if_neg c7] at H
       exact absurd H (by simp)
     ·rw [if_neg c4] at H
      exact absurd H (by simp)
    ·rw [if_neg c3] at H
     exact absurd H (by simp)
   ·rw [if_neg c2] at H
    have c2b0 : decide (x8_1 < (l0.length : Int)) = false := decide_eq_false c2
    clear c2
    obtain rfl := Option.some.inj H
    go_wp2
    go_ret
    exact ⟨_, eW, kS HO_3, bA⟩

/-! ### over_Write: function 10 -/
def over_Write.l0 : Nat → List Int → List (List (S35)) → Int → Int → Option (List Int)
 | 0, _, _, _, _ => none
 | k + 1, x3, x7, x8, x9 => if x9 < x8 then (if 0 ≤ x9 then (if x9 < (x7.length : Int) then ((over_Row.f k (rd_L6 x7 x9)).bind fun t218 => (if x3.length + t218.length < 140737488355328 then ((some (x3 ++ t218 : List Int)).bind fun y221 => (if y221.length < 140737488355328 then (over_Write.l0 k (y221 ++ [10]) x7 x8 (wrap64 (x9 + 1))) else (none))) else (none))) else (none)) else (none)) else (some x3)
def over_Write.f (k : Nat) (l0 : List (S30)) : Option (List Int) := (plain_Rows.f k l0).bind fun t214 => (over_Write.l0 k ([] : List Int) t214 (t214.length : Int) 0)
theorem over_Write.mono_l : ∀ k, (∀ y0 y1 y2 y3, LeO (over_Write.l0 k y0 y1 y2 y3) (over_Write.l0 (k + 1) y0 y1 y2 y3))
 | 0 => fun _ _ _ _ r h => by simp [over_Write.l0] at h
 | k + 1 => by
  have ih0 := over_Write.mono_l k
  ·intro y0 y1 y2 y3
   unfold over_Write.l0
   repeat' first
   | (with_reducible exact ih0 _ _ _ _)
   | (with_reducible exact over_Row.mono _ _)
   | (with_reducible exact plain_Rows.mono _ _)
   | (with_reducible exact LeO.refl _)
   | (with_reducible exact LeO.none _)
   | (with_reducible refine LeO.ite ?_ ?_)
   | (with_reducible refine LeO.bind ?_ (fun _ => ?_))
theorem over_Write.mono : ∀ a0 k, LeO (over_Write.f k a0) (over_Write.f (k + 1) a0) := by
 intro a0 k
 have ih0 := over_Write.mono_l k
 unfold over_Write.f
 repeat' first
   | (with_reducible exact ih0 _ _ _ _)
   | (with_reducible exact over_Row.mono _ _)
   | (with_reducible exact plain_Rows.mono _ _)
   | (with_reducible exact LeO.refl _)
   | (with_reducible exact LeO.none _)
   | (with_reducible refine LeO.ite ?_ ?_)
   | (with_reducible refine LeO.bind ?_ (fun _ => ?_))
theorem over_Write.calls (k : Nat) (A0 : Option Addr) (c0 : Nat) (l0 : List (S30)) (r : List Int) (w : World) (hr0 : Kd.C k30 w A0 l0.length l0) (hc0 : l0.length ≤ c0) (hG : GOK [0,1] w) (h : over_Write.f k l0 = some r) :
  Calls Tryd.prog 10 #[.slice A0 l0.length c0] w fun e w' => ∃ v0_ : Value, e = .returned (v0_) ∧ Kd.R (Kd.int .u8) 5 w' w.heap.size (fun _ => True) v0_ r ∧ Below w.heap.size w w' := by
 have HG := Aside0.mk hG
 clear hG
 have HR0 := Aside0.mk hr0
 have HC0 := Aside0.mk hc0
 clear hr0 hc0
 have HB := Aside0.mk (Below.refl w.heap.size w)
 have H : ((plain_Rows.f k l0).bind fun t214 => (over_Write.l0 k ([] : List Int) t214 (t214.length : Int) 0)) = some r := h
 clear h
 replace H := Option.bind_eq_some_iff.mp H
 obtain ⟨t214, A20, H⟩ := H
 replace H : (over_Write.l0 k ([] : List Int) t214 (t214.length : Int) 0) = some r := H
 have A2 := Aside0.mk A20
 clear A20
 have H' := Aside0.mk H
 clear H
 go_enter Tryd.func10, Tryd.ntmps10
 go_wp2_with (first | ((with_reducible refine gate_callee (f := 26) rfl ?_); refine goesL_ (some 7) rfl rfl Tryd.func26 (by kernel_rfl) rfl #[.slice A0 l0.length c0] rfl aP ?_; (with_reducible refine (plain_Rows.calls k _ _ l0 t214 _ ?side1 ?side2 ?side3 A2.out).mono ?_); (case side1 => repeat (first | exact HR0.out | (with_reducible refine Kd.C_alloc ?_ _) | (with_reducible refine Kd.C_drewN ?_ _) | (with_reducible refine Kd.C_drew ?_))); (case side2 => exact HC0.out); (case side3 => exact GOK.of_below (GOK.sub HG.out rfl) bA); rintro e w3 ⟨v215, rfl, ho0, hb⟩; refine ⟨_, rfl, ?_⟩; have HO216 := Aside0.mk (Kd.S_lower ho0 (below_size bA)); replace HB := Aside0.mk (below_step bA hb); (try clear hb); (try clear hb2); (try clear hk); (try clear hi); (try clear ho0); obtain ⟨Ao4, co4, eo4⟩ := Kd.S_slice HO216.out; subst eo4))
 go_loopg [3, 9] k (fun kq v3 v9 w' => ∃ (x3_1 : List Int) (x9_1 : Int), v9 = .int .i64 x9_1 ∧ Aside0 (over_Write.l0 kq x3_1 t214 (t214.length : Int) x9_1 = some r) ∧ Aside0 (kq ≤ k) ∧ Aside0 (Kd.R (Kd.int .u8) 5 w' w.heap.size (fun _ => True) v3 x3_1) ∧ Aside0 (Kd.S (Kd.slice 35 k35) 27 w' w.heap.size (fun _ => True) (.slice Ao4 t214.length co4) t214) ∧ Aside0 (Below w.heap.size w w'))
 case atStart => exact ⟨(([] : List Int)), (0), sA, H', ⟨Nat.le_refl _⟩, ⟨by first | exact Kd.R_nil _ _ _ _ _ | exact Kd.N_nil _ _ _ _ _ | exact Kd.V_nil _ _ _ _ _ | exact Kd.Q_nil _ _ _ _ _ | exact Kd.S_nil _ _ _ _ _⟩, ⟨kS HO216⟩, ⟨bA⟩⟩
 case round =>
  clear H'
  try clear c1
  try clear c2
  try clear p2
  obtain ⟨x3_1, x9_1, rfl, HA, HK1, HO_3, HO_7, HB⟩ := hrel
  cases gk with
  | zero => exact absurd HA.out (by simp [over_Write.l0])
  | succ k1 =>
   have H := HA.out
   clear HA
   simp only [over_Write.l0] at H
   by_cases c5 : x9_1 < (t214.length : Int)
   ·rw [if_pos c5] at H
    have c5b0 : decide (x9_1 < (t214.length : Int)) = true := decide_eq_true c5
    clear c5
    by_cases c6 : 0 ≤ x9_1
    ·rw [if_pos c6] at H
     have c6b0 : decide (0 ≤ x9_1) = true := decide_eq_true c6
     clear c6
     by_cases c7 : x9_1 < (t214.length : Int)
     ·rw [if_pos c7] at H
      have c7b0 : decide (x9_1 < (t214.length : Int)) = true := decide_eq_true c7
      clear c7
      replace H := Option.bind_eq_some_iff.mp H
      obtain ⟨t218, A80, H⟩ := H
      replace H : (if x3_1.length + t218.length < 140737488355328 then ((some (x3_1 ++ t218 : List Int)).bind fun y221 => (if y221.length < 140737488355328 then (over_Write.l0 k1 (y221 ++ [10]) t214 (t214.length : Int) (wrap64 (x9_1 + 1))) else (none))) else (none)) = some r := H
      have A8 := Aside0.mk A80
      clear A80
      by_cases c9 : x3_1.length + t218.length < 140737488355328
      ·rw [if_pos c9] at H
       have LMc9 := Aside0.mk c9
       clear c9
       obtain ⟨y221, hy221⟩ : ∃ y_ : List Int, y_ = (x3_1 ++ t218) := ⟨_, rfl⟩
       replace H : (if y221.length < 140737488355328 then (over_Write.l0 k1 (y221 ++ [10]) t214 (t214.length : Int) (wrap64 (x9_1 + 1))) else (none)) = some r := hyA hy221 H
       have Ny221 := Aside0.mk hy221
       clear hy221
       by_cases c10 : y221.length < 140737488355328
       ·rw [if_pos c10] at H
        have LMc10 := Aside0.mk c10
        clear c10
        obtain ⟨y224, hy224⟩ : ∃ y_ : List Int, y_ = (y221 ++ [10]) := ⟨_, rfl⟩
        replace H : (over_Write.l0 k1 y224 t214 (t214.length : Int) (wrap64 (x9_1 + 1))) = some r := hyA hy224 H
        have Ny224 := Aside0.mk hy224
        clear hy224
        have H' := Aside0.mk H
        clear H
        have p217 : 0 ≤ (x9_1 : Int) := of_decide_eq_true asA
        have q217 : x9_1 < (t214.length : Int) := of_decide_eq_true asA
        obtain ⟨ad217, A217_0, c217_0, e217, hx217_0, hl217_0, hi217_0⟩ := at_L6 (Kd.S_reads' HO_7.out).2.2 x9_1 p217 q217
        cases e217
        obtain ⟨ce217, hce217, hMe217, hcc217⟩ := Kd.S_get HO_7.out [] x9_1 p217 (by first | exact q217 | exact of_decide_eq_true asA | (have e_ := (Kd.S_reads' HO_7.out).1; omega))
        obtain ⟨ve217_0, rfl, ge217_0⟩ := hMe217
        have hv217_0 := hcc217 0 _ rfl
        rw [Nat.add_zero, show ((Kd.slice 35 k35)).sz = 1 from rfl, Nat.mul_one] at hv217_0
        replace hv217_0 := Option.some.inj (hv217_0.symm.trans hx217_0)
        rw [hv217_0] at ge217_0
        have HL217_0 := Aside0.mk (show Kd.R k35 35 _ _ _ _ (rd_L6 t214 x9_1) from ge217_0)
        clear hv217_0 ge217_0
        clear hcc217 hce217
        have HR217_0 := Aside0.mk hi217_0
        have HC217_0 := Aside0.mk hl217_0
        clear hi217_0 hl217_0
        replace p217 := eq_true p217
        replace q217 := eq_true q217
        go_wp2_with (first | ((with_reducible refine gate_callee (f := 12) rfl ?_); refine goesL_ (some 15) rfl rfl Tryd.func12 (by kernel_rfl) rfl #[.slice A217_0 (rd_L6 t214 x9_1).length c217_0] rfl aP ?_; (with_reducible refine (over_Row.calls k1 _ _ (rd_L6 t214 x9_1) t218 _ ?side1 ?side2 ?side3 A8.out).mono ?_); (case side1 => repeat (first | exact (by repeat (first | (with_reducible exact HR217_0.out) | (with_reducible refine Kd.C_alloc ?_ _) | (with_reducible refine Kd.C_drewN ?_ _) | (with_reducible refine Kd.C_drew ?_) | exact HR217_0.out)) | (with_reducible refine Kd.C_alloc ?_ _) | (with_reducible refine Kd.C_drewN ?_ _) | (with_reducible refine Kd.C_drew ?_))); (case side2 => exact HC217_0.out); (case side3 => exact GOK.of_below (GOK.sub HG.out rfl) bA); rintro e w11 ⟨v219, rfl, ho0, hb⟩; refine ⟨_, rfl, ?_⟩; have n0_ := Aside0.mk (Kd.R_elder' (kR HO_3) (Kd.R_base ho0) hb); have n1_ := Aside0.mk (Kd.S_below (kS HO_7) hb); have n2_ := Aside0.mk (Kd.R_below (kR HL217_0) hb); have n3_ := Aside0.mk (Kd.R_lower (Kd.R_new' ho0 (Kd.R_lt (kR HO_3))) (below_size bA)); have n4_ := Aside0.mk (Kd.C_below (by repeat (first | (with_reducible exact HR217_0.out) | (with_reducible refine Kd.C_alloc ?_ _) | (with_reducible refine Kd.C_drewN ?_ _) | (with_reducible refine Kd.C_drew ?_) | exact HR217_0.out)) hb); have n5_ := Aside0.mk (below_step bA hb); clear HO_3; clear HO_7; clear HL217_0; clear HR217_0; clear HB; have HO_3 := n0_; have HO_7 := n1_; have HL217_0 := n2_; have HO220 := n3_; have HR217_0 := n4_; have HB := n5_; clear n0_ n1_ n2_ n3_ n4_ n5_; (try clear hb); (try clear hb2); (try clear hk); (try clear hi); (try clear ho0); obtain ⟨Ao13, co13, eo13⟩ := Kd.R_slice HO220.out; subst eo13) | ((with_reducible refine gate_builtin (b := .append) (xs := #[.tmp 13, .tmp 15]) rfl ?_); at_builtin; refine Kd.R_append_rows (Kd.int .u8) (w0 := w) w.heap.size rfl (.tmp 13) (.tmp 15) 25 5 (.int .u8 0) 1 rfl Tryd.underlying25 info5 rfl (by decide) (by omega) u3 x3_1 t218 _ _ _ (fun k_ => some k_ ≠ (.slice Ao13 t218.length co13 : Value).ownBlock) (fun _ => False) rfl rfl ?aO ?aR (fun _ _ h => h) (fun _ h => h.elim) ?aF ?aB ?aS ?aL ?_; (case aR => repeat (first | exact (Kd.R_reads' HO220.out).2.2 | (with_reducible refine Kd.C_alloc ?_ _) | (with_reducible refine Kd.C_drewN ?_ _) | (with_reducible refine Kd.C_drew ?_))); (case aB => exact bA); (case aF => exact (fun k_ hk => Kd.fresh' (Kd.R_lt (kR HO220)) k_ hk)); (case aO => exact (by (with_reducible repeat (first | apply Kd.R_alloc | apply Kd.R_drewN | apply Kd.R_drew)); exact Kd.R_mono HO_3.out (fun _ hk => hk.2))); (case aS => exact (below_size bA)); (case aL => have := LMc9.out; omega); intro v222 w12 ho hb hg hat; rw [← Ny221.out] at ho; have n0_ := Aside0.mk (Kd.S_over' (kS HO_7) (Kd.R_typed (kR HO_3)) (by decide) hg); have n1_ := Aside0.mk (Kd.R_over' (kR HL217_0) (Kd.R_typed (kR HO_3)) (by decide) hg); have n2_ := Aside0.mk (Kd.R_after (ok := (fun _ => True)) (kR HO220) hg hat); have n3_ := Aside0.mk (hb); have n4_ := Aside0.mk (ho); clear HO_7; clear HL217_0; clear HO220; clear HB; clear HO_3; have HO_7 := n0_; have HL217_0 := n1_; have HO220 := n2_; have HB := n3_; have HO223 := n4_; clear n0_ n1_ n2_ n3_ n4_; clear ho hb hg hat) | ((with_reducible refine gate_builtin (b := .append) (xs := #[.tmp 16, .tmp 17]) rfl ?_); at_builtin; refine Kd.R_append (Kd.int .u8) (w0 := w) w.heap.size rfl (.tmp 16) (.tmp 17) 25 5 (.int .u8 0) 1 rfl Tryd.underlying25 info5 rfl (by decide) (by omega) v222 y221 10 [.int .u8 10] (fun k_ => some k_ ≠ (.slice Ao13 t218.length co13 : Value).ownBlock) (fun _ => False) rfl rfl ?aP (fun _ hk => hk.elim) ?aF ?aO ?aB ?aS ?aL ?_; (case aP => exact rfl); (case aB => exact bA); (case aF => exact (fun k_ hk => Kd.fresh' (Kd.R_lt (kR HO220)) k_ hk)); (case aO => exact (kR HO223)); (case aS => exact (below_size bA)); (case aL => have := LMc10.out; omega); intro v225 w14 ho hb hg hat; rw [← Ny224.out] at ho; have n0_ := Aside0.mk (Kd.S_over' (kS HO_7) (Kd.R_typed (kR HO223)) (by decide) hg); have n1_ := Aside0.mk (Kd.R_over' (kR HL217_0) (Kd.R_typed (kR HO223)) (by decide) hg); have n2_ := Aside0.mk (Kd.R_after (ok := (fun _ => True)) (kR HO220) hg hat); have n3_ := Aside0.mk (hb); have n4_ := Aside0.mk (ho); clear HO_7; clear HL217_0; clear HO220; clear HB; clear HO223; have HO_7 := n0_; have HL217_0 := n1_; have HO220 := n2_; have HB := n3_; have HO226 := n4_; clear n0_ n1_ n2_ n3_ n4_; clear ho hb hg hat))
        go_roundg k1
        case measure => have := HK1.out; omega
        case rel => exact ⟨(y224), (wrap64 (x9_1 + 1)), sA, H', ⟨by have := HK1.out; omega⟩, ⟨by (with_reducible repeat (first | apply Kd.R_alloc | apply Kd.R_drewN | apply Kd.R_drew)); exact Kd.R_mono HO226.out (fun _ hk => trivial)⟩, ⟨kS HO_7⟩, ⟨bA⟩⟩
       ·rw [if_neg c10] at H
        exact absurd H (by simp)
      ·rw [if_neg c9] at H
       exact absurd H (by simp)
     ·rw [if_neg c7] at H
      exact absurd H (by simp)
    ·rw [if_neg c6] at H
     exact absurd H (by simp)
   ·rw [if_neg c5] at H
    have c5b0 : decide (x9_1 < (t214.length : Int)) = false := decide_eq_false c5
    clear c5
    obtain rfl := Option.some.inj H
    go_wp2
    go_ret
    exact ⟨_, eW, kR HO_3, bA⟩

/-! ### flongref02_Valid: function 55 -/
def flongref02_Valid.f (a0 : Int) : Option (Bool) := if a0 ≥ 0 then (if a0 < 1114112 then (if a0 < 55296 then (some true) else (some (decide (a0 > 57343)))) else (some false)) else (some false)
theorem flongref02_Valid.calls (a0 : Int) (r : Bool) (w : World) (h : flongref02_Valid.f a0 = some r) :
  Calls Tryd.prog 55 #[.int .i32 a0] w fun e w' => e = .returned (.bool r) ∧ Drawn0 w w' := by
 have H : (if a0 ≥ 0 then (if a0 < 1114112 then (if a0 < 55296 then (some true) else (some (decide (a0 > 57343)))) else (some false)) else (some false)) = some r := h
 clear h
 by_cases c2 : a0 ≥ 0
 ·rw [if_pos c2] at H
  have c2b0 : decide (0 ≤ a0) = true := decide_eq_true c2
  clear c2
  by_cases c3 : a0 < 1114112
  ·rw [if_pos c3] at H
   have c3b0 : decide (a0 < 1114112) = true := decide_eq_true c3
   clear c3
   by_cases c4 : a0 < 55296
   ·rw [if_pos c4] at H
    have c4b0 : decide (a0 < 55296) = true := decide_eq_true c4
    clear c4
    obtain rfl := Option.some.inj H
    go_enter Tryd.func55, Tryd.ntmps55
    go_wp2
    go_ret
    exact ⟨sA, by repeat (first | exact Drawn0.refl _ | apply Drawn0.step)⟩
   ·rw [if_neg c4] at H
    have c4b0 : decide (a0 < 55296) = false := decide_eq_false c4
    clear c4
    obtain rfl := Option.some.inj H
    go_enter Tryd.func55, Tryd.ntmps55
    go_wp2
    go_ret
    exact ⟨sA, by repeat (first | exact Drawn0.refl _ | apply Drawn0.step)⟩
  ·rw [if_neg c3] at H
   have c3b0 : decide (a0 < 1114112) = false := decide_eq_false c3
   clear c3
   obtain rfl := Option.some.inj H
   go_enter Tryd.func55, Tryd.ntmps55
   go_wp2
   go_ret
   exact ⟨sA, by repeat (first | exact Drawn0.refl _ | apply Drawn0.step)⟩
 ·rw [if_neg c2] at H
  have c2b0 : decide (0 ≤ a0) = false := decide_eq_false c2
  clear c2
  obtain rfl := Option.some.inj H
  go_enter Tryd.func55, Tryd.ntmps55
  go_wp2
  go_ret
  exact ⟨sA, by repeat (first | exact Drawn0.refl _ | apply Drawn0.step)⟩

/-! ### flongref02_One: function 28 -/
def flongref02_One.j0 : Nat → Int → Option (List Int)
 | 0, _ => none
 | k + 1, x3 => if x3 < 128 then (some (([(x3) % 256] : List Int))) else (if x3 < 2048 then (some (([(wrap64 (192 + (wrap64 (Int.tdiv x3 64)))) % 256, (wrap64 (128 + (Int.tmod x3 64))) % 256] : List Int))) else (if x3 < 65536 then (some (([(wrap64 (224 + (wrap64 (Int.tdiv x3 4096)))) % 256, (wrap64 (128 + (Int.tmod (wrap64 (Int.tdiv x3 64)) 64))) % 256, (wrap64 (128 + (Int.tmod x3 64))) % 256] : List Int))) else (some (([(wrap64 (240 + (wrap64 (Int.tdiv x3 262144)))) % 256, (wrap64 (128 + (Int.tmod (wrap64 (Int.tdiv x3 4096)) 64))) % 256, (wrap64 (128 + (Int.tmod (wrap64 (Int.tdiv x3 64)) 64))) % 256, (wrap64 (128 + (Int.tmod x3 64))) % 256] : List Int)))))
def flongref02_One.f (k : Nat) (a0 : Int) : Option (List Int) := (flongref02_Valid.f a0).bind fun t227 => (if t227 = true then (flongref02_One.j0 k (wrap64 (a0))) else (flongref02_One.j0 k 65533))
theorem flongref02_One.mono_l : ∀ k, (∀ y0, LeO (flongref02_One.j0 k y0) (flongref02_One.j0 (k + 1) y0))
 | 0 => fun _ r h => by simp [flongref02_One.j0] at h
 | k + 1 => by
  have ih0 := flongref02_One.mono_l k
  ·intro y0
   unfold flongref02_One.j0
   repeat' first
   | (with_reducible exact ih0 _)
   | (with_reducible exact LeO.refl _)
   | (with_reducible exact LeO.none _)
   | (with_reducible refine LeO.ite ?_ ?_)
   | (with_reducible refine LeO.bind ?_ (fun _ => ?_))
theorem flongref02_One.mono : ∀ a0 k, LeO (flongref02_One.f k a0) (flongref02_One.f (k + 1) a0) := by
 intro a0 k
 have ih0 := flongref02_One.mono_l k
 unfold flongref02_One.f
 repeat' first
   | (with_reducible exact ih0 _)
   | (with_reducible exact LeO.refl _)
   | (with_reducible exact LeO.none _)
   | (with_reducible refine LeO.ite ?_ ?_)
   | (with_reducible refine LeO.bind ?_ (fun _ => ?_))
theorem flongref02_One.calls (k : Nat) (a0 : Int) (r : List Int) (w : World) (h : flongref02_One.f k a0 = some r) :
  Calls Tryd.prog 28 #[.int .i32 a0] w fun e w' => ∃ v0_ : Value, e = .returned (v0_) ∧ Kd.R (Kd.int .u8) 5 w' w.heap.size (fun _ => True) v0_ r ∧ Below w.heap.size w w' := by
 have HB := Aside0.mk (Below.refl w.heap.size w)
 have H : ((flongref02_Valid.f a0).bind fun t227 => (if t227 = true then (flongref02_One.j0 k (wrap64 (a0))) else (flongref02_One.j0 k 65533))) = some r := h
 clear h
 replace H := Option.bind_eq_some_iff.mp H
 obtain ⟨t227, A20, H⟩ := H
 replace H : (if t227 = true then (flongref02_One.j0 k (wrap64 (a0))) else (flongref02_One.j0 k 65533)) = some r := H
 have A2 := Aside0.mk A20
 clear A20
 have HC3 := Aside0.mk H
 clear H
 go_enter Tryd.func28, Tryd.ntmps28
 go_upto_if 8 with (first | ((with_reducible refine gate_callee (f := 55) rfl ?_); refine goesL_ (some 7) rfl rfl Tryd.func55 (by kernel_rfl) rfl #[.int .i32 a0] rfl aP ?_; (with_reducible refine (flongref02_Valid.calls a0 t227 _ A2.out).mono ?_); rintro e w' ⟨rfl, ⟨nd, rfl⟩⟩; refine ⟨_, rfl, ?_⟩))
 (try simp only [Act.put, List.setIfInBounds_toArray, List.set_cons_zero, List.set_cons_succ])
 go_cut [3] (fun v3 wc => ∃ (kq : Nat) (x3_2 : Int), v3 = .int .i64 x3_2 ∧ Aside0 (flongref02_One.j0 kq x3_2 = some r) ∧ Aside0 (kq ≤ k) ∧ Aside0 (Below w.heap.size w wc))
 case first =>
  have H := HC3.out
  clear HC3
  by_cases c4 : t227 = true
  ·subst c4
   have H1 : (flongref02_One.j0 k (wrap64 (a0))) = some r := by rw [if_pos rfl] at H; exact H
   clear H
   have H := H1
   clear H1
   have H' := Aside0.mk H
   clear H
   go_wp2
   go_meet
   case rel => exact ⟨_, (wrap64 (a0)), sA, H', ⟨by first | omega | exact Nat.le_refl _⟩, ⟨bA⟩⟩
  ·replace c4 := Bool.eq_false_iff.mpr c4
   subst c4
   have H1 : (flongref02_One.j0 k 65533) = some r := by rw [if_neg (show ¬ (false = true) by decide)] at H; exact H
   clear H
   have H := H1
   clear H1
   have H' := Aside0.mk H
   clear H
   go_wp2
   go_meet
   case rel => exact ⟨_, (65533), sA, H', ⟨by first | omega | exact Nat.le_refl _⟩, ⟨bA⟩⟩
 case rest =>
  clear HC3
  try clear c2
  try clear p2
  try clear c4
  obtain ⟨kq, x3_2, rfl, HA, HJ2, HB⟩ := hcut
  cases kq with
  | zero => exact absurd HA.out (by simp [flongref02_One.j0])
  | succ kj2 =>
   have H := HA.out
   clear HA
   simp only [flongref02_One.j0] at H
   by_cases c5 : x3_2 < 128
   ·rw [if_pos c5] at H
    have c5b0 : decide (x3_2 < 128) = true := decide_eq_true c5
    clear c5
    obtain ⟨y228, hy228⟩ : ∃ y_ : List Int, y_ = (([(x3_2) % 256] : List Int)) := ⟨_, rfl⟩
    replace H : (some y228) = some r := hyA hy228 H
    have Ny228 := Aside0.mk hy228
    clear hy228
    obtain rfl := Option.some.inj H
    go_wp2_with (first | ((with_reducible refine gate_dst (N := 13) rfl ?_); refine Kd.R_lit (Kd.int .u8) _ 5 ?hg (N := 13) ?hd (xs := ([(x3_2) % 256] : List Int)) (inner := [.int .u8 ((x3_2) % 256)]) (ok := fun _ => True) (okp := fun _ => True) ?hr ?hp (fun _ hk => hk) trivial (Below.refl _ _) (Nat.le_refl _) (by simp) ?_; (case hd => rfl); (case hg => rfl); (case hr => first | (go_simp; done) | (go_simp; rfl)); (case hp => exact (Reps.one (show Kd.M (Kd.int .u8) _ _ _ ((x3_2) % 256) [.int .u8 ((x3_2) % 256)] from rfl) (Reps.none _ _))); intro v229 w6 ho7 hb hg_ hnew_; clear hg_ hnew_; (first | rw [← Ny228.out] at ho7 | (simp only [Int.reduceToNat] at ho7; rw [← Ny228.out] at ho7)); have HO230 := Aside0.mk (Kd.R_lower ho7 (below_size bA)); replace HB := Aside0.mk (below_step bA hb); clear hb ho7))
    go_ret
    exact ⟨_, eW, kR HO230, bA⟩
   ·rw [if_neg c5] at H
    have c5b0 : decide (x3_2 < 128) = false := decide_eq_false c5
    clear c5
    by_cases c8 : x3_2 < 2048
    ·rw [if_pos c8] at H
     have c8b0 : decide (x3_2 < 2048) = true := decide_eq_true c8
     clear c8
     obtain ⟨y231, hy231⟩ : ∃ y_ : List Int, y_ = (([(wrap64 (192 + (wrap64 (Int.tdiv x3_2 64)))) % 256, (wrap64 (128 + (Int.tmod x3_2 64))) % 256] : List Int)) := ⟨_, rfl⟩
     replace H : (some y231) = some r := hyA hy231 H
     have Ny231 := Aside0.mk hy231
     clear hy231
     obtain rfl := Option.some.inj H
     go_wp2_with (first | ((with_reducible refine gate_dst (N := 24) rfl ?_); refine Kd.R_lit (Kd.int .u8) _ 5 ?hg (N := 24) ?hd (xs := ([(wrap64 (192 + (wrap64 (Int.tdiv x3_2 64)))) % 256, (wrap64 (128 + (Int.tmod x3_2 64))) % 256] : List Int)) (inner := [.int .u8 ((wrap64 (192 + (wrap64 (Int.tdiv x3_2 64)))) % 256), .int .u8 ((wrap64 (128 + (Int.tmod x3_2 64))) % 256)]) (ok := fun _ => True) (okp := fun _ => True) ?hr ?hp (fun _ hk => hk) trivial (Below.refl _ _) (Nat.le_refl _) (by simp) ?_; (case hd => rfl); (case hg => rfl); (case hr => first | (go_simp; done) | (go_simp; rfl)); (case hp => exact (Reps.one (show Kd.M (Kd.int .u8) _ _ _ ((wrap64 (192 + (wrap64 (Int.tdiv x3_2 64)))) % 256) [.int .u8 ((wrap64 (192 + (wrap64 (Int.tdiv x3_2 64)))) % 256)] from rfl) (Reps.one (show Kd.M (Kd.int .u8) _ _ _ ((wrap64 (128 + (Int.tmod x3_2 64))) % 256) [.int .u8 ((wrap64 (128 + (Int.tmod x3_2 64))) % 256)] from rfl) (Reps.none _ _)))); intro v232 w9 ho10 hb hg_ hnew_; clear hg_ hnew_; (first | rw [← Ny231.out] at ho10 | (simp only [Int.reduceToNat] at ho10; rw [← Ny231.out] at ho10)); have HO233 := Aside0.mk (Kd.R_lower ho10 (below_size bA)); replace HB := Aside0.mk (below_step bA hb); clear hb ho10))
     go_ret
     exact ⟨_, eW, kR HO233, bA⟩
    ·rw [if_neg c8] at H
     have c8b0 : decide (x3_2 < 2048) = false := decide_eq_false c8
     clear c8
     by_cases c11 : x3_2 < 65536
     ·rw [if_pos c11] at H
      have c11b0 : decide (x3_2 < 65536) = true := decide_eq_true c11
      clear c11
      obtain ⟨y234, hy234⟩ : ∃ y_ : List Int, y_ = (([(wrap64 (224 + (wrap64 (Int.tdiv x3_2 4096)))) % 256, (wrap64 (128 + (Int.tmod (wrap64 (Int.tdiv x3_2 64)) 64))) % 256, (wrap64 (128 + (Int.tmod x3_2 64))) % 256] : List Int)) := ⟨_, rfl⟩
      replace H : (some y234) = some r := hyA hy234 H
      have Ny234 := Aside0.mk hy234
      clear hy234
      obtain rfl := Option.some.inj H
      go_wp2_with (first | ((with_reducible refine gate_dst (N := 40) rfl ?_); refine Kd.R_lit (Kd.int .u8) _ 5 ?hg (N := 40) ?hd (xs := ([(wrap64 (224 + (wrap64 (Int.tdiv x3_2 4096)))) % 256, (wrap64 (128 + (Int.tmod (wrap64 (Int.tdiv x3_2 64)) 64))) % 256, (wrap64 (128 + (Int.tmod x3_2 64))) % 256] : List Int)) (inner := [.int .u8 ((wrap64 (224 + (wrap64 (Int.tdiv x3_2 4096)))) % 256), .int .u8 ((wrap64 (128 + (Int.tmod (wrap64 (Int.tdiv x3_2 64)) 64))) % 256), .int .u8 ((wrap64 (128 + (Int.tmod x3_2 64))) % 256)]) (ok := fun _ => True) (okp := fun _ => True) ?hr ?hp (fun _ hk => hk) trivial (Below.refl _ _) (Nat.le_refl _) (by simp) ?_; (case hd => rfl); (case hg => rfl); (case hr => first | (go_simp; done) | (go_simp; rfl)); (case hp => exact (Reps.one (show Kd.M (Kd.int .u8) _ _ _ ((wrap64 (224 + (wrap64 (Int.tdiv x3_2 4096)))) % 256) [.int .u8 ((wrap64 (224 + (wrap64 (Int.tdiv x3_2 4096)))) % 256)] from rfl) (Reps.one (show Kd.M (Kd.int .u8) _ _ _ ((wrap64 (128 + (Int.tmod (wrap64 (Int.tdiv x3_2 64)) 64))) % 256) [.int .u8 ((wrap64 (128 + (Int.tmod (wrap64 (Int.tdiv x3_2 64)) 64))) % 256)] from rfl) (Reps.one (show Kd.M (Kd.int .u8) _ _ _ ((wrap64 (128 + (Int.tmod x3_2 64))) % 256) [.int .u8 ((wrap64 (128 + (Int.tmod x3_2 64))) % 256)] from rfl) (Reps.none _ _))))); intro v235 w12 ho13 hb hg_ hnew_; clear hg_ hnew_; (first | rw [← Ny234.out] at ho13 | (simp only [Int.reduceToNat] at ho13; rw [← Ny234.out] at ho13)); have HO236 := Aside0.mk (Kd.R_lower ho13 (below_size bA)); replace HB := Aside0.mk (below_step bA hb); clear hb ho13))
      go_ret
      exact ⟨_, eW, kR HO236, bA⟩
     ·rw [if_neg c11] at H
      have c11b0 : decide (x3_2 < 65536) = false := decide_eq_false c11
      clear c11
      obtain ⟨y237, hy237⟩ : ∃ y_ : List Int, y_ = (([(wrap64 (240 + (wrap64 (Int.tdiv x3_2 262144)))) % 256, (wrap64 (128 + (Int.tmod (wrap64 (Int.tdiv x3_2 4096)) 64))) % 256, (wrap64 (128 + (Int.tmod (wrap64 (Int.tdiv x3_2 64)) 64))) % 256, (wrap64 (128 + (Int.tmod x3_2 64))) % 256] : List Int)) := ⟨_, rfl⟩
      replace H : (some y237) = some r := hyA hy237 H
      have Ny237 := Aside0.mk hy237
      clear hy237
      obtain rfl := Option.some.inj H
      go_wp2_with (first | ((with_reducible refine gate_dst (N := 59) rfl ?_); refine Kd.R_lit (Kd.int .u8) _ 5 ?hg (N := 59) ?hd (xs := ([(wrap64 (240 + (wrap64 (Int.tdiv x3_2 262144)))) % 256, (wrap64 (128 + (Int.tmod (wrap64 (Int.tdiv x3_2 4096)) 64))) % 256, (wrap64 (128 + (Int.tmod (wrap64 (Int.tdiv x3_2 64)) 64))) % 256, (wrap64 (128 + (Int.tmod x3_2 64))) % 256] : List Int)) (inner := [.int .u8 ((wrap64 (240 + (wrap64 (Int.tdiv x3_2 262144)))) % 256), .int .u8 ((wrap64 (128 + (Int.tmod (wrap64 (Int.tdiv x3_2 4096)) 64))) % 256), .int .u8 ((wrap64 (128 + (Int.tmod (wrap64 (Int.tdiv x3_2 64)) 64))) % 256), .int .u8 ((wrap64 (128 + (Int.tmod x3_2 64))) % 256)]) (ok := fun _ => True) (okp := fun _ => True) ?hr ?hp (fun _ hk => hk) trivial (Below.refl _ _) (Nat.le_refl _) (by simp) ?_; (case hd => rfl); (case hg => rfl); (case hr => first | (go_simp; done) | (go_simp; rfl)); (case hp => exact (Reps.one (show Kd.M (Kd.int .u8) _ _ _ ((wrap64 (240 + (wrap64 (Int.tdiv x3_2 262144)))) % 256) [.int .u8 ((wrap64 (240 + (wrap64 (Int.tdiv x3_2 262144)))) % 256)] from rfl) (Reps.one (show Kd.M (Kd.int .u8) _ _ _ ((wrap64 (128 + (Int.tmod (wrap64 (Int.tdiv x3_2 4096)) 64))) % 256) [.int .u8 ((wrap64 (128 + (Int.tmod (wrap64 (Int.tdiv x3_2 4096)) 64))) % 256)] from rfl) (Reps.one (show Kd.M (Kd.int .u8) _ _ _ ((wrap64 (128 + (Int.tmod (wrap64 (Int.tdiv x3_2 64)) 64))) % 256) [.int .u8 ((wrap64 (128 + (Int.tmod (wrap64 (Int.tdiv x3_2 64)) 64))) % 256)] from rfl) (Reps.one (show Kd.M (Kd.int .u8) _ _ _ ((wrap64 (128 + (Int.tmod x3_2 64))) % 256) [.int .u8 ((wrap64 (128 + (Int.tmod x3_2 64))) % 256)] from rfl) (Reps.none _ _)))))); intro v238 w14 ho15 hb hg_ hnew_; clear hg_ hnew_; (first | rw [← Ny237.out] at ho15 | (simp only [Int.reduceToNat] at ho15; rw [← Ny237.out] at ho15)); have HO239 := Aside0.mk (Kd.R_lower ho15 (below_size bA)); replace HB := Aside0.mk (below_step bA hb); clear hb ho15))
      go_ret
      exact ⟨_, eW, kR HO239, bA⟩

/-! ### flongref03_Text: function 13 -/
def flongref03_Text.l0 : Nat → List (S35) → List Int → Int → Option (ByteArray)
 | 0, _, _, _ => none
 | k + 1, x0, x3, x4 => if x4 < (x0.length : Int) then (if 0 ≤ x4 then ((flongref02_One.f k ((rd_T35 x0 x4).f0)).bind fun t241 => (if x3.length + t241.length < 140737488355328 then (flongref03_Text.l0 k x0 (x3 ++ t241) (wrap64 (x4 + 1))) else (none))) else (none)) else (some (strOfNums x3))
def flongref03_Text.f (k : Nat) (l0 : List (S35)) : Option (ByteArray) := flongref03_Text.l0 k l0 ([] : List Int) 0
theorem flongref03_Text.mono_l : ∀ k, (∀ y0 y1 y2, LeO (flongref03_Text.l0 k y0 y1 y2) (flongref03_Text.l0 (k + 1) y0 y1 y2))
 | 0 => fun _ _ _ r h => by simp [flongref03_Text.l0] at h
 | k + 1 => by
  have ih0 := flongref03_Text.mono_l k
  ·intro y0 y1 y2
   unfold flongref03_Text.l0
   repeat' first
   | (with_reducible exact ih0 _ _ _)
   | (with_reducible exact flongref02_One.mono _ _)
   | (with_reducible exact LeO.refl _)
   | (with_reducible exact LeO.none _)
   | (with_reducible refine LeO.ite ?_ ?_)
   | (with_reducible refine LeO.bind ?_ (fun _ => ?_))
theorem flongref03_Text.mono : ∀ a0 k, LeO (flongref03_Text.f k a0) (flongref03_Text.f (k + 1) a0) := by
 intro a0 k
 have ih0 := flongref03_Text.mono_l k
 unfold flongref03_Text.f
 repeat' first
   | (with_reducible exact ih0 _ _ _)
   | (with_reducible exact flongref02_One.mono _ _)
   | (with_reducible exact LeO.refl _)
   | (with_reducible exact LeO.none _)
   | (with_reducible refine LeO.ite ?_ ?_)
   | (with_reducible refine LeO.bind ?_ (fun _ => ?_))
theorem flongref03_Text.calls (k : Nat) (A0 : Option Addr) (c0 : Nat) (l0 : List (S35)) (r : ByteArray) (w : World) (hr0 : Kd.C k35 w A0 l0.length l0) (hc0 : l0.length ≤ c0) (h : flongref03_Text.f k l0 = some r) :
  Calls Tryd.prog 13 #[.slice A0 l0.length c0] w fun e w' => e = .returned (.string r) ∧ Below w.heap.size w w' := by
 have HR0 := Aside0.mk hr0
 have HC0 := Aside0.mk hc0
 clear hr0 hc0
 have HB := Aside0.mk (Below.refl w.heap.size w)
 have H : (flongref03_Text.l0 k l0 ([] : List Int) 0) = some r := h
 clear h
 have H' := Aside0.mk H
 clear H
 go_enter Tryd.func13, Tryd.ntmps13
 go_wp2
 go_loopg [3, 4] k (fun kq v3 v4 w' => ∃ (x3_1 : List Int) (x4_1 : Int), v4 = .int .i64 x4_1 ∧ Aside0 (flongref03_Text.l0 kq l0 x3_1 x4_1 = some r) ∧ Aside0 (kq ≤ k) ∧ Aside0 (Kd.R (Kd.int .u8) 5 w' w.heap.size (fun _ => True) v3 x3_1) ∧ Aside0 (Below w.heap.size w w'))
 case atStart => exact ⟨(([] : List Int)), (0), sA, H', ⟨Nat.le_refl _⟩, ⟨by first | exact Kd.R_nil _ _ _ _ _ | exact Kd.N_nil _ _ _ _ _ | exact Kd.V_nil _ _ _ _ _ | exact Kd.Q_nil _ _ _ _ _ | exact Kd.S_nil _ _ _ _ _⟩, ⟨bA⟩⟩
 case round =>
  clear H'
  try clear c1
  obtain ⟨x3_1, x4_1, rfl, HA, HK1, HO_3, HB⟩ := hrel
  cases gk with
  | zero => exact absurd HA.out (by simp [flongref03_Text.l0])
  | succ k1 =>
   have H := HA.out
   clear HA
   simp only [flongref03_Text.l0] at H
   by_cases c2 : x4_1 < (l0.length : Int)
   ·rw [if_pos c2] at H
    have c2b0 : decide (x4_1 < (l0.length : Int)) = true := decide_eq_true c2
    clear c2
    by_cases c3 : 0 ≤ x4_1
    ·rw [if_pos c3] at H
     have c3b0 : decide (0 ≤ x4_1) = true := decide_eq_true c3
     clear c3
     replace H := Option.bind_eq_some_iff.mp H
     obtain ⟨t241, A40, H⟩ := H
     replace H : (if x3_1.length + t241.length < 140737488355328 then (flongref03_Text.l0 k1 l0 (x3_1 ++ t241) (wrap64 (x4_1 + 1))) else (none)) = some r := H
     have A4 := Aside0.mk A40
     clear A40
     by_cases c5 : x3_1.length + t241.length < 140737488355328
     ·rw [if_pos c5] at H
      have LMc5 := Aside0.mk c5
      clear c5
      obtain ⟨y244, hy244⟩ : ∃ y_ : List Int, y_ = (x3_1 ++ t241) := ⟨_, rfl⟩
      replace H : (flongref03_Text.l0 k1 l0 y244 (wrap64 (x4_1 + 1))) = some r := hyA hy244 H
      have Ny244 := Aside0.mk hy244
      clear hy244
      have H' := Aside0.mk H
      clear H
      have p240 : 0 ≤ (x4_1 : Int) := of_decide_eq_true asA
      have q240 : x4_1 < (l0.length : Int) := of_decide_eq_true asA
      obtain ⟨ad240, e240, hx240_0, hx240_1⟩ := at_T35 HR0.out x4_1 p240 q240
      cases e240
      replace hx240_0 := (HB.out.cell (World.block_lt_of_cell? w _ hx240_0)).trans hx240_0
      replace hx240_1 := (HB.out.cell (World.block_lt_of_cell? w _ hx240_1)).trans hx240_1
      replace p240 := eq_true p240
      replace q240 := eq_true q240
      go_wp2_with (first | ((with_reducible refine gate_callee (f := 28) rfl ?_); refine goesL_ (some 17) rfl rfl Tryd.func28 (by kernel_rfl) rfl #[.int .i32 ((rd_T35 l0 x4_1).f0)] rfl aP ?_; (with_reducible refine (flongref02_One.calls k1 ((rd_T35 l0 x4_1).f0) t241 _ A4.out).mono ?_); rintro e w6 ⟨v242, rfl, ho0, hb⟩; refine ⟨_, rfl, ?_⟩; have n0_ := Aside0.mk (Kd.R_elder' (kR HO_3) (Kd.R_base ho0) hb); have n1_ := Aside0.mk (Kd.R_lower (Kd.R_new' ho0 (Kd.R_lt (kR HO_3))) (below_size bA)); have n2_ := Aside0.mk (below_step bA hb); clear HO_3; clear HB; have HO_3 := n0_; have HO243 := n1_; have HB := n2_; clear n0_ n1_ n2_; (try clear hb); (try clear hb2); (try clear hk); (try clear hi); (try clear ho0); obtain ⟨Ao8, co8, eo8⟩ := Kd.R_slice HO243.out; subst eo8) | ((with_reducible refine gate_builtin (b := .append) (xs := #[.tmp 11, .tmp 17]) rfl ?_); at_builtin; refine Kd.R_append_rows (Kd.int .u8) (w0 := w) w.heap.size rfl (.tmp 11) (.tmp 17) 25 5 (.int .u8 0) 1 rfl Tryd.underlying25 info5 rfl (by decide) (by omega) u3 x3_1 t241 _ _ _ (fun k_ => some k_ ≠ (.slice Ao8 t241.length co8 : Value).ownBlock) (fun _ => False) rfl rfl ?aO ?aR (fun _ _ h => h) (fun _ h => h.elim) ?aF ?aB ?aS ?aL ?_; (case aR => repeat (first | exact (Kd.R_reads' HO243.out).2.2 | (with_reducible refine Kd.C_alloc ?_ _) | (with_reducible refine Kd.C_drewN ?_ _) | (with_reducible refine Kd.C_drew ?_))); (case aB => exact bA); (case aF => exact (fun k_ hk => Kd.fresh' (Kd.R_lt (kR HO243)) k_ hk)); (case aO => exact (by (with_reducible repeat (first | apply Kd.R_alloc | apply Kd.R_drewN | apply Kd.R_drew)); exact Kd.R_mono HO_3.out (fun _ hk => hk.2))); (case aS => exact (below_size bA)); (case aL => have := LMc5.out; omega); intro v245 w7 ho hb hg hat; rw [← Ny244.out] at ho; have n0_ := Aside0.mk (Kd.R_after (ok := (fun _ => True)) (kR HO243) hg hat); have n1_ := Aside0.mk (hb); have n2_ := Aside0.mk (ho); clear HO243; clear HB; clear HO_3; have HO243 := n0_; have HB := n1_; have HO246 := n2_; clear n0_ n1_ n2_; clear ho hb hg hat))
      go_roundg k1
      case measure => have := HK1.out; omega
      case rel => exact ⟨(y244), (wrap64 (x4_1 + 1)), sA, H', ⟨by have := HK1.out; omega⟩, ⟨by (with_reducible repeat (first | apply Kd.R_alloc | apply Kd.R_drewN | apply Kd.R_drew)); exact Kd.R_mono HO246.out (fun _ hk => trivial)⟩, ⟨bA⟩⟩
     ·rw [if_neg c5] at H
      exact absurd H (by simp)
    ·rw [if_neg c3] at H
     exact absurd H (by simp)
   ·rw [if_neg c2] at H
    have c2b0 : decide (x4_1 < (l0.length : Int)) = false := decide_eq_false c2
    clear c2
    obtain rfl := Option.some.inj H
    have hcv9 := own_string (P := Tryd.prog) Tryd.underlying25 Tryd.underlying5 Tryd.underlying9 (Kd.own_of_R HO_3.out)
    go_wp2
    go_ret
    exact ⟨eW, bA⟩

-- NOT PRINTED: function 89 (utf8_RuneCountInString)

-- NOT PRINTED: function 93 (utf8_decodeRuneInStringSlow)

-- NOT PRINTED: function 90 (utf8_DecodeRuneInString)

-- NOT PRINTED: function 81 (strings_explode)

-- NOT PRINTED: function 98 (bytealg_IndexByteString)

-- NOT PRINTED: function 94 (stringslite_IndexByte)

-- NOT PRINTED: function 95 (bytealg_IndexString)

-- NOT PRINTED: function 92 (stringslite_Index)

-- NOT PRINTED: function 83 (strings_Index)

-- NOT PRINTED: function 91 (bytealg_CountString)

-- NOT PRINTED: function 82 (strings_Count)

-- NOT PRINTED: function 67 (strings_genSplit)

/-! ### runes_first: function 84 -/
mutual
def runes_first.j0 : Nat → List Int → Int → Int → Option (Int × Int)
 | 0, _, _, _ => none
 | k + 1, x0, x4, x5 => if x4 = 0 then (runes_first.j1 k x0 x4 x5 true) else (runes_first.j1 k x0 x4 x5 (decide ((x0.length : Int) < x4)))
def runes_first.j1 : Nat → List Int → Int → Int → Bool → Option (Int × Int)
 | 0, _, _, _, _ => none
 | k + 1, x0, x4, x5, x45 => if x45 = true then (some (65533, 1)) else (if 1 ≤ x4 then (if x4 ≤ (x0.length : Int) then ((some ((x0.take (x4 : Int).toNat).drop 1 : List Int)).bind fun y248 => (runes_first.l0 k x4 x5 y248 (y248.length : Int) 0)) else (none)) else (none))
def runes_first.l0 : Nat → Int → Int → List Int → Int → Int → Option (Int × Int)
 | 0, _, _, _, _, _ => none
 | k + 1, x4, x5, x48, x49, x50 => if x50 < x49 then (if 0 ≤ x50 then (if x50 < (x48.length : Int) then (if (Go.bits .and .u8 (rd x48 x50) 192) = 128 then (runes_first.l0 k x4 (Go.bits .or .i32 (wrap32 (x5 * 64)) (wrap32 (Go.bits .and .u8 (rd x48 x50) 63))) x48 x49 (wrap64 (x50 + 1))) else (some (65533, 1))) else (none)) else (none)) else ((runes_Valid.f x5).bind fun t253 => (if t253 = true then ((runes_size.f x5).bind fun t254 => (if t254 = x4 then (some (x5, x4)) else (some (65533, 1)))) else (some (65533, 1))))
end
def runes_first.f (k : Nat) (l0 : List Int) : Option (Int × Int) := if 0 < (l0.length : Int) then (if (rd l0 0) < 128 then (some (wrap32 (rd l0 0), 1)) else (if (Go.bits .and .u8 (rd l0 0) 224) = 192 then (runes_first.j0 k l0 2 (wrap32 (Go.bits .and .u8 (rd l0 0) 31))) else (if (Go.bits .and .u8 (rd l0 0) 240) = 224 then (runes_first.j0 k l0 3 (wrap32 (Go.bits .and .u8 (rd l0 0) 15))) else (if (Go.bits .and .u8 (rd l0 0) 248) = 240 then (runes_first.j0 k l0 4 (wrap32 (Go.bits .and .u8 (rd l0 0) 7))) else (runes_first.j0 k l0 0 0))))) else (none)
theorem runes_first.mono_l : ∀ k, (∀ y0 y1 y2, LeO (runes_first.j0 k y0 y1 y2) (runes_first.j0 (k + 1) y0 y1 y2)) ∧ (∀ y0 y1 y2 y3, LeO (runes_first.j1 k y0 y1 y2 y3) (runes_first.j1 (k + 1) y0 y1 y2 y3)) ∧ (∀ y0 y1 y2 y3 y4, LeO (runes_first.l0 k y0 y1 y2 y3 y4) (runes_first.l0 (k + 1) y0 y1 y2 y3 y4))
 | 0 => ⟨fun _ _ _ r h => by simp [runes_first.j0] at h, fun _ _ _ _ r h => by simp [runes_first.j1] at h, fun _ _ _ _ _ r h => by simp [runes_first.l0] at h⟩
 | k + 1 => by
  obtain ⟨ih0, ih1, ih2⟩ := runes_first.mono_l k
  refine ⟨?_, ?_, ?_⟩
  ·intro y0 y1 y2
   unfold runes_first.j0
   repeat' first
   | (with_reducible exact ih0 _ _ _)
   | (with_reducible exact ih1 _ _ _ _)
   | (with_reducible exact ih2 _ _ _ _ _)
   | (with_reducible exact LeO.refl _)
   | (with_reducible exact LeO.none _)
   | (with_reducible refine LeO.ite ?_ ?_)
   | (with_reducible refine LeO.bind ?_ (fun _ => ?_))
  ·intro y0 y1 y2 y3
   unfold runes_first.j1
   repeat' first
   | (with_reducible exact ih0 _ _ _)
   | (with_reducible exact ih1 _ _ _ _)
   | (with_reducible exact ih2 _ _ _ _ _)
   | (with_reducible exact LeO.refl _)
   | (with_reducible exact LeO.none _)
   | (with_reducible refine LeO.ite ?_ ?_)
   | (with_reducible refine LeO.bind ?_ (fun _ => ?_))
  ·intro y0 y1 y2 y3 y4
   unfold runes_first.l0
   repeat' first
   | (with_reducible exact ih0 _ _ _)
   | (with_reducible exact ih1 _ _ _ _)
   | (with_reducible exact ih2 _ _ _ _ _)
   | (with_reducible exact LeO.refl _)
   | (with_reducible exact LeO.none _)
   | (with_reducible refine LeO.ite ?_ ?_)
   | (with_reducible refine LeO.bind ?_ (fun _ => ?_))
theorem runes_first.mono : ∀ a0 k, LeO (runes_first.f k a0) (runes_first.f (k + 1) a0) := by
 intro a0 k
 obtain ⟨ih0, ih1, ih2⟩ := runes_first.mono_l k
 unfold runes_first.f
 repeat' first
   | (with_reducible exact ih0 _ _ _)
   | (with_reducible exact ih1 _ _ _ _)
   | (with_reducible exact ih2 _ _ _ _ _)
   | (with_reducible exact LeO.refl _)
   | (with_reducible exact LeO.none _)
   | (with_reducible refine LeO.ite ?_ ?_)
   | (with_reducible refine LeO.bind ?_ (fun _ => ?_))
theorem runes_first.calls (k : Nat) (A0 : Option Addr) (c0 : Nat) (l0 : List Int) (r1 : Int) (r2 : Int) (w : World) (hr0 : Kd.C (Kd.int .u8) w A0 l0.length l0) (hc0 : l0.length ≤ c0) (h : runes_first.f k l0 = some (r1, r2)) :
  Calls Tryd.prog 84 #[.slice A0 l0.length c0] w fun e w' => e = .returned (.tuple #[.int .i32 r1, .int .i64 r2]) ∧ Drawn0 w w' := by
 have HR0 := Aside0.mk hr0
 have HC0 := Aside0.mk hc0
 clear hr0 hc0
 have H : (if 0 < (l0.length : Int) then (if (rd l0 0) < 128 then (some (wrap32 (rd l0 0), 1)) else (if (Go.bits .and .u8 (rd l0 0) 224) = 192 then (runes_first.j0 k l0 2 (wrap32 (Go.bits .and .u8 (rd l0 0) 31))) else (if (Go.bits .and .u8 (rd l0 0) 240) = 224 then (runes_first.j0 k l0 3 (wrap32 (Go.bits .and .u8 (rd l0 0) 15))) else (if (Go.bits .and .u8 (rd l0 0) 248) = 240 then (runes_first.j0 k l0 4 (wrap32 (Go.bits .and .u8 (rd l0 0) 7))) else (runes_first.j0 k l0 0 0))))) else (none)) = some (r1, r2) := h
 clear h
 by_cases c2 : 0 < (l0.length : Int)
 ·rw [if_pos c2] at H
  have c2b0 : decide (0 < (l0.length : Int)) = true := decide_eq_true c2
  have c2b1 : decide (0 < l0.length) = true := decide_eq_true (by omega)
  clear c2
  have HC3 := Aside0.mk H
  clear H
  have p247 : 0 ≤ (0 : Int) := (by omega)
  have q247 : 0 < (l0.length : Int) := of_decide_eq_true asA
  obtain ⟨ad247, e247, hx247_0⟩ := Kd.at_int HR0.out 0 p247 q247
  cases e247
  have qi247 : (0 < l0.length) = True := eq_true (by omega)
  (try rw [show ((0 : Int)).toNat = 0 from rfl] at hx247_0)
  (try rw [Addr.add_zero'] at hx247_0)
  replace p247 := eq_true p247
  replace q247 := eq_true q247
  go_enter Tryd.func84, Tryd.ntmps84
  go_upto_block 0 with (fail)
  go_cut [4, 5] (fun v4 v5 wc => ∃ (kq : Nat) (x4_2 : Int) (x5_2 : Int), v4 = .int .i64 x4_2 ∧ v5 = .int .i32 x5_2 ∧ Aside0 (runes_first.j0 kq l0 x4_2 x5_2 = some (r1, r2)) ∧ Aside0 (kq ≤ k) ∧ Drawn0 w wc)
  case first =>
   have H := HC3.out
   clear HC3
   by_cases c4 : (rd l0 0) < 128
   ·rw [if_pos c4] at H
    have c4b0 : decide ((rd l0 0) < 128) = true := decide_eq_true c4
    clear c4
    (first | rw [c4b0] | (simp only [i64_w, i32_w]; rw [c4b0]) | skip)
    simp only [Option.some.injEq, Prod.mk.injEq] at H
    obtain ⟨rfl, rfl⟩ := H
    go_wp2
    go_ret2
    exact ⟨sA, by repeat (first | exact Drawn0.refl _ | apply Drawn0.step)⟩
   ·rw [if_neg c4] at H
    have c4b0 : decide ((rd l0 0) < 128) = false := decide_eq_false c4
    clear c4
    (first | rw [c4b0] | (simp only [i64_w, i32_w]; rw [c4b0]) | skip)
    by_cases c5 : (Go.bits .and .u8 (rd l0 0) 224) = 192
    ·rw [if_pos c5] at H
     have c5b0 : ((Go.bits .and .u8 (rd l0 0) 224) == 192) = true := beq_iff_eq.mpr c5
     have c5b1 : ((Go.bits .and .u8 (rd l0 0) 224) != 192) = false := bne_eq_false_iff_eq.mpr c5
     clear c5
     have H' := Aside0.mk H
     clear H
     go_wp2
     go_meet
     case rel => exact ⟨_, (2), (wrap32 (Go.bits .and .u8 (rd l0 0) 31)), sA, sA, H', ⟨by first | omega | exact Nat.le_refl _⟩, by repeat (first | exact Drawn0.refl _ | apply Drawn0.step)⟩
    ·rw [if_neg c5] at H
     have c5b0 : ((Go.bits .and .u8 (rd l0 0) 224) == 192) = false := beq_eq_false_iff_ne.mpr c5
     have c5b1 : ((Go.bits .and .u8 (rd l0 0) 224) != 192) = true := bne_iff_ne.mpr c5
     by_cases c6 : (Go.bits .and .u8 (rd l0 0) 240) = 224
     ·rw [if_pos c6] at H
      have c6b0 : ((Go.bits .and .u8 (rd l0 0) 240) == 224) = true := beq_iff_eq.mpr c6
      have c6b1 : ((Go.bits .and .u8 (rd l0 0) 240) != 224) = false := bne_eq_false_iff_eq.mpr c6
      clear c6
      have H' := Aside0.mk H
      clear H
      go_wp2
      go_meet
      case rel => exact ⟨_, (3), (wrap32 (Go.bits .and .u8 (rd l0 0) 15)), sA, sA, H', ⟨by first | omega | exact Nat.le_refl _⟩, by repeat (first | exact Drawn0.refl _ | apply Drawn0.step)⟩
     ·rw [if_neg c6] at H
      have c6b0 : ((Go.bits .and .u8 (rd l0 0) 240) == 224) = false := beq_eq_false_iff_ne.mpr c6
      have c6b1 : ((Go.bits .and .u8 (rd l0 0) 240) != 224) = true := bne_iff_ne.mpr c6
      by_cases c7 : (Go.bits .and .u8 (rd l0 0) 248) = 240
      ·rw [if_pos c7] at H
       have c7b0 : ((Go.bits .and .u8 (rd l0 0) 248) == 240) = true := beq_iff_eq.mpr c7
       have c7b1 : ((Go.bits .and .u8 (rd l0 0) 248) != 240) = false := bne_eq_false_iff_eq.mpr c7
       clear c7
       have H' := Aside0.mk H
       clear H
       go_wp2
       go_meet
       case rel => exact ⟨_, (4), (wrap32 (Go.bits .and .u8 (rd l0 0) 7)), sA, sA, H', ⟨by first | omega | exact Nat.le_refl _⟩, by repeat (first | exact Drawn0.refl _ | apply Drawn0.step)⟩
      ·rw [if_neg c7] at H
       have c7b0 : ((Go.bits .and .u8 (rd l0 0) 248) == 240) = false := beq_eq_false_iff_ne.mpr c7
       have c7b1 : ((Go.bits .and .u8 (rd l0 0) 248) != 240) = true := bne_iff_ne.mpr c7
       have H' := Aside0.mk H
       clear H
       go_wp2
       go_meet
       case rel => exact ⟨_, (0), (0), sA, sA, H', ⟨by first | omega | exact Nat.le_refl _⟩, by repeat (first | exact Drawn0.refl _ | apply Drawn0.step)⟩
  case rest =>
   clear HC3
   try clear c2
   try clear c2b0
   try clear c2b1
   try clear p2
   try clear q2
   try clear hx2
   try clear qi2
   try clear p3
   try clear c4
   try clear c4b0
   try clear c5
   try clear c5b0
   try clear c5b1
   try clear c6
   try clear c6b0
   try clear c6b1
   try clear c7
   try clear c7b0
   try clear c7b1
   try clear hx247_0
   try clear p247
   try clear q247
   obtain ⟨kq, x4_2, x5_2, rfl, rfl, HA, HJ2, ⟨mc2, rfl⟩⟩ := hcut
   cases kq with
   | zero => exact absurd HA.out (by simp [runes_first.j0])
   | succ kj2 =>
    have H := HA.out
    clear HA
    simp only [runes_first.j0] at H
    have HC8 := Aside0.mk H
    clear H
    go_upto_region 11 with (fail)
    go_cut [45] (fun v45 wc => ∃ (kq : Nat) (x45_7 : Bool), v45 = .bool x45_7 ∧ Aside0 (runes_first.j1 kq l0 x4_2 x5_2 x45_7 = some (r1, r2)) ∧ Aside0 (kq ≤ kj2) ∧ Drawn0 w wc)
    case first =>
     have H := HC8.out
     clear HC8
     by_cases c9 : x4_2 = 0
     ·rw [if_pos c9] at H
      have c9b0 : (x4_2 == 0) = true := beq_iff_eq.mpr c9
      have c9b1 : (x4_2 != 0) = false := bne_eq_false_iff_eq.mpr c9
      clear c9
      (first | rw [c9b0] | (simp only [i64_w, i32_w]; rw [c9b0]) | skip)
      have H' := Aside0.mk H
      clear H
      go_wp2
      go_meet
      case rel => exact ⟨_, (true), sA, H', ⟨by have := HJ2.out; first | omega | exact Nat.le_refl _⟩, by repeat (first | exact Drawn0.refl _ | apply Drawn0.step)⟩
     ·rw [if_neg c9] at H
      have c9b0 : (x4_2 == 0) = false := beq_eq_false_iff_ne.mpr c9
      have c9b1 : (x4_2 != 0) = true := bne_iff_ne.mpr c9
      (first | rw [c9b0] | (simp only [i64_w, i32_w]; rw [c9b0]) | skip)
      have H' := Aside0.mk H
      clear H
      go_wp2
      go_meet
      case rel => exact ⟨_, (decide ((l0.length : Int) < x4_2)), sA, H', ⟨by have := HJ2.out; first | omega | exact Nat.le_refl _⟩, by repeat (first | exact Drawn0.refl _ | apply Drawn0.step)⟩
    case rest =>
     clear HC8
     try clear c2
     try clear c2b0
     try clear c2b1
     try clear p2
     try clear q2
     try clear hx2
     try clear qi2
     try clear p3
     try clear c4
     try clear c4b0
     try clear c5
     try clear c5b0
     try clear c5b1
     try clear c6
     try clear c6b0
     try clear c6b1
     try clear c7
     try clear c7b0
     try clear c7b1
     try clear c8
     try clear c9
     try clear c9b0
     try clear c9b1
     try clear hx247_0
     try clear p2
     try clear p247
     try clear p3
     try clear q2
     try clear q247
     obtain ⟨kq, x45_7, rfl, HA, HJ7, ⟨mc7, rfl⟩⟩ := hcut
     cases kq with
     | zero => exact absurd HA.out (by simp [runes_first.j1])
     | succ kj7 =>
      have H := HA.out
      clear HA
      simp only [runes_first.j1] at H
      by_cases c10 : x45_7 = true
      ·subst c10
       have H1 : (some (65533, 1)) = some (r1, r2) := by rw [if_pos rfl] at H; exact H
       clear H
       have H := H1
       clear H1
       simp only [Option.some.injEq, Prod.mk.injEq] at H
       obtain ⟨rfl, rfl⟩ := H
       go_wp2
       go_ret2
       exact ⟨sA, by repeat (first | exact Drawn0.refl _ | apply Drawn0.step)⟩
      ·replace c10 := Bool.eq_false_iff.mpr c10
       subst c10
       have H1 : (if 1 ≤ x4_2 then (if x4_2 ≤ (l0.length : Int) then ((some ((l0.take (x4_2 : Int).toNat).drop 1 : List Int)).bind fun y248 => (runes_first.l0 kj7 x4_2 x5_2 y248 (y248.length : Int) 0)) else (none)) else (none)) = some (r1, r2) := by rw [if_neg (show ¬ (false = true) by decide)] at H; exact H
       clear H
       have H := H1
       clear H1
       by_cases c11 : 1 ≤ x4_2
       ·rw [if_pos c11] at H
        have c11b0 := eq_true c11
        have c11b1 : decide (1 ≤ x4_2) = true := decide_eq_true c11
        clear c11
        by_cases c12 : x4_2 ≤ (l0.length : Int)
        ·rw [if_pos c12] at H
         have c12b0 := eq_true c12
         have c12b1 : decide (x4_2 ≤ (l0.length : Int)) = true := decide_eq_true c12
         clear c12
         obtain ⟨y248, hy248⟩ : ∃ y_ : List Int, y_ = ((l0.take (x4_2 : Int).toNat).drop 1) := ⟨_, rfl⟩
         replace H : (runes_first.l0 kj7 x4_2 x5_2 y248 (y248.length : Int) 0) = some (r1, r2) := hyA hy248 H
         have Ny248 := Aside0.mk hy248
         clear hy248
         have H' := Aside0.mk H
         clear H
         have q13 : (x4_2 : Int) ≤ ((l0.length : Int) : Int) := of_decide_eq_true asA
         obtain ⟨i013, hi013, _, hsz13, _⟩ := info_parts info5
         have hroom13 : l0.length ≤ c0 := HC0.out
         have hC13 : Kd.C (Kd.int .u8) _ (some ad247) l0.length l0 := HR0.out
         have ql13 : (1 : Int) ≤ (x4_2 : Int) := of_decide_eq_true asA
         have hcut13 := cut_mid (P := Tryd.prog) 25 5 .i64 .i64 Tryd.underlying25 hi013 1 hsz13 (some ad247) l0.length c0 1 x4_2 (by omega) ql13 q13 hroom13
         have hr13 := Kd.C_mid (lo := (1 : Int).toNat) (hi := (x4_2 : Int).toNat) (c := c0) hC13 (by omega) (by omega) hroom13
         obtain ⟨A13, hA13⟩ : ∃ A1, A1 = (if c0 = (1 : Int).toNat then (some ad247) else ((some ad247) : Option Addr).map (·.add ((1 : Int).toNat * 1))) := ⟨_, rfl⟩
         obtain ⟨c13, hc13⟩ : ∃ c1, c1 = c0 - (1 : Int).toNat := ⟨_, rfl⟩
         have hy13 : y248.length = (x4_2 : Int).toNat - (1 : Int).toNat := (by rw [Ny248.out, List.length_drop, List.length_take] <;> omega)
         rw [show ((l0).take (x4_2 : Int).toNat).drop (1 : Int).toNat = y248 from Ny248.out.symm] at hr13
         replace hr13 : Kd.C (Kd.int .u8) _ A13 y248.length y248 := (by rw [hA13]; exact hr13)
         rw [← hy13, ← hA13, ← hc13] at hcut13
         have HR251 := Aside0.mk hr13
         have HC251 := Aside0.mk (show y248.length ≤ c13 from by rw [hy13, hc13]; exact Nat.sub_le_sub_right (Nat.le_trans (by omega) hroom13) _)
         clear hr13 hC13 hroom13 hi013 hsz13 hc13
         have KY13 := Aside0.mk hy13
         have KA13 := Aside0.mk hA13
         clear hy13 hA13
         replace q13 := eq_true q13
         go_wp2
         go_loopg [5, 50] kj7 (fun kq v5 v50 w' => ∃ (x5_3 : Int) (x50_3 : Int), v5 = .int .i32 x5_3 ∧ v50 = .int .i64 x50_3 ∧ Aside0 (runes_first.l0 kq x4_2 x5_3 y248 (y248.length : Int) x50_3 = some (r1, r2)) ∧ Aside0 (kq ≤ kj7) ∧ Drawn0 w w')
         case atStart => exact ⟨(x5_2), (0), sA, sA, H', ⟨Nat.le_refl _⟩, by repeat (first | exact Drawn0.refl _ | apply Drawn0.step)⟩
         case round =>
          clear H'
          try clear c1
          try clear q1
          try clear c2
          try clear c2b0
          try clear c2b1
          try clear p2
          try clear q2
          try clear hx2
          try clear qi2
          try clear p3
          try clear c4
          try clear c4b0
          try clear c5
          try clear c5b0
          try clear c5b1
          try clear c6
          try clear c6b0
          try clear c6b1
          try clear c7
          try clear c7b0
          try clear c7b1
          try clear c8
          try clear c9
          try clear c9b0
          try clear c9b1
          try clear c10
          try clear c11
          try clear c11b0
          try clear c11b1
          try clear c12
          try clear c12b0
          try clear c12b1
          try clear c13
          try clear q13
          try clear hx247_0
          try clear p2
          try clear p247
          try clear p3
          try clear q13
          try clear q2
          try clear q247
          obtain ⟨x5_3, x50_3, rfl, rfl, HA, HK3, ⟨m3, rfl⟩⟩ := hrel
          cases gk with
          | zero => exact absurd HA.out (by simp [runes_first.l0])
          | succ k3 =>
           have H := HA.out
           clear HA
           simp only [runes_first.l0] at H
           by_cases c14 : x50_3 < (y248.length : Int)
           ·rw [if_pos c14] at H
            have c14b0 : decide (x50_3 < (y248.length : Int)) = true := decide_eq_true c14
            clear c14
            by_cases c15 : 0 ≤ x50_3
            ·rw [if_pos c15] at H
             have c15b0 : decide (0 ≤ x50_3) = true := decide_eq_true c15
             clear c15
             by_cases c16 : x50_3 < (y248.length : Int)
             ·rw [if_pos c16] at H
              have c16b0 : decide (x50_3 < (y248.length : Int)) = true := decide_eq_true c16
              clear c16
              by_cases c17 : (Go.bits .and .u8 (rd y248 x50_3) 192) = 128
              ·rw [if_pos c17] at H
               have c17b0 : ((Go.bits .and .u8 (rd y248 x50_3) 192) == 128) = true := beq_iff_eq.mpr c17
               have c17b1 : ((Go.bits .and .u8 (rd y248 x50_3) 192) != 128) = false := bne_eq_false_iff_eq.mpr c17
               clear c17
               have H' := Aside0.mk H
               clear H
               have p252 : 0 ≤ (x50_3 : Int) := of_decide_eq_true asA
               have q252 : x50_3 < (y248.length : Int) := of_decide_eq_true asA
               obtain ⟨ad252, e252, hx252_0⟩ := Kd.at_int HR251.out x50_3 p252 q252
               cases e252
               replace p252 := eq_true p252
               replace q252 := eq_true q252
               go_wp2
               go_roundg k3
               case measure => have := HJ2.out; have := HJ7.out; have := HK3.out; omega
               case rel => exact ⟨(Go.bits .or .i32 (wrap32 (x5_3 * 64)) (wrap32 (Go.bits .and .u8 (rd y248 x50_3) 63))), (wrap64 (x50_3 + 1)), sA, sA, H', ⟨by have := HJ2.out; have := HJ7.out; have := HK3.out; omega⟩, by repeat (first | exact Drawn0.refl _ | apply Drawn0.step)⟩
              ·rw [if_neg c17] at H
               have c17b0 : ((Go.bits .and .u8 (rd y248 x50_3) 192) == 128) = false := beq_eq_false_iff_ne.mpr c17
               have c17b1 : ((Go.bits .and .u8 (rd y248 x50_3) 192) != 128) = true := bne_iff_ne.mpr c17
               simp only [Option.some.injEq, Prod.mk.injEq] at H
               obtain ⟨rfl, rfl⟩ := H
               have p252 : 0 ≤ (x50_3 : Int) := of_decide_eq_true asA
               have q252 : x50_3 < (y248.length : Int) := of_decide_eq_true asA
               obtain ⟨ad252, e252, hx252_0⟩ := Kd.at_int HR251.out x50_3 p252 q252
               cases e252
               replace p252 := eq_true p252
               replace q252 := eq_true q252
               go_wp2
               go_ret2
               exact ⟨sA, by repeat (first | exact Drawn0.refl _ | apply Drawn0.step)⟩
             ·rw [if_neg c16] at H
              exact absurd H (by simp)
            ·rw [if_neg c15] at H
             exact absurd H (by simp)
           ·rw [if_neg c14] at H
            have c14b0 : decide (x50_3 < (y248.length : Int)) = false := decide_eq_false c14
            clear c14
            replace H := Option.bind_eq_some_iff.mp H
            obtain ⟨t253, A180, H⟩ := H
            replace H : (if t253 = true then ((runes_size.f x5_3).bind fun t254 => (if t254 = x4_2 then (some (x5_3, x4_2)) else (some (65533, 1)))) else (some (65533, 1))) = some (r1, r2) := H
            have A18 := Aside0.mk A180
            clear A180
            by_cases c19 : t253 = true
            ·subst c19
             have H1 : ((runes_size.f x5_3).bind fun t254 => (if t254 = x4_2 then (some (x5_3, x4_2)) else (some (65533, 1)))) = some (r1, r2) := by rw [if_pos rfl] at H; exact H
             clear H
             have H := H1
             clear H1
             replace H := Option.bind_eq_some_iff.mp H
             obtain ⟨t254, A200, H⟩ := H
             replace H : (if t254 = x4_2 then (some (x5_3, x4_2)) else (some (65533, 1))) = some (r1, r2) := H
             have A20 := Aside0.mk A200
             clear A200
             by_cases c21 : t254 = x4_2
             ·rw [if_pos c21] at H
              have c21b0 : (t254 == x4_2) = true := beq_iff_eq.mpr c21
              have c21b1 : (t254 != x4_2) = false := bne_eq_false_iff_eq.mpr c21
              clear c21
              simp only [Option.some.injEq, Prod.mk.injEq] at H
              obtain ⟨rfl, rfl⟩ := H
              go_wp2_with (first | ((with_reducible refine gate_callee (f := 60) rfl ?_); refine goesL_ (some 65) rfl rfl Tryd.func60 (by kernel_rfl) rfl #[.int .i32 x5_3] rfl aP ?_; (with_reducible refine (runes_Valid.calls x5_3 true _ A18.out).mono ?_); rintro e w' ⟨rfl, ⟨nd, rfl⟩⟩; refine ⟨_, rfl, ?_⟩) | (go_at_call 76; (with_reducible refine (runes_size.calls x5_3 t254 _ A20.out).mono ?_); rintro e w' ⟨rfl, ⟨nd, rfl⟩⟩))
              go_ret2
              exact ⟨sA, by repeat (first | exact Drawn0.refl _ | apply Drawn0.step)⟩
             ·rw [if_neg c21] at H
              have c21b0 : (t254 == x4_2) = false := beq_eq_false_iff_ne.mpr c21
              have c21b1 : (t254 != x4_2) = true := bne_iff_ne.mpr c21
              simp only [Option.some.injEq, Prod.mk.injEq] at H
              obtain ⟨rfl, rfl⟩ := H
              go_wp2_with (first | ((with_reducible refine gate_callee (f := 60) rfl ?_); refine goesL_ (some 65) rfl rfl Tryd.func60 (by kernel_rfl) rfl #[.int .i32 x5_3] rfl aP ?_; (with_reducible refine (runes_Valid.calls x5_3 true _ A18.out).mono ?_); rintro e w' ⟨rfl, ⟨nd, rfl⟩⟩; refine ⟨_, rfl, ?_⟩) | (go_at_call 76; (with_reducible refine (runes_size.calls x5_3 t254 _ A20.out).mono ?_); rintro e w' ⟨rfl, ⟨nd, rfl⟩⟩))
              go_ret2
              exact ⟨sA, by repeat (first | exact Drawn0.refl _ | apply Drawn0.step)⟩
            ·replace c19 := Bool.eq_false_iff.mpr c19
             subst c19
             have H1 : (some (65533, 1)) = some (r1, r2) := by rw [if_neg (show ¬ (false = true) by decide)] at H; exact H
             clear H
             have H := H1
             clear H1
             simp only [Option.some.injEq, Prod.mk.injEq] at H
             obtain ⟨rfl, rfl⟩ := H
             go_wp2_with (first | ((with_reducible refine gate_callee (f := 60) rfl ?_); refine goesL_ (some 65) rfl rfl Tryd.func60 (by kernel_rfl) rfl #[.int .i32 x5_3] rfl aP ?_; (with_reducible refine (runes_Valid.calls x5_3 false _ A18.out).mono ?_); rintro e w' ⟨rfl, ⟨nd, rfl⟩⟩; refine ⟨_, rfl, ?_⟩))
             go_ret2
             exact ⟨sA, by repeat (first | exact Drawn0.refl _ | apply Drawn0.step)⟩
        ·rw [if_neg c12] at H
         exact absurd H (by simp)
       ·rw [if_neg c11] at H
        exact absurd H (by simp)
 ·rw [if_neg c2] at H
  exact absurd H (by simp)

/-! ### runes_Decode: function 68 -/
def runes_Decode.l0 : Nat → List Int → List Int → Option (List Int)
 | 0, _, _ => none
 | k + 1, x0, x3 => if (x0.length : Int) > 0 then ((runes_first.f k x0).bind fun bt255 => (if x3.length < 35184372088832 then (if 0 ≤ bt255.2 then (if bt255.2 ≤ (x0.length : Int) then (runes_Decode.l0 k (x0.drop (bt255.2 : Int).toNat) (x3 ++ [bt255.1])) else (none)) else (none)) else (none))) else (some x3)
def runes_Decode.f (k : Nat) (l0 : List Int) : Option (List Int) := runes_Decode.l0 k l0 ([] : List Int)
theorem runes_Decode.mono_l : ∀ k, (∀ y0 y1, LeO (runes_Decode.l0 k y0 y1) (runes_Decode.l0 (k + 1) y0 y1))
 | 0 => fun _ _ r h => by simp [runes_Decode.l0] at h
 | k + 1 => by
  have ih0 := runes_Decode.mono_l k
  ·intro y0 y1
   unfold runes_Decode.l0
   repeat' first
   | (with_reducible exact ih0 _ _)
   | (with_reducible exact runes_first.mono _ _)
   | (with_reducible exact LeO.refl _)
   | (with_reducible exact LeO.none _)
   | (with_reducible refine LeO.ite ?_ ?_)
   | (with_reducible refine LeO.bind ?_ (fun _ => ?_))
theorem runes_Decode.mono : ∀ a0 k, LeO (runes_Decode.f k a0) (runes_Decode.f (k + 1) a0) := by
 intro a0 k
 have ih0 := runes_Decode.mono_l k
 unfold runes_Decode.f
 repeat' first
   | (with_reducible exact ih0 _ _)
   | (with_reducible exact runes_first.mono _ _)
   | (with_reducible exact LeO.refl _)
   | (with_reducible exact LeO.none _)
   | (with_reducible refine LeO.ite ?_ ?_)
   | (with_reducible refine LeO.bind ?_ (fun _ => ?_))
theorem runes_Decode.calls (k : Nat) (P0_ : Nat → Prop) (A0 : Option Addr) (c0 : Nat) (l0 : List Int) (r : List Int) (w : World) (hs0 : Kd.V (Kd.int .u8) 5 w w.heap.size (fun k_ => P0_ k_) (.slice A0 l0.length c0) l0) (h : runes_Decode.f k l0 = some r) :
  Calls Tryd.prog 68 #[.slice A0 l0.length c0] w fun e w' => ∃ v0_ : Value, e = .returned (v0_) ∧ Kd.R (Kd.int .i32) 21 w' w.heap.size (fun k_ => (w.heap.size ≤ k_)) v0_ r ∧ Below w.heap.size w w' := by
 have HO0 := Aside0.mk (show Kd.V (Kd.int .u8) 5 w w.heap.size (fun k_ => (P0_ k_ ∨ w.heap.size ≤ k_)) (.slice A0 l0.length c0) l0 from Kd.V_mono hs0 (fun k_ hk => .inl hk))
 have HB := Aside0.mk (Below.refl w.heap.size w)
 have H : (runes_Decode.l0 k l0 ([] : List Int)) = some r := h
 clear h
 have H' := Aside0.mk H
 clear H
 go_enter Tryd.func68, Tryd.ntmps68
 go_wp2
 go_loopg [0, 3] k (fun kq v0 v3 w' => ∃ (x0_1 : List Int) (x3_1 : List Int), Aside0 (runes_Decode.l0 kq x0_1 x3_1 = some r) ∧ Aside0 (kq ≤ k) ∧ Aside0 (Kd.V (Kd.int .u8) 5 w' w.heap.size (fun k_ => (P0_ k_ ∨ w.heap.size ≤ k_) ∧ some k_ ≠ (v3 : Value).ownBlock) v0 x0_1) ∧ Aside0 (Kd.R (Kd.int .i32) 21 w' w.heap.size (fun k_ => (w.heap.size ≤ k_)) v3 x3_1) ∧ Aside0 (Below w.heap.size w w'))
 case atStart => exact ⟨(l0), (([] : List Int)), H', ⟨Nat.le_refl _⟩, ⟨by (with_reducible repeat (first | apply Kd.V_alloc | apply Kd.V_drewN | apply Kd.V_drew)); exact Kd.V_mono HO0.out (fun _ hk => ⟨hk, (by simp [Value.ownBlock])⟩)⟩, ⟨by first | exact Kd.R_nil _ _ _ _ _ | exact Kd.N_nil _ _ _ _ _ | exact Kd.V_nil _ _ _ _ _ | exact Kd.Q_nil _ _ _ _ _ | exact Kd.S_nil _ _ _ _ _⟩, ⟨bA⟩⟩
 case round =>
  clear H'
  obtain ⟨x0_1, x3_1, HA, HK1, HO_0, HO_3, HB⟩ := hrel
  cases gk with
  | zero => exact absurd HA.out (by simp [runes_Decode.l0])
  | succ k1 =>
   have H := HA.out
   clear HA
   simp only [runes_Decode.l0] at H
   by_cases c2 : (x0_1.length : Int) > 0
   ·rw [if_pos c2] at H
    have c2b0 : decide (0 < (x0_1.length : Int)) = true := decide_eq_true c2
    have c2b1 : decide (0 < x0_1.length) = true := decide_eq_true (by omega)
    clear c2
    replace H := Option.bind_eq_some_iff.mp H
    obtain ⟨⟨t255, t256⟩, A30, H⟩ := H
    replace H : (if x3_1.length < 35184372088832 then (if 0 ≤ t256 then (if t256 ≤ (x0_1.length : Int) then (runes_Decode.l0 k1 (x0_1.drop (t256 : Int).toNat) (x3_1 ++ [t255])) else (none)) else (none)) else (none)) = some r := H
    have A3 := Aside0.mk A30
    clear A30
    by_cases c4 : x3_1.length < 35184372088832
    ·rw [if_pos c4] at H
     have LMc4 := Aside0.mk c4
     clear c4
     obtain ⟨y257, hy257⟩ : ∃ y_ : List Int, y_ = (x3_1 ++ [t255]) := ⟨_, rfl⟩
     replace H : (if 0 ≤ t256 then (if t256 ≤ (x0_1.length : Int) then (runes_Decode.l0 k1 (x0_1.drop (t256 : Int).toNat) y257) else (none)) else (none)) = some r := hyA hy257 H
     have Ny257 := Aside0.mk hy257
     clear hy257
     by_cases c5 : 0 ≤ t256
     ·rw [if_pos c5] at H
      have c5b0 := eq_true c5
      have c5b1 : decide (0 ≤ t256) = true := decide_eq_true c5
      clear c5
      by_cases c6 : t256 ≤ (x0_1.length : Int)
      ·rw [if_pos c6] at H
       have c6b0 := eq_true c6
       have c6b1 : decide (t256 ≤ (x0_1.length : Int)) = true := decide_eq_true c6
       clear c6
       obtain ⟨y260, hy260⟩ : ∃ y_ : List Int, y_ = (x0_1.drop (t256 : Int).toNat) := ⟨_, rfl⟩
       replace H : (runes_Decode.l0 k1 y260 y257) = some r := hyA hy260 H
       have Ny260 := Aside0.mk hy260
       clear hy260
       have H' := Aside0.mk H
       clear H
       obtain ⟨Ao7, co7, eo7⟩ := Kd.V_slice HO_0.out
       subst eo7
       go_wp2_with (first | ((with_reducible refine gate_callee (f := 84) rfl ?_); refine goesL_ (some 11) rfl rfl Tryd.func84 (by kernel_rfl) rfl #[.slice Ao7 x0_1.length co7] rfl aP ?_; (with_reducible refine (runes_first.calls k1 _ _ x0_1 t255 t256 _ ?side1 ?side2 A3.out).mono ?_); (case side1 => repeat (first | exact (Kd.V_reads' HO_0.out).2.2 | (with_reducible refine Kd.C_alloc ?_ _) | (with_reducible refine Kd.C_drewN ?_ _) | (with_reducible refine Kd.C_drew ?_))); (case side2 => exact (Kd.V_reads' HO_0.out).2.1); rintro e w' ⟨rfl, ⟨nd, rfl⟩⟩; refine ⟨_, rfl, ?_⟩) | ((with_reducible refine gate_builtin (b := .append) (xs := #[.tmp 14, .tmp 16]) rfl ?_); at_builtin; refine Kd.R_append (Kd.int .i32) (w0 := w) w.heap.size rfl (.tmp 14) (.tmp 16) 77 21 (.int .i32 0) 4 rfl Tryd.underlying77 info21 rfl (by decide) (by omega) u3 x3_1 t255 [.int .i32 t255] (fun k_ => (w.heap.size ≤ k_)) (fun _ => False) rfl rfl ?aP (fun _ hk => hk.elim) ?aF ?aO ?aB ?aS ?aL ?_; (case aP => exact rfl); (case aB => exact bA); (case aF => exact (fun k_ hk => (Nat.le_trans (below_size bA) hk))); (case aO => exact (kR HO_3)); (case aS => exact (below_size bA)); (case aL => have := LMc4.out; omega); intro v258 w8 ho hb hg hat; rw [← Ny257.out] at ho; have n0_ := Aside0.mk (Kd.V_afterv (ok := (fun k_ => (P0_ k_ ∨ w.heap.size ≤ k_))) (kV HO_0) hg hat); have n1_ := Aside0.mk (hb); have n2_ := Aside0.mk (ho); clear HO_0; clear HB; clear HO_3; have HO_0 := n0_; have HB := n1_; have HO259 := n2_; clear n0_ n1_ n2_; clear ho hb hg hat; have q9 : (t256 : Int) ≤ ((x0_1.length : Int) : Int) := of_decide_eq_true asA; obtain ⟨i09, hi09, _, hsz9, _⟩ := info_parts info5; have hroom9 : x0_1.length ≤ co7 := (Kd.V_reads' HO_0.out).2.1; have hC9 : Kd.F (Kd.int .u8) _ _ Ao7 x0_1.length x0_1 := (Kd.V_at (base := w.heap.size) HO_0.out).2.2; have q09 : (0 : Int) ≤ (t256 : Int) := of_decide_eq_true asA; have hcut9 := cut_from (P := Tryd.prog) 25 5 .i64 Tryd.underlying25 hi09 1 hsz9 Ao7 x0_1.length co7 t256 q09 q9; have hr9 := Kd.F_cut (m := (t256 : Int).toNat) (c := co7) hC9 (by omega) hroom9; obtain ⟨A9, hA9⟩ : ∃ A1, A1 = (if co7 = (t256 : Int).toNat then Ao7 else (Ao7 : Option Addr).map (·.add ((t256 : Int).toNat * 1))) := ⟨_, rfl⟩; obtain ⟨c9, hc9⟩ : ∃ c1, c1 = co7 - (t256 : Int).toNat := ⟨_, rfl⟩; have hy9 : y260.length = x0_1.length - (t256 : Int).toNat := (by rw [Ny260.out, List.length_drop] <;> omega); rw [show (x0_1).drop (t256 : Int).toNat = y260 from Ny260.out.symm] at hr9; replace hr9 : Kd.F (Kd.int .u8) _ _ A9 y260.length y260 := (by rw [hA9]; exact hr9); rw [← hy9, ← hA9, ← hc9] at hcut9; have HO264 := Aside0.mk (show Kd.V (Kd.int .u8) 5 _ w.heap.size _ (.slice A9 y260.length c9) y260 from Kd.V_mk (by rw [hy9, hc9]; exact Nat.sub_le_sub_right hroom9 _) hr9); have HC264 := Aside0.mk (show y260.length ≤ c9 from by rw [hy9, hc9]; exact Nat.sub_le_sub_right hroom9 _); clear hr9 hC9 hroom9 hi09 hsz9 hc9; have KY9 := Aside0.mk hy9; have KA9 := Aside0.mk hA9; clear hy9 hA9; replace q9 := eq_true q9))
       go_roundg k1
       case measure => have := HK1.out; omega
       case rel => exact ⟨(y260), (y257), H', ⟨by have := HK1.out; omega⟩, ⟨kV HO264⟩, ⟨kR HO259⟩, ⟨bA⟩⟩
      ·rw [if_neg c6] at H
       exact absurd H (by simp)
     ·rw [if_neg c5] at H
      exact absurd H (by simp)
    ·rw [if_neg c4] at H
     exact absurd H (by simp)
   ·rw [if_neg c2] at H
    have c2b0 : decide (0 < (x0_1.length : Int)) = false := decide_eq_false c2
    have c2b1 : decide (0 < x0_1.length) = false := decide_eq_false (by omega)
    clear c2
    obtain rfl := Option.some.inj H
    obtain ⟨Ao10, co10, eo10⟩ := Kd.V_slice HO_0.out
    subst eo10
    go_wp2
    go_ret
    exact ⟨_, eW, kR HO_3, bA⟩

/-! ### over_first: function 45 -/
def over_first.f (k : Nat) (a0 : ByteArray) : Option (Int × Bool) := if a0.toList = ([] : List UInt8) then (some (0, false)) else (if 0 ≤ (mn (a0.size : Int) 4) then (if (mn (a0.size : Int) 4) ≤ (a0.size : Int) then ((conv_bytes.f (a0.extract 0 ((mn (a0.size : Int) 4) : Int).toNat)).bind fun t265 => ((runes_Decode.f k t265).bind fun t268 => (if 0 < (t268.length : Int) then ((strings_HasPrefix.f a0 (Go.Utf8.encode (rd t268 0))).bind fun t272 => (if t272 = true then ((runes_Control.f k (rd t268 0)).bind fun t273 => (some (rd t268 0, !t273))) else (some (rd t268 0, false)))) else (none)))) else (none)) else (none))
theorem over_first.mono : ∀ a0 k, LeO (over_first.f k a0) (over_first.f (k + 1) a0) := by
 intro a0 k
 unfold over_first.f
 repeat' first
   | (with_reducible exact runes_Control.mono _ _)
   | (with_reducible exact runes_Decode.mono _ _)
   | (with_reducible exact LeO.refl _)
   | (with_reducible exact LeO.none _)
   | (with_reducible refine LeO.ite ?_ ?_)
   | (with_reducible refine LeO.bind ?_ (fun _ => ?_))
theorem over_first.calls (k : Nat) (a0 : ByteArray) (r1 : Int) (r2 : Bool) (w : World) (h : over_first.f k a0 = some (r1, r2)) :
  Calls Tryd.prog 45 #[.string a0] w fun e w' => e = .returned (.tuple #[.int .i32 r1, .bool r2]) ∧ Below w.heap.size w w' := by
 have HB := Aside0.mk (Below.refl w.heap.size w)
 have H : (if a0.toList = ([] : List UInt8) then (some (0, false)) else (if 0 ≤ (mn (a0.size : Int) 4) then (if (mn (a0.size : Int) 4) ≤ (a0.size : Int) then ((conv_bytes.f (a0.extract 0 ((mn (a0.size : Int) 4) : Int).toNat)).bind fun t265 => ((runes_Decode.f k t265).bind fun t268 => (if 0 < (t268.length : Int) then ((strings_HasPrefix.f a0 (Go.Utf8.encode (rd t268 0))).bind fun t272 => (if t272 = true then ((runes_Control.f k (rd t268 0)).bind fun t273 => (some (rd t268 0, !t273))) else (some (rd t268 0, false)))) else (none)))) else (none)) else (none))) = some (r1, r2) := h
 clear h
 by_cases c2 : a0.toList = ([] : List UInt8)
 ·rw [if_pos c2] at H
  have c2b0 : (a0.toList == ([] : List UInt8)) = true := beq_iff_eq.mpr c2
  have c2b1 : (a0.toList != ([] : List UInt8)) = false := bne_eq_false_iff_eq.mpr c2
  clear c2
  simp only [Option.some.injEq, Prod.mk.injEq] at H
  obtain ⟨rfl, rfl⟩ := H
  go_enter Tryd.func45, Tryd.ntmps45
  go_wp2
  go_ret2
  exact ⟨eW, bA⟩
 ·rw [if_neg c2] at H
  have c2b0 : (a0.toList == ([] : List UInt8)) = false := beq_eq_false_iff_ne.mpr c2
  have c2b1 : (a0.toList != ([] : List UInt8)) = true := bne_iff_ne.mpr c2
  obtain ⟨ji3, hji3⟩ : ∃ j_ : Int, (mn (a0.size : Int) 4) = j_ := ⟨_, rfl⟩
  replace H : (if 0 ≤ (ji3) then (if (ji3) ≤ (a0.size : Int) then ((conv_bytes.f (a0.extract 0 ((ji3) : Int).toNat)).bind fun t265 => ((runes_Decode.f k t265).bind fun t268 => (if 0 < (t268.length : Int) then ((strings_HasPrefix.f a0 (Go.Utf8.encode (rd t268 0))).bind fun t272 => (if t272 = true then ((runes_Control.f k (rd t268 0)).bind fun t273 => (some (rd t268 0, !t273))) else (some (rd t268 0, false)))) else (none)))) else (none)) else (none)) = some (r1, r2) := by first | (rw [hji3] at H; exact H) | (simp only [hji3] at H ⊢; exact H)
  (try (have hji3h : ji3 ≤ 4 := by (rw [← hji3]; unfold mn; (repeat' split) <;> omega)))
  (try (have hji3g : ji3 ≤ 64 := by omega))
  (try (have hji3l : 0 ≤ ji3 := by (rw [← hji3]; unfold mn; (repeat' split) <;> omega)))
  (try (have hji3m : 0 ≤ ji3 := by omega))
  have hji3_ : (if 4 < (a0.size : Int) then 4 else (a0.size : Int)) = ji3 := hji3
  by_cases c4 : 0 ≤ (ji3)
  ·rw [if_pos c4] at H
   have c4b0 := eq_true c4
   have c4b1 : decide (0 ≤ (ji3)) = true := decide_eq_true c4
   clear c4
   by_cases c5 : (ji3) ≤ (a0.size : Int)
   ·rw [if_pos c5] at H
    have c5b0 := eq_true c5
    have c5b1 : decide ((ji3) ≤ (a0.size : Int)) = true := decide_eq_true c5
    clear c5
    replace H := Option.bind_eq_some_iff.mp H
    obtain ⟨t265, A60, H⟩ := H
    replace H : ((runes_Decode.f k t265).bind fun t268 => (if 0 < (t268.length : Int) then ((strings_HasPrefix.f a0 (Go.Utf8.encode (rd t268 0))).bind fun t272 => (if t272 = true then ((runes_Control.f k (rd t268 0)).bind fun t273 => (some (rd t268 0, !t273))) else (some (rd t268 0, false)))) else (none))) = some (r1, r2) := H
    have A6 := Aside0.mk A60
    clear A60
    replace H := Option.bind_eq_some_iff.mp H
    obtain ⟨t268, A70, H⟩ := H
    replace H : (if 0 < (t268.length : Int) then ((strings_HasPrefix.f a0 (Go.Utf8.encode (rd t268 0))).bind fun t272 => (if t272 = true then ((runes_Control.f k (rd t268 0)).bind fun t273 => (some (rd t268 0, !t273))) else (some (rd t268 0, false)))) else (none)) = some (r1, r2) := H
    have A7 := Aside0.mk A70
    clear A70
    by_cases c8 : 0 < (t268.length : Int)
    ·rw [if_pos c8] at H
     have c8b0 : decide (0 < (t268.length : Int)) = true := decide_eq_true c8
     have c8b1 : decide (0 < t268.length) = true := decide_eq_true (by omega)
     clear c8
     replace H := Option.bind_eq_some_iff.mp H
     obtain ⟨t272, A90, H⟩ := H
     replace H : (if t272 = true then ((runes_Control.f k (rd t268 0)).bind fun t273 => (some (rd t268 0, !t273))) else (some (rd t268 0, false))) = some (r1, r2) := H
     have A9 := Aside0.mk A90
     clear A90
     by_cases c10 : t272 = true
     ·subst c10
      have H1 : ((runes_Control.f k (rd t268 0)).bind fun t273 => (some (rd t268 0, !t273))) = some (r1, r2) := by rw [if_pos rfl] at H; exact H
      clear H
      have H := H1
      clear H1
      replace H := Option.bind_eq_some_iff.mp H
      obtain ⟨t273, A110, H⟩ := H
      replace H : (some (rd t268 0, !t273)) = some (r1, r2) := H
      have A11 := Aside0.mk A110
      clear A110
      simp only [Option.some.injEq, Prod.mk.injEq] at H
      obtain ⟨rfl, rfl⟩ := H
      go_enter Tryd.func45, Tryd.ntmps45
      go_wp2_with (first | ((with_reducible refine gate_convert (src := 9) (dst := 25) rfl ?_); refine convL_ _ rfl rfl (a0.extract 0 ((ji3) : Int).toNat) rfl rfl ?_; (with_reducible refine (conv_bytes.calls (a0.extract 0 ((ji3) : Int).toNat) t265 _ A6.out).mono ?_); rintro e w12 ⟨v266, rfl, ho0, hb⟩; refine ⟨_, rfl, ?_⟩; have HO267 := Aside0.mk (Kd.V_lower (Kd.V_mono (ok' := fun k_ => True) ho0 (fun k_ hk_ => trivial)) (below_size bA)); replace HB := Aside0.mk (below_step bA hb); (try clear hb); (try clear hb2); (try clear hk); (try clear hi); (try clear ho0); obtain ⟨Ao13, co13, eo13⟩ := Kd.V_slice HO267.out; subst eo13) | ((with_reducible refine gate_callee (f := 68) rfl ?_); refine goesL_ (some 14) rfl rfl Tryd.func68 (by kernel_rfl) rfl #[.slice Ao13 t265.length co13] rfl aP ?_; (with_reducible refine (runes_Decode.calls k (fun k_ => True) _ _ t265 t268 _ ?side1 A7.out).mono ?_); (case side1 => exact HO267.out); rintro e w14 ⟨v269, rfl, ho0, hb⟩; refine ⟨_, rfl, ?_⟩; replace HO267 := Aside0.mk (Kd.V_elder' (kV HO267) (Kd.R_base ho0) hb); have HO270 := Aside0.mk (Kd.R_lower (Kd.R_mono (ok' := fun k_ => True) ho0 (fun _ hk_ => trivial)) (below_size bA)); replace HB := Aside0.mk (below_step bA hb); (try clear hb); (try clear hb2); (try clear hk); (try clear hi); (try clear ho0); obtain ⟨Ao15, co15, eo15⟩ := Kd.R_slice HO270.out; subst eo15; have p271 : 0 ≤ (0 : Int) := (by omega); have q271 : 0 < (t268.length : Int) := of_decide_eq_true asA; obtain ⟨ad271, e271, hx271_0⟩ := Kd.at_int (Kd.R_reads' HO270.out).2.2 0 p271 q271; cases e271; have qi271 : (0 < t268.length) = True := eq_true (by omega); (try rw [show ((0 : Int)).toNat = 0 from rfl] at hx271_0); (try rw [Addr.add_zero'] at hx271_0); replace p271 := eq_true p271; replace q271 := eq_true q271) | ((with_reducible refine gate_callee (f := 48) rfl ?_); refine goesL_ (some 22) rfl rfl Tryd.func48 (by kernel_rfl) rfl #[.string a0, .string (Go.Utf8.encode (rd t268 0))] rfl aP ?_; (with_reducible refine (strings_HasPrefix.calls a0 (Go.Utf8.encode (rd t268 0)) true _ A9.out).mono ?_); rintro e w' ⟨rfl, ⟨nd, rfl⟩⟩; refine ⟨_, rfl, ?_⟩) | (go_at_call 61; (with_reducible refine (runes_Control.calls k (rd t268 0) t273 _ A11.out).mono ?_); rintro e w' ⟨rfl, ⟨nd, rfl⟩⟩))
      go_ret2
      exact ⟨by first | rfl | (simp [errW_none, errW_some] <;> rfl) | (simp only [← hji3]; first | rfl | (simp [errW_none, errW_some] <;> rfl)) | (simp [*, errW_none, errW_some] <;> rfl), bA⟩
     ·replace c10 := Bool.eq_false_iff.mpr c10
      subst c10
      have H1 : (some (rd t268 0, false)) = some (r1, r2) := by rw [if_neg (show ¬ (false = true) by decide)] at H; exact H
      clear H
      have H := H1
      clear H1
      simp only [Option.some.injEq, Prod.mk.injEq] at H
      obtain ⟨rfl, rfl⟩ := H
      go_enter Tryd.func45, Tryd.ntmps45
      go_wp2_with (first | ((with_reducible refine gate_convert (src := 9) (dst := 25) rfl ?_); refine convL_ _ rfl rfl (a0.extract 0 ((ji3) : Int).toNat) rfl rfl ?_; (with_reducible refine (conv_bytes.calls (a0.extract 0 ((ji3) : Int).toNat) t265 _ A6.out).mono ?_); rintro e w16 ⟨v266, rfl, ho0, hb⟩; refine ⟨_, rfl, ?_⟩; have HO267 := Aside0.mk (Kd.V_lower (Kd.V_mono (ok' := fun k_ => True) ho0 (fun k_ hk_ => trivial)) (below_size bA)); replace HB := Aside0.mk (below_step bA hb); (try clear hb); (try clear hb2); (try clear hk); (try clear hi); (try clear ho0); obtain ⟨Ao17, co17, eo17⟩ := Kd.V_slice HO267.out; subst eo17) | ((with_reducible refine gate_callee (f := 68) rfl ?_); refine goesL_ (some 14) rfl rfl Tryd.func68 (by kernel_rfl) rfl #[.slice Ao17 t265.length co17] rfl aP ?_; (with_reducible refine (runes_Decode.calls k (fun k_ => True) _ _ t265 t268 _ ?side1 A7.out).mono ?_); (case side1 => exact HO267.out); rintro e w18 ⟨v269, rfl, ho0, hb⟩; refine ⟨_, rfl, ?_⟩; replace HO267 := Aside0.mk (Kd.V_elder' (kV HO267) (Kd.R_base ho0) hb); have HO270 := Aside0.mk (Kd.R_lower (Kd.R_mono (ok' := fun k_ => True) ho0 (fun _ hk_ => trivial)) (below_size bA)); replace HB := Aside0.mk (below_step bA hb); (try clear hb); (try clear hb2); (try clear hk); (try clear hi); (try clear ho0); obtain ⟨Ao19, co19, eo19⟩ := Kd.R_slice HO270.out; subst eo19; have p271 : 0 ≤ (0 : Int) := (by omega); have q271 : 0 < (t268.length : Int) := of_decide_eq_true asA; obtain ⟨ad271, e271, hx271_0⟩ := Kd.at_int (Kd.R_reads' HO270.out).2.2 0 p271 q271; cases e271; have qi271 : (0 < t268.length) = True := eq_true (by omega); (try rw [show ((0 : Int)).toNat = 0 from rfl] at hx271_0); (try rw [Addr.add_zero'] at hx271_0); replace p271 := eq_true p271; replace q271 := eq_true q271) | ((with_reducible refine gate_callee (f := 48) rfl ?_); refine goesL_ (some 22) rfl rfl Tryd.func48 (by kernel_rfl) rfl #[.string a0, .string (Go.Utf8.encode (rd t268 0))] rfl aP ?_; (with_reducible refine (strings_HasPrefix.calls a0 (Go.Utf8.encode (rd t268 0)) false _ A9.out).mono ?_); rintro e w' ⟨rfl, ⟨nd, rfl⟩⟩; refine ⟨_, rfl, ?_⟩))
      go_ret2
      exact ⟨by first | rfl | (simp [errW_none, errW_some] <;> rfl) | (simp only [← hji3]; first | rfl | (simp [errW_none, errW_some] <;> rfl)) | (simp [*, errW_none, errW_some] <;> rfl), bA⟩
    ·rw [if_neg c8] at H
     exact absurd H (by simp)
   ·rw [if_neg c5] at H
    exact absurd H (by simp)
  ·rw [if_neg c4] at H
   exact absurd H (by simp)

/-! ### stringslite_CutPrefix: function 69 -/
def stringslite_CutPrefix.f (a0 : ByteArray) (a1 : ByteArray) : Option (ByteArray × Bool) := (stringslite_HasPrefix.f a0 a1).bind fun t274 => (if t274 = true then (if 0 ≤ (a1.size : Int) then (if (a1.size : Int) ≤ (a0.size : Int) then (some (a0.extract ((a1.size : Int) : Int).toNat a0.size, true)) else (none)) else (none)) else (some (a0, false)))
theorem stringslite_CutPrefix.calls (a0 : ByteArray) (a1 : ByteArray) (r1 : ByteArray) (r2 : Bool) (w : World) (h : stringslite_CutPrefix.f a0 a1 = some (r1, r2)) :
  Calls Tryd.prog 69 #[.string a0, .string a1] w fun e w' => e = .returned (.tuple #[.string r1, .bool r2]) ∧ Drawn0 w w' := by
 have H : ((stringslite_HasPrefix.f a0 a1).bind fun t274 => (if t274 = true then (if 0 ≤ (a1.size : Int) then (if (a1.size : Int) ≤ (a0.size : Int) then (some (a0.extract ((a1.size : Int) : Int).toNat a0.size, true)) else (none)) else (none)) else (some (a0, false)))) = some (r1, r2) := h
 clear h
 replace H := Option.bind_eq_some_iff.mp H
 obtain ⟨t274, A30, H⟩ := H
 replace H : (if t274 = true then (if 0 ≤ (a1.size : Int) then (if (a1.size : Int) ≤ (a0.size : Int) then (some (a0.extract ((a1.size : Int) : Int).toNat a0.size, true)) else (none)) else (none)) else (some (a0, false))) = some (r1, r2) := H
 have A3 := Aside0.mk A30
 clear A30
 by_cases c4 : t274 = true
 ·subst c4
  have H1 : (if 0 ≤ (a1.size : Int) then (if (a1.size : Int) ≤ (a0.size : Int) then (some (a0.extract ((a1.size : Int) : Int).toNat a0.size, true)) else (none)) else (none)) = some (r1, r2) := by rw [if_pos rfl] at H; exact H
  clear H
  have H := H1
  clear H1
  by_cases c5 : 0 ≤ (a1.size : Int)
  ·rw [if_pos c5] at H
   have c5b0 := eq_true c5
   have c5b1 : decide (0 ≤ (a1.size : Int)) = true := decide_eq_true c5
   clear c5
   by_cases c6 : (a1.size : Int) ≤ (a0.size : Int)
   ·rw [if_pos c6] at H
    have c6b0 := eq_true c6
    have c6b1 : decide ((a1.size : Int) ≤ (a0.size : Int)) = true := decide_eq_true c6
    clear c6
    simp only [Option.some.injEq, Prod.mk.injEq] at H
    obtain ⟨rfl, rfl⟩ := H
    go_enter Tryd.func69, Tryd.ntmps69
    go_wp2_with (first | ((with_reducible refine gate_callee (f := 71) rfl ?_); refine goesL_ (some 8) rfl rfl Tryd.func71 (by kernel_rfl) rfl #[.string a0, .string a1] rfl aP ?_; (with_reducible refine (stringslite_HasPrefix.calls a0 a1 true _ A3.out).mono ?_); rintro e w' ⟨rfl, ⟨nd, rfl⟩⟩; refine ⟨_, rfl, ?_⟩))
    go_ret2
    exact ⟨sA, by repeat (first | exact Drawn0.refl _ | apply Drawn0.step)⟩
   ·rw [if_neg c6] at H
    exact absurd H (by simp)
  ·rw [if_neg c5] at H
   exact absurd H (by simp)
 ·replace c4 := Bool.eq_false_iff.mpr c4
  subst c4
  have H1 : (some (a0, false)) = some (r1, r2) := by rw [if_neg (show ¬ (false = true) by decide)] at H; exact H
  clear H
  have H := H1
  clear H1
  simp only [Option.some.injEq, Prod.mk.injEq] at H
  obtain ⟨rfl, rfl⟩ := H
  go_enter Tryd.func69, Tryd.ntmps69
  go_wp2_with (first | ((with_reducible refine gate_callee (f := 71) rfl ?_); refine goesL_ (some 8) rfl rfl Tryd.func71 (by kernel_rfl) rfl #[.string a0, .string a1] rfl aP ?_; (with_reducible refine (stringslite_HasPrefix.calls a0 a1 false _ A3.out).mono ?_); rintro e w' ⟨rfl, ⟨nd, rfl⟩⟩; refine ⟨_, rfl, ?_⟩))
  go_ret2
  exact ⟨sA, by repeat (first | exact Drawn0.refl _ | apply Drawn0.step)⟩

/-! ### strings_CutPrefix: function 46 -/
def strings_CutPrefix.f (a0 : ByteArray) (a1 : ByteArray) : Option (ByteArray × Bool) := (stringslite_CutPrefix.f a0 a1).bind fun bt275 => (some (bt275.1, bt275.2))
theorem strings_CutPrefix.calls (a0 : ByteArray) (a1 : ByteArray) (r1 : ByteArray) (r2 : Bool) (w : World) (h : strings_CutPrefix.f a0 a1 = some (r1, r2)) :
  Calls Tryd.prog 46 #[.string a0, .string a1] w fun e w' => e = .returned (.tuple #[.string r1, .bool r2]) ∧ Drawn0 w w' := by
 have H : ((stringslite_CutPrefix.f a0 a1).bind fun bt275 => (some (bt275.1, bt275.2))) = some (r1, r2) := h
 clear h
 replace H := Option.bind_eq_some_iff.mp H
 obtain ⟨⟨t275, t276⟩, A30, H⟩ := H
 replace H : (some (t275, t276)) = some (r1, r2) := H
 have A3 := Aside0.mk A30
 clear A30
 simp only [Option.some.injEq, Prod.mk.injEq] at H
 obtain ⟨rfl, rfl⟩ := H
 go_enter Tryd.func46, Tryd.ntmps46
 go_wp2_with (first | ((with_reducible refine gate_callee (f := 69) rfl ?_); refine goesL_ (some 8) rfl rfl Tryd.func69 (by kernel_rfl) rfl #[.string a0, .string a1] rfl aP ?_; (with_reducible refine (stringslite_CutPrefix.calls a0 a1 t275 t276 _ A3.out).mono ?_); rintro e w' ⟨rfl, ⟨nd, rfl⟩⟩; refine ⟨_, rfl, ?_⟩))
 go_ret2
 exact ⟨sA, by repeat (first | exact Drawn0.refl _ | apply Drawn0.step)⟩

end Go.Proofs.YtmeinakeiefcdaaDoor.X
