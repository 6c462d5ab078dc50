-- Written by this session's xprint.py (a variant of the kit's printer). Not trusted: Lean checks it.
import Derived.Test.YtdjepocklmlnbaaDoorX0
import Derived.Test.YtdjepocklmlnbaaDoorSlim
import Derived.Test.YtdjepocklmlnbaaDoorX1
import Derived.Test.YtdjepocklmlnbaaDoorHandA
import Derived.Test.YtdjepocklmlnbaaDoorHandR
namespace Go.Proofs.YtdjepocklmlnbaaDoor.X
open Go.Proofs.YtdjepocklmlnbaaDoor.Hand
open Go.RowKit Go.Proofs.YtdjepocklmlnbaaDoorW.PrintWords Go.Proofs.YtdjepocklmlnbaaDoorW.PrintLast Go.Proofs.YtdjepocklmlnbaaDoorW.PrintMore
attribute [local go_sem] max2_int min2_int max_two min_two max_three min_three max_four min_four   -- for this text's walks alone
set_option linter.unusedVariables false
set_option maxHeartbeats 8000000
set_option maxRecDepth 100000
set_option linter.unusedSimpArgs false

/-! ### cells_Blank: function 72 -/
def cells_Blank.f (a0 : Int) : Option ((List (S44))) := (repeat_G.f (([(⟨32, 0⟩ : S44)] : List (S44))) (mx 0 (mn a0 65535))).bind fun t197 => (some t197)
theorem cells_Blank.calls (a0 : Int) (r : List (S44)) (w : World) (hG : GOK [1] w) (h : cells_Blank.f a0 = some r) :
  Calls Tryd.prog 72 #[.int .i64 a0] w fun e w' => ∃ v0_ : Value, e = .returned (v0_) ∧ Kd.R k44 44 w' w.heap.size (fun _ => True) v0_ r ∧ Below w.heap.size w w' := by
 have hu44 := Tryd.underlying44
 have HG := Aside0.mk hG
 clear hG
 have HB := Aside0.mk (Below.refl w.heap.size w)
 have H : ((repeat_G.f (([(⟨32, 0⟩ : S44)] : List (S44))) (mx 0 (mn a0 65535))).bind fun t197 => (some t197)) = some r := h
 clear h
 obtain ⟨y194, hy194⟩ : ∃ y_ : List (S44), y_ = (([(⟨32, 0⟩ : S44)] : List (S44))) := ⟨_, rfl⟩
 replace H : ((repeat_G.f y194 (mx 0 (mn a0 65535))).bind fun t197 => (some t197)) = some r := hyA hy194 H
 have Ny194 := Aside0.mk hy194
 clear hy194
 obtain ⟨ji2, hji2⟩ : ∃ j_ : Int, (mn a0 65535) = j_ := ⟨_, rfl⟩
 replace H : ((repeat_G.f y194 (mx 0 (ji2))).bind fun t197 => (some t197)) = some r := by first | (rw [hji2] at H; exact H) | (simp only [hji2] at H ⊢; exact H)
 (try (have hji2h : ji2 ≤ 65535 := by (rw [← hji2]; unfold mn; (repeat' split) <;> omega)))
 (try (have hji2g : ji2 ≤ 64 := by omega))
 have hji2_ : (if 65535 < a0 then 65535 else a0) = ji2 := hji2
 obtain ⟨ji3, hji3⟩ : ∃ j_ : Int, (mx 0 (ji2)) = j_ := ⟨_, rfl⟩
 replace H : ((repeat_G.f y194 (ji3)).bind fun t197 => (some t197)) = some r := by first | (rw [hji3] at H; exact H) | (simp only [hji3] at H ⊢; exact H)
 have hji3_ : (if 0 < (ji2) then (ji2) else 0) = ji3 := hji3
 replace H := Option.bind_eq_some_iff.mp H
 obtain ⟨t197, A40, H⟩ := H
 replace H : (some t197) = some r := H
 have A4 := Aside0.mk A40
 clear A40
 obtain rfl := Option.some.inj H
 have hgl5 := blank_1 (HG.out) (by decide)
 have hgl6 := blank_0 (HG.out) (by decide)
 go_enter Tryd.func72, Tryd.ntmps72
 go_wp2_with (first | ((with_reducible refine gate_dst (N := 4) rfl ?_); refine Kd.R_lit k44 _ 44 ?hg (N := 4) ?hd (xs := ([(⟨32, 0⟩ : S44)] : List (S44))) (inner := [.int .i32 32, .int .u8 0]) (ok := fun _ => True) (okp := fun _ => True) ?hr ?hp (fun _ hk => hk) trivial (Below.refl _ _) (Nat.le_refl _) (by simp) ?_; (case hd => rfl); (case hg => rfl); (case hr => first | (go_simp; done) | (go_simp; rfl)); (case hp => exact (Reps.c2 (show Kd.M k44 _ _ _ (⟨32, 0⟩ : S44) [.int .i32 32, .int .u8 0] from (k44_mkM _ _ _ (⟨32, 0⟩ : S44) )) (Reps.none _ _))); intro v195 w7 ho8 hb hg_ hnew_; clear hg_ hnew_; (first | rw [← Ny194.out] at ho8 | (simp only [Int.reduceToNat] at ho8; rw [← Ny194.out] at ho8)); have HO196 := Aside0.mk (Kd.R_lower ho8 (below_size bA)); replace HB := Aside0.mk (below_step bA hb); clear hb ho8; obtain ⟨Ao9, co9, eo9⟩ := Kd.R_slice HO196.out; subst eo9) | ((with_reducible refine gate_callee (f := 81) rfl ?_); refine goesL_ (some 8) rfl rfl Tryd.func81 (by kernel_rfl) rfl #[.slice Ao9 y194.length co9, .int .i64 ji3] rfl (by (try simp only [List.map_toArray, List.map_cons, List.map_nil]); first | done | (simp only [hji3]; rfl) | rfl | (simp only [List.length_drop, List.length_take]; rfl)) ?_; (with_reducible refine (repeat_G.calls _ _ y194 ji3 t197 _ ?side1 ?side2 A4.out).mono ?_); (case side1 => repeat (first | exact (Kd.R_reads' HO196.out).2.2 | (with_reducible refine Kd.C_alloc ?_ _) | (with_reducible refine Kd.C_drewN ?_ _) | (with_reducible refine Kd.C_drew ?_))); (case side2 => exact (Kd.R_reads' HO196.out).2.1); rintro e w10 ⟨v198, rfl, ho0, hb⟩; refine ⟨_, rfl, ?_⟩; have n0_ := Aside0.mk (Kd.R_elder' (kR HO196) (Kd.R_base ho0) hb); have n1_ := Aside0.mk (Kd.R_lower (Kd.R_new' ho0 (Kd.R_lt (kR HO196))) (below_size bA)); have n2_ := Aside0.mk (below_step bA hb); clear HO196; clear HB; have HO196 := n0_; have HO199 := n1_; have HB := n2_; clear n0_ n1_ n2_; (try clear hb); (try clear hb2); (try clear hk); (try clear hi); (try clear ho0)))
 go_ret
 exact ⟨_, by first | rfl | (simp [errW_none, errW_some] <;> rfl) | (simp only [← hji2, ← hji3]; first | rfl | (simp [errW_none, errW_some] <;> rfl)) | (simp [*, errW_none, errW_some] <;> rfl), by (with_reducible repeat (first | apply Kd.R_alloc | apply Kd.R_drewN | apply Kd.R_drew)); exact Kd.R_mono HO199.out (fun _ hk => trivial), bA⟩

/-! ### layout_Flat: function 55 -/
def layout_Flat.f (a0_0 : Int) (l0_1 : List (S44)) (a0_2 : Bool) : Option ((List (S44))) := if (l0_1.length : Int) = 0 then (some ([] : List (S44))) else ((cells_Blank.f a0_0).bind fun t201 => (if t201.length + l0_1.length < 17592186044416 then (some (t201 ++ l0_1)) else (none)))
theorem layout_Flat.calls (a0_0 : Int) (A0_1 : Option Addr) (c0_1 : Nat) (l0_1 : List (S44)) (a0_2 : Bool) (r : List (S44)) (w : World) (hr0_1 : Kd.C k44 w A0_1 l0_1.length l0_1) (hc0_1 : l0_1.length ≤ c0_1) (hG : GOK [1] w) (h : layout_Flat.f a0_0 l0_1 a0_2 = some r) :
  Calls Tryd.prog 55 #[.agg #[.int .i64 a0_0, .slice A0_1 l0_1.length c0_1, .bool a0_2]] w fun e w' => ∃ v0_ : Value, e = .returned (v0_) ∧ Kd.R k44 44 w' w.heap.size (fun _ => True) v0_ r ∧ Below w.heap.size w w' := by
 have hu35 := Tryd.underlying35
 have HG := Aside0.mk hG
 clear hG
 have HR0_1 := Aside0.mk hr0_1
 have HC0_1 := Aside0.mk hc0_1
 clear hr0_1 hc0_1
 have HB := Aside0.mk (Below.refl w.heap.size w)
 have H : (if (l0_1.length : Int) = 0 then (some ([] : List (S44))) else ((cells_Blank.f a0_0).bind fun t201 => (if t201.length + l0_1.length < 17592186044416 then (some (t201 ++ l0_1)) else (none)))) = some r := h
 clear h
 by_cases c2 : (l0_1.length : Int) = 0
 ·rw [if_pos c2] at H
  have c2b0 : ((l0_1.length : Int) == 0) = true := beq_iff_eq.mpr c2
  have c2b1 : ((l0_1.length : Int) != 0) = false := bne_eq_false_iff_eq.mpr c2
  clear c2
  obtain rfl := Option.some.inj H
  go_enter Tryd.func55, Tryd.ntmps55
  go_wp2_with (first | ((with_reducible refine gate_dst (N := 1) rfl ?_); refine box_event ?hg (N := 1) ?hd (cs := #[.int .i64 a0_0, .slice A0_1 l0_1.length c0_1, .bool a0_2]) (t := 35) ?hr ?_; (case hd => rfl); (case hg => rfl); (case hr => first | (go_simp; done) | (go_simp; rfl)); intro gb200 hg w3 hbox hb; have BK200 := Aside0.mk (hbox); have GW200 := Aside0.mk ((geA hg : w.heap.size ≤ gb200)); have GE200 := Aside0.mk ((geA hg : w.heap.size ≤ gb200)); replace HB := Aside0.mk (below_step bA hb); clear hb hbox hg; have hcz4_0 : w3.cell? ⟨gb200, 0, none⟩ = some (.int .i64 a0_0) := (blk_cell BK200.out 0).trans rfl; have hcz4_1 : w3.cell? ⟨gb200, 1, none⟩ = some (.slice A0_1 l0_1.length c0_1) := (blk_cell BK200.out 1).trans rfl; have hcz4_2 : w3.cell? ⟨gb200, 2, none⟩ = some (.bool a0_2) := (blk_cell BK200.out 2).trans rfl; have hfz4_0 := blk_frozen BK200.out 0; have hfz4_1 := blk_frozen BK200.out 1; have hfz4_2 := blk_frozen BK200.out 2))
  go_ret
  exact ⟨_, eW, by first | exact Kd.R_nil _ _ _ _ _ | exact Kd.N_nil _ _ _ _ _ | exact Kd.V_nil _ _ _ _ _ | exact Kd.Q_nil _ _ _ _ _ | exact Kd.S_nil _ _ _ _ _, bG⟩
 ·rw [if_neg c2] at H
  have c2b0 : ((l0_1.length : Int) == 0) = false := beq_eq_false_iff_ne.mpr c2
  have c2b1 : ((l0_1.length : Int) != 0) = true := bne_iff_ne.mpr c2
  have c2b2 : ¬ (l0_1 = []) := fun h_ => c2 (by rw [h_]; rfl)
  replace H := Option.bind_eq_some_iff.mp H
  obtain ⟨t201, A50, H⟩ := H
  replace H : (if t201.length + l0_1.length < 17592186044416 then (some (t201 ++ l0_1)) else (none)) = some r := H
  have A5 := Aside0.mk A50
  clear A50
  by_cases c6 : t201.length + l0_1.length < 17592186044416
  ·rw [if_pos c6] at H
   have LMc6 := Aside0.mk c6
   clear c6
   obtain ⟨y204, hy204⟩ : ∃ y_ : List (S44), y_ = (t201 ++ l0_1) := ⟨_, rfl⟩
   replace H : (some y204) = some r := hyA hy204 H
   have Ny204 := Aside0.mk hy204
   clear hy204
   obtain rfl := Option.some.inj H
   go_enter Tryd.func55, Tryd.ntmps55
   try go_wp2_with (first | ((with_reducible refine gate_dst (N := 1) rfl ?_); refine box_event ?hg (N := 1) ?hd (cs := #[.int .i64 a0_0, .slice A0_1 l0_1.length c0_1, .bool a0_2]) (t := 35) ?hr ?_; (case hd => rfl); (case hg => rfl); (case hr => first | (go_simp; done) | (go_simp; rfl)); intro gb200 hg w7 hbox hb; have BK200 := Aside0.mk (hbox); have GW200 := Aside0.mk ((geA hg : w.heap.size ≤ gb200)); have GE200 := Aside0.mk ((geA hg : w.heap.size ≤ gb200)); replace HB := Aside0.mk (below_step bA hb); clear hb hbox hg; have hcz8_0 : w7.cell? ⟨gb200, 0, none⟩ = some (.int .i64 a0_0) := (blk_cell BK200.out 0).trans rfl; have hcz8_1 : w7.cell? ⟨gb200, 1, none⟩ = some (.slice A0_1 l0_1.length c0_1) := (blk_cell BK200.out 1).trans rfl; have hcz8_2 : w7.cell? ⟨gb200, 2, none⟩ = some (.bool a0_2) := (blk_cell BK200.out 2).trans rfl; have hfz8_0 := blk_frozen BK200.out 0; have hfz8_1 := blk_frozen BK200.out 1; have hfz8_2 := blk_frozen BK200.out 2))
   have n0_ := Aside0.mk (blk_drew BK200.out)
   have n1_ := Aside0.mk (below_drew1 HB.out)
   clear BK200
   clear HB
   have BK200 := n0_
   have HB := n1_
   clear n0_ n1_
   refine start_ (n := 7) (S := fun w' => w'.cell? ⟨gb200, 0, none⟩ = some (.int .i64 a0_0) ∧ w'.cell? ⟨gb200, 1, none⟩ = some (.slice A0_1 l0_1.length c0_1) ∧ w'.cell? ⟨gb200, 2, none⟩ = some (.bool a0_2)) (ds := []) #[false, false, false, false, false, false, false] (by kernel_rfl) rfl rfl ⟨(blk_cell BK200.out 0).trans rfl, (blk_cell BK200.out 1).trans rfl, (blk_cell BK200.out 2).trans rfl⟩ (fun hHeld => ?_)
   generalize w7.drew = w9 at BK200 HB hHeld ⊢
   refine pure_ (i := 0) (N := some 7) (v := ?_) (a' := ?_) #[true, false, false, false, false, false, false] rfl rfl (by kernel_rfl) (fun _ _ _ h => h) (Or.inl ⟨by rfl, ?_⟩) ?_ ?_
   rotate_left
   ·intro w'
    go_simp
    with_reducible rfl
   rotate_left
   ·simp only [Act.put, List.setIfInBounds_toArray, List.set_cons_zero, List.set_cons_succ, i64_w, i32_w]
    rfl
   refine pure_ (i := 3) (N := some 10) (v := ?_) (a' := ?_) #[true, false, false, true, false, false, false] rfl rfl (by kernel_rfl) (fun _ _ _ h => h) (Or.inl ⟨by rfl, ?_⟩) ?_ ?_
   rotate_left
   ·intro w'
    go_simp
    with_reducible rfl
   rotate_left
   ·simp only [Act.put, List.setIfInBounds_toArray, List.set_cons_zero, List.set_cons_succ, i64_w, i32_w]
    rfl
   refine take_ (i := 1) (N := some 8) (v := ?_) (a' := ?_) #[true, true, false, true, false, false, false] rfl rfl (by kernel_rfl) (fun _ _ _ h => h) (Or.inl ⟨by rfl, ?_⟩) hHeld ?_ ?_
   rotate_left
   ·rintro w' ⟨s0, s1, s2⟩
    go_simp
    with_reducible rfl
   rotate_left
   ·simp only [Act.put, List.setIfInBounds_toArray, List.set_cons_zero, List.set_cons_succ, i64_w, i32_w]
    rfl
   refine take_ (i := 4) (N := some 11) (v := ?_) (a' := ?_) #[true, true, false, true, true, false, false] rfl rfl (by kernel_rfl) (fun _ _ _ h => h) (Or.inl ⟨by rfl, ?_⟩) hHeld ?_ ?_
   rotate_left
   ·rintro w' ⟨s0, s1, s2⟩
    go_simp
    with_reducible rfl
   rotate_left
   ·simp only [Act.put, List.setIfInBounds_toArray, List.set_cons_zero, List.set_cons_succ, i64_w, i32_w]
    rfl
   refine one_ (i := 2) (N := some 9) #[true, true, true, true, true, false, false] rfl rfl (by kernel_rfl) (by decide) (fun K hK => ?_)
   refine goes_ Tryd.func72 (by kernel_rfl) rfl #[.int .i64 a0_0] (by rfl) rfl rfl aP ?_
   with_reducible refine (cells_Blank.calls a0_0 t201 _ ?side1 A5.out).mono ?_
   (case side1 => exact GOK.of_below (GOK.sub HG.out rfl) bG)
   rintro e w10 ⟨v202, rfl, ho0, hb⟩
   refine ⟨_, rfl, ?_⟩
   have n0_ := Aside0.mk (Kd.R_lower ho0 (below_size bG))
   have n1_ := Aside0.mk (blk_below (g := gb200) (o := .cells #[.int .i64 a0_0, .slice A0_1 l0_1.length c0_1, .bool a0_2] 35 (0, 0)) (kB BK200) hb)
   have n2_ := Aside0.mk (below_step bG hb)
   clear BK200
   clear HB
   have HO203 := n0_
   have BK200 := n1_
   have HB := n2_
   clear n0_ n1_ n2_
   (try clear hb)
   (try clear hb2)
   (try clear hk)
   (try clear hi)
   (try clear ho0)
   refine hK.out _ _ ⟨(blk_cell BK200.out 0).trans rfl, (blk_cell BK200.out 1).trans rfl, (blk_cell BK200.out 2).trans rfl⟩ (fun hHeld => ?_)
   clear hK K
   refine norm_ (a' := ?_) ?_ ?_
   rotate_left
   ·show Act.put _ (some 9) _ = _
    simp only [Act.put, List.setIfInBounds_toArray, List.set_cons_zero, List.set_cons_succ, i64_w, i32_w]
    rfl
   refine one_ (i := 5) (N := some 12) #[true, true, true, true, true, true, false] rfl rfl (by kernel_rfl) (by decide) (fun K hK => ?_)
   refine Kd.R_append_rows_step k44 (w0 := w) w.heap.size (by rfl) (.tmp 9) (.tmp 11) 33 44 (.agg #[(.int .i32 0), (.int .u8 0)]) 8 rfl Tryd.underlying33 info44 rfl (by decide) (by omega) v202 t201 l0_1 _ _ _ (fun _ => True) (fun _ => False) rfl rfl ?aO ?aR (fun _ _ h => h) (fun _ h => h.elim) ?aF ?aB ?aS ?aL ?_
   (case aR => repeat (first | exact (Kd.C_below HR0_1.out HB.out) | (with_reducible refine Kd.C_alloc ?_ _) | (with_reducible refine Kd.C_drewN ?_ _) | (with_reducible refine Kd.C_drew ?_)))
   (case aB => exact bG)
   (case aF => exact (fun _ _ => trivial))
   (case aO => exact (kR HO203))
   (case aS => exact (below_size bG))
   (case aL => have := LMc6.out; omega)
   intro v205 w11 ho hb hg hat
   rw [← Ny204.out] at ho
   have n0_ := Aside0.mk (blk_grown (g := gb200) (o := .cells #[.int .i64 a0_0, .slice A0_1 l0_1.length c0_1, .bool a0_2] 35 (0, 0)) (kB BK200) hg (by first | exact Kd.R_ne HO203.out BK200.out (by decide) | (intro e_; have h_ := HO203.out.1 _ e_.symm; simp at h_)))
   have n1_ := Aside0.mk (hb)
   have n2_ := Aside0.mk (ho)
   clear BK200
   clear HB
   clear HO203
   have BK200 := n0_
   have HB := n1_
   have HO206 := n2_
   clear n0_ n1_ n2_
   clear ho hb hg hat
   refine hK.out _ _ ⟨(blk_cell BK200.out 0).trans rfl, (blk_cell BK200.out 1).trans rfl, (blk_cell BK200.out 2).trans rfl⟩ (fun hHeld => ?_)
   clear hK K
   refine norm_ (a' := ?_) ?_ ?_
   rotate_left
   ·show Act.put _ (some 12) _ = _
    simp only [Act.put, List.setIfInBounds_toArray, List.set_cons_zero, List.set_cons_succ, i64_w, i32_w]
    rfl
   refine pure_ (i := 6) (N := some 2) (v := ?_) (a' := ?_) #[true, true, true, true, true, true, true] rfl rfl (by kernel_rfl) (fun _ _ _ h => h) (Or.inl ⟨by rfl, ?_⟩) ?_ ?_
   rotate_left
   ·intro w'
    go_simp
    with_reducible rfl
   rotate_left
   ·simp only [Act.put, List.setIfInBounds_toArray, List.set_cons_zero, List.set_cons_succ, i64_w, i32_w]
    rfl
   refine done_ (by kernel_rfl) ?_
   try go_wp2
   go_ret
   exact ⟨_, eW, kR HO206, bG⟩
  ·rw [if_neg c6] at H
   exact absurd H (by simp)

/-! ### plain_Rows: function 38 -/
def plain_Rows.l0 : Nat → List (List (S44)) → List (S35) → Int → Int → Option ((List (List (S44))))
 | 0, _, _, _, _ => none
 | k + 1, x3, x6, x7, x8 => if x8 < x7 then (if 0 ≤ x8 then (if x8 < (x6.length : Int) then ((layout_Flat.f ((rd_T35 x6 x8).f0) ((rd_T35 x6 x8).f1) ((rd_T35 x6 x8).f2)).bind fun t209 => ((plain_Normal.f k t209).bind fun t212 => (if x3.length < 5864062014805 then (plain_Rows.l0 k (x3 ++ [t212]) x6 x7 (wrap64 (x8 + 1))) else (none)))) else (none)) else (none)) else (some x3)
def plain_Rows.f (k : Nat) (l0 : List (S35)) : Option ((List (List (S44)))) := plain_Rows.l0 k ([] : List (List (S44))) l0 (l0.length : Int) 0
theorem plain_Rows.mono_l : ∀ k, (∀ y0 y1 y2 y3, LeO (plain_Rows.l0 k y0 y1 y2 y3) (plain_Rows.l0 (k + 1) y0 y1 y2 y3))
 | 0 => fun _ _ _ _ r h => by simp [plain_Rows.l0] at h
 | k + 1 => by
  have ih0 := plain_Rows.mono_l k
  ·intro y0 y1 y2 y3
   unfold plain_Rows.l0
   repeat' first
   | (with_reducible exact ih0 _ _ _ _)
   | (with_reducible exact plain_Normal.mono _ _)
   | (with_reducible exact LeO.refl _)
   | (with_reducible exact LeO.none _)
   | (with_reducible refine LeO.ite ?_ ?_)
   | (with_reducible refine LeO.bind ?_ (fun _ => ?_))
theorem plain_Rows.mono : ∀ a0 k, LeO (plain_Rows.f k a0) (plain_Rows.f (k + 1) a0) := by
 intro a0 k
 have ih0 := plain_Rows.mono_l k
 unfold plain_Rows.f
 repeat' first
   | (with_reducible exact ih0 _ _ _ _)
   | (with_reducible exact plain_Normal.mono _ _)
   | (with_reducible exact LeO.refl _)
   | (with_reducible exact LeO.none _)
   | (with_reducible refine LeO.ite ?_ ?_)
   | (with_reducible refine LeO.bind ?_ (fun _ => ?_))
theorem plain_Rows.calls (k : Nat) (A0 : Option Addr) (c0 : Nat) (l0 : List (S35)) (r : List (List (S44))) (w : World) (hr0 : Kd.C k35 w A0 l0.length l0) (hc0 : l0.length ≤ c0) (hG : GOK [0,1] w) (h : plain_Rows.f k l0 = some r) :
  Calls Tryd.prog 38 #[.slice A0 l0.length c0] w fun e w' => ∃ v0_ : Value, e = .returned (v0_) ∧ Kd.S (Kd.slice 44 k44) 33 w' w.heap.size (fun _ => True) v0_ r ∧ Below w.heap.size w w' := by
 have hu35 := Tryd.underlying35
 have HG := Aside0.mk hG
 clear hG
 have HR0 := Aside0.mk hr0
 have HC0 := Aside0.mk hc0
 clear hr0 hc0
 have HB := Aside0.mk (Below.refl w.heap.size w)
 have H : (plain_Rows.l0 k ([] : List (List (S44))) l0 (l0.length : Int) 0) = some r := h
 clear h
 have H' := Aside0.mk H
 clear H
 go_enter Tryd.func38, Tryd.ntmps38
 go_wp2
 go_loopg [3, 8] k (fun kq v3 v8 w' => ∃ (x3_1 : List (List (S44))) (x8_1 : Int), v8 = .int .i64 x8_1 ∧ Aside0 (plain_Rows.l0 kq x3_1 l0 (l0.length : Int) x8_1 = some r) ∧ Aside0 (kq ≤ k) ∧ Aside0 (Kd.S (Kd.slice 44 k44) 33 w' w.heap.size (fun _ => True) v3 x3_1) ∧ Aside0 (Below w.heap.size w w'))
 case atStart => exact ⟨(([] : List (List (S44)))), (0), sA, H', ⟨Nat.le_refl _⟩, ⟨by first | exact Kd.S_nil _ _ _ _ _ | exact Kd.N_nil _ _ _ _ _ | exact Kd.V_nil _ _ _ _ _ | exact Kd.Q_nil _ _ _ _ _ | exact Kd.R_nil _ _ _ _ _⟩, ⟨bA⟩⟩
 case round =>
  clear H'
  obtain ⟨x3_1, x8_1, rfl, HA, HK1, HO_3, HB⟩ := hrel
  cases gk with
  | zero => exact absurd HA.out (by simp [plain_Rows.l0])
  | succ k1 =>
   have H := HA.out
   clear HA
   simp only [plain_Rows.l0] at H
   by_cases c2 : x8_1 < (l0.length : Int)
   ·rw [if_pos c2] at H
    have c2b0 : decide (x8_1 < (l0.length : Int)) = true := decide_eq_true c2
    clear c2
    by_cases c3 : 0 ≤ x8_1
    ·rw [if_pos c3] at H
     have c3b0 : decide (0 ≤ x8_1) = true := decide_eq_true c3
     clear c3
     by_cases c4 : x8_1 < (l0.length : Int)
     ·rw [if_pos c4] at H
      have c4b0 : decide (x8_1 < (l0.length : Int)) = true := decide_eq_true c4
      clear c4
      replace H := Option.bind_eq_some_iff.mp H
      obtain ⟨t209, A50, H⟩ := H
      replace H : ((plain_Normal.f k1 t209).bind fun t212 => (if x3_1.length < 5864062014805 then (plain_Rows.l0 k1 (x3_1 ++ [t212]) l0 (l0.length : Int) (wrap64 (x8_1 + 1))) else (none))) = some r := H
      have A5 := Aside0.mk A50
      clear A50
      replace H := Option.bind_eq_some_iff.mp H
      obtain ⟨t212, A60, H⟩ := H
      replace H : (if x3_1.length < 5864062014805 then (plain_Rows.l0 k1 (x3_1 ++ [t212]) l0 (l0.length : Int) (wrap64 (x8_1 + 1))) else (none)) = some r := H
      have A6 := Aside0.mk A60
      clear A60
      by_cases c7 : x3_1.length < 5864062014805
      ·rw [if_pos c7] at H
       have LMc7 := Aside0.mk c7
       clear c7
       obtain ⟨y215, hy215⟩ : ∃ y_ : List (List (S44)), y_ = (x3_1 ++ [t212]) := ⟨_, rfl⟩
       replace H : (plain_Rows.l0 k1 y215 l0 (l0.length : Int) (wrap64 (x8_1 + 1))) = some r := hyA hy215 H
       have Ny215 := Aside0.mk hy215
       clear hy215
       have H' := Aside0.mk H
       clear H
       have p207 : 0 ≤ (x8_1 : Int) := of_decide_eq_true asA
       have q207 : x8_1 < (l0.length : Int) := of_decide_eq_true asA
       obtain ⟨ad207, A207_1, c207_1, e207, hx207_0, hx207_1, hx207_2, hl207_1, hi207_1⟩ := at_T35 HR0.out x8_1 p207 q207
       cases e207
       replace hx207_0 := (HB.out.cell (World.block_lt_of_cell? w _ hx207_0)).trans hx207_0
       replace hx207_1 := (HB.out.cell (World.block_lt_of_cell? w _ hx207_1)).trans hx207_1
       replace hx207_2 := (HB.out.cell (World.block_lt_of_cell? w _ hx207_2)).trans hx207_2
       have HR207_1 := Aside0.mk hi207_1
       have HC207_1 := Aside0.mk hl207_1
       clear hi207_1 hl207_1
       replace p207 := eq_true p207
       replace q207 := eq_true q207
       go_wp2_with (first | ((with_reducible refine gate_dst (N := 5) rfl ?_); refine box_event ?hg (N := 5) ?hd (cs := #[.int .i64 0, .slice none 0 0, .bool false]) (t := 35) ?hr ?_; (case hd => rfl); (case hg => rfl); (case hr => first | (go_simp; done) | (go_simp; rfl)); intro gb208 hg w8 hbox hb; replace HO_3 := Aside0.mk (Kd.S_below (kS HO_3) hb); have BK208 := Aside0.mk (hbox); have GW208 := Aside0.mk ((geA hg : w.heap.size ≤ gb208)); have GE208 := Aside0.mk ((geA hg : w.heap.size ≤ gb208)); replace HB := Aside0.mk (below_step bA hb); clear hb hbox hg; have hcz9_0 : w8.cell? ⟨gb208, 0, none⟩ = some (.int .i64 0) := (blk_cell BK208.out 0).trans rfl; have hcz9_1 : w8.cell? ⟨gb208, 1, none⟩ = some (.slice none 0 0) := (blk_cell BK208.out 1).trans rfl; have hcz9_2 : w8.cell? ⟨gb208, 2, none⟩ = some (.bool false) := (blk_cell BK208.out 2).trans rfl; have hfz9_0 := blk_frozen BK208.out 0; have hfz9_1 := blk_frozen BK208.out 1; have hfz9_2 := blk_frozen BK208.out 2) | ((with_reducible refine gate_callee (f := 55) rfl ?_); refine goesL_ (some 14) rfl rfl Tryd.func55 (by kernel_rfl) rfl #[.agg #[.int .i64 ((rd_T35 l0 x8_1).f0), .slice A207_1 ((rd_T35 l0 x8_1).f1).length c207_1, .bool ((rd_T35 l0 x8_1).f2)]] rfl aP ?_; (with_reducible refine (layout_Flat.calls ((rd_T35 l0 x8_1).f0) _ _ ((rd_T35 l0 x8_1).f1) ((rd_T35 l0 x8_1).f2) t209 _ ?side1 ?side2 ?side3 A5.out).mono ?_); (case side1 => exact Kd.C_below HR207_1.out bG); (case side2 => exact HC207_1.out); (case side3 => exact GOK.of_below (GOK.sub HG.out rfl) bG); rintro e w10 ⟨v210, rfl, ho0, hb⟩; refine ⟨_, rfl, ?_⟩; have n0_ := Aside0.mk (Kd.S_elder' (by (with_reducible repeat (first | apply Kd.S_alloc | apply Kd.S_drewN | apply Kd.S_drew)); exact (Kd.S_mono (Kd.S_far (p := ⟨gb208, 2, none⟩) (Kd.S_far (p := ⟨gb208, 1, none⟩) (Kd.S_far (p := ⟨gb208, 0, none⟩) (Kd.S_types HO_3.out BK208.out (by decide)) (fun _ hk => hk.2) (.int .i64 ((rd_T35 l0 x8_1).f0))) (fun _ hk => hk.2) (.slice A207_1 ((rd_T35 l0 x8_1).f1).length c207_1)) (fun _ hk => hk.2) (.bool ((rd_T35 l0 x8_1).f2))) (fun _ h_ => h_.1))) (Kd.R_base ho0) hb); have n1_ := Aside0.mk (Kd.R_lower ho0 (below_size bG)); have n2_ := Aside0.mk (blk_below (g := gb208) (o := .cells #[.int .i64 ((rd_T35 l0 x8_1).f0), .slice A207_1 ((rd_T35 l0 x8_1).f1).length c207_1, .bool ((rd_T35 l0 x8_1).f2)] 35 (0, 0)) (by (with_reducible repeat (first | refine blk_drewN ?_ _ | refine blk_drew ?_ | refine blk_alloc ?_ _)); refine blk_put (cs := #[.int .i64 ((rd_T35 l0 x8_1).f0), .slice A207_1 ((rd_T35 l0 x8_1).f1).length c207_1, .bool false]) ?_ 2 _ rfl; (with_reducible repeat (first | refine blk_drewN ?_ _ | refine blk_drew ?_ | refine blk_alloc ?_ _)); refine blk_put (cs := #[.int .i64 ((rd_T35 l0 x8_1).f0), .slice none 0 0, .bool false]) ?_ 1 _ rfl; (with_reducible repeat (first | refine blk_drewN ?_ _ | refine blk_drew ?_ | refine blk_alloc ?_ _)); refine blk_put (cs := #[.int .i64 0, .slice none 0 0, .bool false]) ?_ 0 _ rfl; (with_reducible repeat (first | refine blk_drewN ?_ _ | refine blk_drew ?_ | refine blk_alloc ?_ _)); exact BK208.out) hb); have n3_ := Aside0.mk (below_step bG hb); clear HO_3; clear BK208; clear HB; have HO_3 := n0_; have HO211 := n1_; have BK208 := n2_; have HB := n3_; clear n0_ n1_ n2_ n3_; (try clear hb); (try clear hb2); (try clear hk); (try clear hi); (try clear ho0); obtain ⟨Ao11, co11, eo11⟩ := Kd.R_slice HO211.out; subst eo11) | ((with_reducible refine gate_callee (f := 36) rfl ?_); refine goesL_ (some 15) rfl rfl Tryd.func36 (by kernel_rfl) rfl #[.slice Ao11 t209.length co11] rfl aP ?_; (with_reducible refine (plain_Normal.calls k1 _ _ t209 t212 _ ?side1 ?side2 ?side3 A6.out).mono ?_); (case side1 => repeat (first | exact (Kd.R_reads' HO211.out).2.2 | (with_reducible refine Kd.C_alloc ?_ _) | (with_reducible refine Kd.C_drewN ?_ _) | (with_reducible refine Kd.C_drew ?_))); (case side2 => exact (Kd.R_reads' HO211.out).2.1); (case side3 => exact GOK.of_below (GOK.sub HG.out rfl) bG); rintro e w12 ⟨v213, rfl, ho0, hb⟩; refine ⟨_, rfl, ?_⟩; have n0_ := Aside0.mk (Kd.S_elder' (kS HO_3) (Kd.R_base ho0) hb); have n1_ := Aside0.mk (Kd.R_elder' (kR HO211) (Kd.R_base ho0) hb); have n2_ := Aside0.mk (Kd.R_lower (Kd.R_new' ho0 (Kd.R_lt (kR HO211))) (below_size bG)); have n3_ := Aside0.mk (blk_below (g := gb208) (o := .cells #[.int .i64 ((rd_T35 l0 x8_1).f0), .slice A207_1 ((rd_T35 l0 x8_1).f1).length c207_1, .bool ((rd_T35 l0 x8_1).f2)] 35 (0, 0)) (kB BK208) hb); have n4_ := Aside0.mk (below_step bG hb); clear HO_3; clear HO211; clear BK208; clear HB; have HO_3 := n0_; have HO211 := n1_; have HO214 := n2_; have BK208 := n3_; have HB := n4_; clear n0_ n1_ n2_ n3_ n4_; (try clear hb); (try clear hb2); (try clear hk); (try clear hi); (try clear ho0); obtain ⟨Ao14, co14, eo14⟩ := Kd.R_slice HO214.out; subst eo14) | ((with_reducible refine gate_builtin (b := .append) (xs := #[.tmp 12, .tmp 16]) rfl ?_); at_builtin; refine Kd.S_append (Kd.slice 44 k44) (w0 := w) w.heap.size rfl (.tmp 12) (.tmp 16) 40 33 (.slice none 0 0) 24 rfl Tryd.underlying40 info33 rfl (by decide) (by omega) u3 x3_1 t212 [.slice Ao14 t212.length co14] (fun k_ => some k_ ≠ (.slice Ao11 t209.length co11 : Value).ownBlock) (fun k_ => some k_ = (.slice Ao14 t212.length co14 : Value).ownBlock) rfl rfl ?aP (fun k_ hk_ => ((Kd.R_mono (ok' := fun k_ => ((fun k_ => some k_ ≠ (.slice Ao11 t209.length co11 : Value).ownBlock)) k_ ∧ some k_ ≠ (u3 : Value).ownBlock) (Kd.R_apart' (HO214.out) (Kd.S_typed HO_3.out) (by decide)) (fun k_ hk => ⟨hk.1.2, hk.2⟩))).1 k_ hk_.symm) ?aF ?aO ?aB ?aS ?aL ?_; (case aP => exact Kd.M_row (Kd.R_mono (Kd.R_tight rfl (Kd.R_mono (ok' := fun k_ => ((fun k_ => some k_ ≠ (.slice Ao11 t209.length co11 : Value).ownBlock)) k_ ∧ some k_ ≠ (u3 : Value).ownBlock) (Kd.R_apart' (HO214.out) (Kd.S_typed HO_3.out) (by decide)) (fun k_ hk => ⟨hk.1.2, hk.2⟩))) (fun _ h_ => h_))); (case aB => exact bG); (case aF => exact (fun k_ hk => Kd.fresh' (Kd.R_lt (kR HO211)) k_ hk)); (case aO => exact (by (with_reducible repeat (first | apply Kd.S_alloc | apply Kd.S_drewN | apply Kd.S_drew)); exact Kd.S_mono HO_3.out (fun k_ hk => ⟨hk.1.2, fun e_ => hk.2 e_⟩))); (case aS => exact (below_size bG)); (case aL => have := LMc7.out; omega); intro v216 w13 ho hb hg hat; rw [← Ny215.out] at ho; have n0_ := Aside0.mk (blk_grown (g := gb208) (o := .cells #[.int .i64 ((rd_T35 l0 x8_1).f0), .slice A207_1 ((rd_T35 l0 x8_1).f1).length c207_1, .bool ((rd_T35 l0 x8_1).f2)] 35 (0, 0)) (kB BK208) hg (Kd.S_ne HO_3.out BK208.out (by decide))); have n1_ := Aside0.mk (Kd.R_over' (kR HO211) (Kd.S_typed (kS HO_3)) (by decide) hg); have n2_ := Aside0.mk (hb); have n3_ := Aside0.mk (ho); clear BK208; clear HO211; clear HB; clear HO_3; clear HO214; have BK208 := n0_; have HO211 := n1_; have HB := n2_; have HO217 := n3_; clear n0_ n1_ n2_ n3_; clear ho hb hg hat))
       go_roundg k1
       case measure => have := HK1.out; omega
       case rel => exact ⟨(y215), (wrap64 (x8_1 + 1)), sA, H', ⟨by have := HK1.out; omega⟩, ⟨by (with_reducible repeat (first | apply Kd.S_alloc | apply Kd.S_drewN | apply Kd.S_drew)); exact Kd.S_mono HO217.out (fun _ hk => trivial)⟩, ⟨bG⟩⟩
      ·rw [if_neg c7] at H
       exact absurd H (by simp)
     ·rw [if_neg c4] at H
      exact absurd H (by simp)
    ·rw [if_neg c3] at H
     exact absurd H (by simp)
   ·rw [if_neg c2] at H
    have c2b0 : decide (x8_1 < (l0.length : Int)) = false := decide_eq_false c2
    clear c2
    obtain rfl := Option.some.inj H
    go_wp2
    go_ret
    exact ⟨_, eW, kS HO_3, bA⟩

end Go.Proofs.YtdjepocklmlnbaaDoor.X
