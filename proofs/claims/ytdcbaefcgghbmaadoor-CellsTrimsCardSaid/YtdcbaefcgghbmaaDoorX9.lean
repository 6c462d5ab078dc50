-- Written by this session's xprint.py (a variant of the kit's printer). Not trusted: Lean checks it.
import Derived.Test.YtdcbaefcgghbmaaDoorX0
import Derived.Test.YtdcbaefcgghbmaaDoorHandA
import Derived.Test.YtdcbaefcgghbmaaDoorHandR
namespace Go.Proofs.YtdcbaefcgghbmaaDoor.X
open Go.Proofs.YtdcbaefcgghbmaaDoor.Hand
open Go.RowKit Go.Proofs.YtdcbaefcgghbmaaDoorW.PrintWords Go.Proofs.YtdcbaefcgghbmaaDoorW.PrintLast Go.Proofs.YtdcbaefcgghbmaaDoorW.PrintMore
attribute [local go_sem] max2_int min2_int max_two min_two max_three min_three max_four min_four   -- for this text's walks alone
set_option linter.unusedVariables false
set_option linter.unusedSimpArgs false

/-! ### cells_Blank: function 22 -/
def cells_Blank.f (a0 : Int) : Option ((List (S28))) := (repeat_G.f (([(⟨32, 0⟩ : S28)] : List (S28))) (mx 0 (mn a0 65535))).bind fun t239 => (some t239)
set_option maxHeartbeats 8000000 in
set_option maxRecDepth 100000 in
theorem cells_Blank.calls (a0 : Int) (r : List (S28)) (w : World) (hG : GOK [1] w) (h : cells_Blank.f a0 = some r) :
    Calls Tryd.prog 22 #[.int .i64 a0] w fun e w' => ∃ v0_ : Value, e = .returned (v0_) ∧ Kd.R k28 28 w' w.heap.size (fun _ => True) v0_ r ∧ Below w.heap.size w w' := by
  have hu28 := Tryd.underlying28
  have HG := Aside0.mk hG
  clear hG
  have HB := Aside0.mk (Below.refl w.heap.size w)
  have H : ((repeat_G.f (([(⟨32, 0⟩ : S28)] : List (S28))) (mx 0 (mn a0 65535))).bind fun t239 => (some t239)) = some r := h
  clear h
  obtain ⟨y236, hy236⟩ : ∃ y_ : List (S28), y_ = (([(⟨32, 0⟩ : S28)] : List (S28))) := ⟨_, rfl⟩
  replace H : ((repeat_G.f y236 (mx 0 (mn a0 65535))).bind fun t239 => (some t239)) = some r := by first | (rw [hy236]; with_reducible exact H) | (have H2_ := (Option.bind_some _ _).symm.trans H; rw [hy236]; with_reducible exact H2_) | (have H2_ := (Option.bind_some _ _).symm.trans H; with_reducible exact H2_) | with_reducible exact H | (rw [hy236]; exact H) | exact H
  have Ny236 := Aside0.mk hy236
  clear hy236
  obtain ⟨ji2, hji2⟩ : ∃ j_ : Int, (mn a0 65535) = j_ := ⟨_, rfl⟩
  replace H : ((repeat_G.f y236 (mx 0 (ji2))).bind fun t239 => (some t239)) = some r := by first | (rw [hji2] at H; exact H) | (simp only [hji2] at H ⊢; exact H)
  (try (have hji2h : ji2 ≤ 65535 := by (rw [← hji2]; unfold mn; (repeat' split) <;> omega)))
  (try (have hji2g : ji2 ≤ 64 := by omega))
  have hji2_ : (if 65535 < a0 then 65535 else a0) = ji2 := hji2
  obtain ⟨ji3, hji3⟩ : ∃ j_ : Int, (mx 0 (ji2)) = j_ := ⟨_, rfl⟩
  replace H : ((repeat_G.f y236 (ji3)).bind fun t239 => (some t239)) = some r := by first | (rw [hji3] at H; exact H) | (simp only [hji3] at H ⊢; exact H)
  have hji3_ : (if 0 < (ji2) then (ji2) else 0) = ji3 := hji3
  replace H := Option.bind_eq_some_iff.mp H
  obtain ⟨t239, A40, H⟩ := H
  replace H : (some t239) = some r := H
  have A4 := Aside0.mk A40
  clear A40
  obtain rfl := Option.some.inj H
  have hgl5 := blank_1 (HG.out) (by decide)
  have hgl6 := blank_0 (HG.out) (by decide)
  go_enter Tryd.func22, Tryd.ntmps22
  go_wp2_with (first | ((with_reducible refine gate_dst (N := 4) rfl ?_); refine Kd.R_lit k28 _ 28 ?hg (N := 4) ?hd (xs := ([(⟨32, 0⟩ : S28)] : List (S28))) (inner := [.int .i32 32, .int .u8 0]) (ok := fun _ => True) (okp := fun _ => True) ?hr ?hp (fun _ hk => hk) trivial (Below.refl _ _) (Nat.le_refl _) (by simp) ?_; (case hd => rfl); (case hg => rfl); (case hr => first | (go_simp; done) | (go_simp; rfl)); (case hp => exact (Reps.c2 (show Kd.M k28 _ _ _ (⟨32, 0⟩ : S28) [.int .i32 32, .int .u8 0] from (k28_mkM _ _ _ (⟨32, 0⟩ : S28) )) (Reps.none _ _))); intro v237 w7 ho8 hb hg_ hnew_; clear hg_ hnew_; (first | rw [← Ny236.out] at ho8 | (simp only [Int.reduceToNat] at ho8; rw [← Ny236.out] at ho8)); have n0_ := Aside0.mk (Kd.R_lower ho8 (below_size (by repeat (first | (with_reducible first | exact HB.out | apply below_alloc | apply pw_below_drewN | apply below_drew1) | exact HB.out)))); have n1_ := Aside0.mk (below_step (by repeat (first | (with_reducible first | exact HB.out | apply below_alloc | apply pw_below_drewN | apply below_drew1) | exact HB.out)) hb); clear HB; have HO238 := n0_; have HB := n1_; clear n0_ n1_; clear hb ho8; obtain ⟨Ao9, co9, eo9⟩ := Kd.R_slice HO238.out; subst eo9) | ((with_reducible refine gate_callee (f := 43) rfl ?_); refine goesL_ (some 8) rfl rfl Tryd.func43 (by kernel_rfl) rfl #[.slice Ao9 y236.length co9, .int .i64 ji3] rfl (by (try simp only [List.map_toArray, List.map_cons, List.map_nil]); first | done | (simp only [hji3]; rfl) | rfl | (simp only [List.length_drop, List.length_take]; rfl)) ?_; (with_reducible refine (repeat_G.calls _ _ y236 ji3 t239 _ ?side1 ?side2 A4.out).mono ?_); (case side1 => repeat (first | exact (Kd.R_reads' HO238.out).2.2 | (with_reducible refine Kd.C_alloc ?_ _) | (with_reducible refine Kd.C_drewN ?_ _) | (with_reducible refine Kd.C_drew ?_))); (case side2 => exact (Kd.R_reads' HO238.out).2.1); rintro e w10 ⟨v240, rfl, ho0, hb⟩; refine ⟨_, rfl, ?_⟩; have n0_ := Aside0.mk (Kd.R_elder' (by (with_reducible repeat (first | apply Kd.R_alloc | apply Kd.R_drewN | apply Kd.R_drew)); exact HO238.out) (Kd.R_base ho0) hb); have n1_ := Aside0.mk (Kd.R_lower (Kd.R_new' ho0 (Kd.R_lt (by (with_reducible repeat (first | apply Kd.R_alloc | apply Kd.R_drewN | apply Kd.R_drew)); exact HO238.out))) (below_size (by repeat (first | (with_reducible first | exact HB.out | apply below_alloc | apply pw_below_drewN | apply below_drew1) | exact HB.out)))); have n2_ := Aside0.mk (below_step (by repeat (first | (with_reducible first | exact HB.out | apply below_alloc | apply pw_below_drewN | apply below_drew1) | exact HB.out)) hb); clear HO238; clear HB; have HO238 := n0_; have HO241 := n1_; have HB := n2_; clear n0_ n1_ n2_; (try clear hb); (try clear hb2); (try clear hk); (try clear hi); (try clear ho0)))
  go_ret
  exact ⟨_, by first | rfl | (simp [errW_none, errW_some] <;> rfl) | (simp only [← hji2, ← hji3]; first | rfl | (simp [errW_none, errW_some] <;> rfl)) | (simp [*, errW_none, errW_some] <;> rfl), by (with_reducible repeat (first | apply Kd.R_alloc | apply Kd.R_drewN | apply Kd.R_drew)); exact Kd.R_mono HO241.out (fun _ hk => trivial), by repeat (first | (with_reducible first | exact HB.out | apply below_alloc | apply pw_below_drewN | apply below_drew1) | exact HB.out)⟩

end Go.Proofs.YtdcbaefcgghbmaaDoor.X
