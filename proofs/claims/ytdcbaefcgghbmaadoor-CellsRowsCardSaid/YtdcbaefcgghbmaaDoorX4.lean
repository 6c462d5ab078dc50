-- Written by this session's xprint.py (a variant of the kit's printer). Not trusted: Lean checks it.
import Derived.Test.YtdcbaefcgghbmaaDoorX0
import Derived.Test.YtdcbaefcgghbmaaDoorX2
import Derived.Test.YtdcbaefcgghbmaaDoorX3
import Derived.Test.YtdcbaefcgghbmaaDoorHandA
namespace Go.Proofs.YtdcbaefcgghbmaaDoor.X
open Go.Proofs.YtdcbaefcgghbmaaDoor.Hand
open Go.RowKit Go.Proofs.YtdcbaefcgghbmaaDoorW.PrintWords Go.Proofs.YtdcbaefcgghbmaaDoorW.PrintLast Go.Proofs.YtdcbaefcgghbmaaDoorW.PrintMore
attribute [local go_sem] max2_int min2_int max_two min_two max_three min_three max_four min_four   -- for this text's walks alone
set_option linter.unusedVariables false
set_option linter.unusedSimpArgs false

/-! ### flonglaw03_known: function 10 -/
def flonglaw03_known.f (k : Nat)  : Option (Bool) := (some (([(⟨97, 0⟩ : S28), (⟨19968, 0⟩ : S28), (⟨98, 0⟩ : S28)] : List (S28)) : List (S28))).bind fun y140 => ((cells_Cut.f k y140 2).bind fun bt143 => (if 1 ≤ (y140.length : Int) then ((flongref03_Same.f k bt143.1 (y140.take 1)).bind fun t153 => (if t153 = true then ((flongref03_Same.f k bt143.2 (y140.drop 1)).bind fun t158 => (if t158 = true then ((cells_Width.f k y140).bind fun t159 => (some (t159 == 4))) else (some false))) else (some false))) else (none)))
theorem flonglaw03_known.mono : ∀ k, LeO (flonglaw03_known.f k ) (flonglaw03_known.f (k + 1) ) := by
  intro  k
  unfold flonglaw03_known.f
  repeat' first
      | (with_reducible exact cells_Cut.mono _ _ _)
      | (with_reducible exact cells_Width.mono _ _)
      | (with_reducible exact flongref03_Same.mono _ _ _)
      | (with_reducible exact LeO.refl _)
      | (with_reducible exact LeO.none _)
      | (with_reducible refine LeO.ite ?_ ?_)
      | (with_reducible refine LeO.bind ?_ (fun _ => ?_))
      | exact cells_Cut.mono _ _ _
      | exact cells_Width.mono _ _
      | exact flongref03_Same.mono _ _ _
      | exact LeO.none _
      | refine LeO.ite ?_ ?_
      | refine LeO.bind ?_ (fun _ => ?_)
set_option maxHeartbeats 8000000 in
set_option maxRecDepth 100000 in
theorem flonglaw03_known.calls (k : Nat)  (r : Bool) (w : World) (hG : GOK [0] w) (h : flonglaw03_known.f k  = some r) :
    Calls Tryd.prog 10 #[] w fun e w' => e = .returned (.bool r) ∧ Below w.heap.size w w' := by
  have hu28 := Tryd.underlying28
  have HG := Aside0.mk hG
  clear hG
  have HB := Aside0.mk (Below.refl w.heap.size w)
  have H : ((some (([(⟨97, 0⟩ : S28), (⟨19968, 0⟩ : S28), (⟨98, 0⟩ : S28)] : List (S28)) : List (S28))).bind fun y140 => ((cells_Cut.f k y140 2).bind fun bt143 => (if 1 ≤ (y140.length : Int) then ((flongref03_Same.f k bt143.1 (y140.take 1)).bind fun t153 => (if t153 = true then ((flongref03_Same.f k bt143.2 (y140.drop 1)).bind fun t158 => (if t158 = true then ((cells_Width.f k y140).bind fun t159 => (some (t159 == 4))) else (some false))) else (some false))) else (none)))) = some r := h
  clear h
  obtain ⟨y140, hy140⟩ : ∃ y_ : List (S28), y_ = (([(⟨97, 0⟩ : S28), (⟨19968, 0⟩ : S28), (⟨98, 0⟩ : S28)] : List (S28))) := ⟨_, rfl⟩
  replace H : ((cells_Cut.f k y140 2).bind fun bt143 => (if 1 ≤ (y140.length : Int) then ((flongref03_Same.f k bt143.1 (y140.take 1)).bind fun t153 => (if t153 = true then ((flongref03_Same.f k bt143.2 (y140.drop 1)).bind fun t158 => (if t158 = true then ((cells_Width.f k y140).bind fun t159 => (some (t159 == 4))) else (some false))) else (some false))) else (none))) = some r := by first | (rw [hy140]; with_reducible exact H) | (have H2_ := (Option.bind_some _ _).symm.trans H; rw [hy140]; with_reducible exact H2_) | (have H2_ := (Option.bind_some _ _).symm.trans H; with_reducible exact H2_) | with_reducible exact H | (rw [hy140]; exact H) | exact H
  have Ny140 := Aside0.mk hy140
  clear hy140
  replace H := Option.bind_eq_some_iff.mp H
  obtain ⟨⟨t143, t144⟩, A10, H⟩ := H
  replace H : (if 1 ≤ (y140.length : Int) then ((flongref03_Same.f k t143 (y140.take 1)).bind fun t153 => (if t153 = true then ((flongref03_Same.f k t144 (y140.drop 1)).bind fun t158 => (if t158 = true then ((cells_Width.f k y140).bind fun t159 => (some (t159 == 4))) else (some false))) else (some false))) else (none)) = some r := H
  have A1 := Aside0.mk A10
  clear A10
  by_cases c2 : 1 ≤ (y140.length : Int)
  · rw [if_pos c2] at H
    have c2b0 := eq_true c2
    have c2b1 : decide (1 ≤ (y140.length : Int)) = true := decide_eq_true c2
    clear c2
    obtain ⟨y149, hy149⟩ : ∃ y_ : List (S28), y_ = (y140.take 1) := ⟨_, rfl⟩
    replace H : ((flongref03_Same.f k t143 y149).bind fun t153 => (if t153 = true then ((flongref03_Same.f k t144 (y140.drop 1)).bind fun t158 => (if t158 = true then ((cells_Width.f k y140).bind fun t159 => (some (t159 == 4))) else (some false))) else (some false))) = some r := by first | (rw [hy149]; with_reducible exact H) | (have H2_ := (Option.bind_some _ _).symm.trans H; rw [hy149]; with_reducible exact H2_) | (have H2_ := (Option.bind_some _ _).symm.trans H; with_reducible exact H2_) | with_reducible exact H | (rw [hy149]; exact H) | exact H
    have Ny149 := Aside0.mk hy149
    clear hy149
    replace H := Option.bind_eq_some_iff.mp H
    obtain ⟨t153, A30, H⟩ := H
    replace H : (if t153 = true then ((flongref03_Same.f k t144 (y140.drop 1)).bind fun t158 => (if t158 = true then ((cells_Width.f k y140).bind fun t159 => (some (t159 == 4))) else (some false))) else (some false)) = some r := H
    have A3 := Aside0.mk A30
    clear A30
    by_cases c4 : t153 = true
    · subst c4
      have H1 : ((flongref03_Same.f k t144 (y140.drop 1)).bind fun t158 => (if t158 = true then ((cells_Width.f k y140).bind fun t159 => (some (t159 == 4))) else (some false))) = some r := by rw [if_pos rfl] at H; exact H
      clear H
      have H := H1
      clear H1
      have c5b0 := eq_true (of_decide_eq_true (by first | (with_reducible assumption) | assumption) : 1 ≤ (y140.length : Int))
      obtain ⟨y154, hy154⟩ : ∃ y_ : List (S28), y_ = (y140.drop 1) := ⟨_, rfl⟩
      replace H : ((flongref03_Same.f k t144 y154).bind fun t158 => (if t158 = true then ((cells_Width.f k y140).bind fun t159 => (some (t159 == 4))) else (some false))) = some r := by first | (rw [hy154]; with_reducible exact H) | (have H2_ := (Option.bind_some _ _).symm.trans H; rw [hy154]; with_reducible exact H2_) | (have H2_ := (Option.bind_some _ _).symm.trans H; with_reducible exact H2_) | with_reducible exact H | (rw [hy154]; exact H) | exact H
      have Ny154 := Aside0.mk hy154
      clear hy154
      replace H := Option.bind_eq_some_iff.mp H
      obtain ⟨t158, A60, H⟩ := H
      replace H : (if t158 = true then ((cells_Width.f k y140).bind fun t159 => (some (t159 == 4))) else (some false)) = some r := H
      have A6 := Aside0.mk A60
      clear A60
      by_cases c7 : t158 = true
      · subst c7
        have H1 : ((cells_Width.f k y140).bind fun t159 => (some (t159 == 4))) = some r := by rw [if_pos rfl] at H; exact H
        clear H
        have H := H1
        clear H1
        replace H := Option.bind_eq_some_iff.mp H
        obtain ⟨t159, A80, H⟩ := H
        replace H : (some (t159 == 4)) = some r := H
        have A8 := Aside0.mk A80
        clear A80
        obtain rfl := Option.some.inj H
        go_enter Tryd.func10, Tryd.ntmps10
        go_wp2_with (first | ((with_reducible refine gate_dst (N := 7) rfl ?_); refine Kd.R_lit k28 _ 28 ?hg (N := 7) ?hd (xs := ([(⟨97, 0⟩ : S28), (⟨19968, 0⟩ : S28), (⟨98, 0⟩ : S28)] : List (S28))) (inner := [.int .i32 97, .int .u8 0, .int .i32 19968, .int .u8 0, .int .i32 98, .int .u8 0]) (ok := fun _ => True) (okp := fun _ => True) ?hr ?hp (fun _ hk => hk) trivial (Below.refl _ _) (Nat.le_refl _) (by simp) ?_; (case hd => rfl); (case hg => rfl); (case hr => first | (go_simp; done) | (go_simp; rfl)); (case hp => exact (Reps.c2 (show Kd.M k28 _ _ _ (⟨97, 0⟩ : S28) [.int .i32 97, .int .u8 0] from (k28_mkM _ _ _ (⟨97, 0⟩ : S28) )) (Reps.c2 (show Kd.M k28 _ _ _ (⟨19968, 0⟩ : S28) [.int .i32 19968, .int .u8 0] from (k28_mkM _ _ _ (⟨19968, 0⟩ : S28) )) (Reps.c2 (show Kd.M k28 _ _ _ (⟨98, 0⟩ : S28) [.int .i32 98, .int .u8 0] from (k28_mkM _ _ _ (⟨98, 0⟩ : S28) )) (Reps.none _ _))))); intro v141 w9 ho10 hb hg_ hnew_; clear hg_ hnew_; (first | rw [← Ny140.out] at ho10 | (simp only [Int.reduceToNat] at ho10; rw [← Ny140.out] at ho10)); have n0_ := Aside0.mk (Kd.R_lower ho10 (below_size (by repeat (first | (with_reducible first | exact HB.out | apply below_alloc | apply pw_below_drewN | apply below_drew1) | exact HB.out)))); have n1_ := Aside0.mk (below_step (by repeat (first | (with_reducible first | exact HB.out | apply below_alloc | apply pw_below_drewN | apply below_drew1) | exact HB.out)) hb); clear HB; have HO142 := n0_; have HB := n1_; clear n0_ n1_; clear hb ho10; obtain ⟨Ao11, co11, eo11⟩ := Kd.R_slice HO142.out; subst eo11) | ((with_reducible refine gate_callee (f := 17) rfl ?_); refine goesL_ (some 10) rfl rfl Tryd.func17 (by kernel_rfl) rfl #[.slice Ao11 y140.length co11, .int .i64 2] rfl (by (try simp only [List.map_toArray, List.map_cons, List.map_nil]); first | done | rfl | (simp only [List.length_drop, List.length_take]; rfl)) ?_; (with_reducible refine (cells_Cut.calls k _ _ y140 2 t143 t144 _ ?side1 ?side2 ?side3 A1.out).mono ?_); (case side1 => repeat (first | exact (Kd.R_reads' HO142.out).2.2 | (with_reducible refine Kd.C_alloc ?_ _) | (with_reducible refine Kd.C_drewN ?_ _) | (with_reducible refine Kd.C_drew ?_))); (case side2 => exact (Kd.R_reads' HO142.out).2.1); (case side3 => exact GOK.of_below (GOK.sub HG.out rfl) (by repeat (first | (with_reducible first | exact HB.out | apply below_alloc | apply pw_below_drewN | apply below_drew1) | exact HB.out))); rintro e w12 ⟨v145, v147, rfl, ho0, ho1, hb⟩; refine ⟨_, rfl, ?_⟩; have n0_ := Aside0.mk (Kd.R_mono (Kd.R_told (Kd.R_told (Kd.R_old (by (with_reducible repeat (first | apply Kd.R_alloc | apply Kd.R_drewN | apply Kd.R_drew)); exact HO142.out) hb) (Kd.R_base ho0)) (Kd.R_base ho1)) (fun _ h_ => h_.1)); have n1_ := Aside0.mk (Kd.R_lower (Kd.R_new' ho0 (Kd.R_lt (by (with_reducible repeat (first | apply Kd.R_alloc | apply Kd.R_drewN | apply Kd.R_drew)); exact HO142.out))) (below_size (by repeat (first | (with_reducible first | exact HB.out | apply below_alloc | apply pw_below_drewN | apply below_drew1) | exact HB.out)))); have n2_ := Aside0.mk (Kd.R_lower (Kd.R_new' ho1 (Kd.R_lt (by (with_reducible repeat (first | apply Kd.R_alloc | apply Kd.R_drewN | apply Kd.R_drew)); exact HO142.out))) (below_size (by repeat (first | (with_reducible first | exact HB.out | apply below_alloc | apply pw_below_drewN | apply below_drew1) | exact HB.out)))); have n3_ := Aside0.mk (below_step (by repeat (first | (with_reducible first | exact HB.out | apply below_alloc | apply pw_below_drewN | apply below_drew1) | exact HB.out)) hb); clear HO142; clear HB; have HO142 := n0_; have HO146 := n1_; have HO148 := n2_; have HB := n3_; clear n0_ n1_ n2_ n3_; (try clear hb); (try clear hb2); (try clear hk); (try clear hi); (try clear ho0); (try clear ho1); have q13 : (1 : Int) ≤ ((y140.length : Int) : Int) := of_decide_eq_true (by first | (with_reducible assumption) | assumption); obtain ⟨i013, hi013, _, hsz13, _⟩ := info_parts info28; have hroom13 : y140.length ≤ co11 := (Kd.R_reads' HO142.out).2.1; have hC13 : Kd.C k28 _ Ao11 y140.length y140 := (Kd.R_reads' HO142.out).2.2; have hcut13 := cut_to (P := Tryd.prog) 22 28 .i64 Tryd.underlying22 hi013 Ao11 y140.length co11 1 (by omega) q13 hroom13; have hr13 := Kd.C_take (m := 1) hC13 (by omega); have hy13 : y149.length = (1 : Int).toNat := (by rw [Ny149.out, List.length_take]; omega); rw [← Ny149.out] at hr13; rw [← hy13] at hcut13; have HR152 := Aside0.mk hr13; have HC152 := Aside0.mk (show y149.length ≤ co11 from by omega); clear hr13 hC13 hroom13 hi013 hsz13; have KY13 := Aside0.mk hy13; clear hy13; have KL13 := Aside0.mk (show 1 ≤ y140.length from by omega); replace q13 := eq_true q13; obtain ⟨Ao14, co14, eo14⟩ := Kd.R_slice HO146.out; subst eo14) | ((with_reducible refine gate_callee (f := 12) rfl ?_); refine goesL_ (some 16) rfl rfl Tryd.func12 (by kernel_rfl) rfl #[.slice Ao14 t143.length co14, .slice Ao11 y149.length co11] rfl (by (try simp only [List.map_toArray, List.map_cons, List.map_nil]); first | done | rfl | (simp only [List.length_drop, List.length_take]; rfl)) ?_; (with_reducible refine (flongref03_Same.calls k _ _ t143 _ _ y149 true _ ?side1 ?side2 ?side3 ?side4 A3.out).mono ?_); (case side1 => repeat (first | exact (Kd.R_reads' HO146.out).2.2 | (with_reducible refine Kd.C_alloc ?_ _) | (with_reducible refine Kd.C_drewN ?_ _) | (with_reducible refine Kd.C_drew ?_))); (case side2 => exact (Kd.R_reads' HO146.out).2.1); (case side3 => repeat (first | exact (by repeat (first | (with_reducible exact HR152.out) | (with_reducible refine Kd.C_alloc ?_ _) | (with_reducible refine Kd.C_drewN ?_ _) | (with_reducible refine Kd.C_drew ?_) | exact HR152.out)) | (with_reducible refine Kd.C_alloc ?_ _) | (with_reducible refine Kd.C_drewN ?_ _) | (with_reducible refine Kd.C_drew ?_))); (case side4 => exact HC152.out); rintro e w' ⟨rfl, ⟨nd, rfl⟩⟩; refine ⟨_, rfl, ?_⟩; have q15 : (1 : Int) ≤ ((y140.length : Int) : Int) := of_decide_eq_true (by first | (with_reducible assumption) | assumption); obtain ⟨i015, hi015, _, hsz15, _⟩ := info_parts info28; have hroom15 : y140.length ≤ co11 := (Kd.R_reads' HO142.out).2.1; have hC15 : Kd.C k28 _ Ao11 y140.length y140 := (Kd.R_reads' HO142.out).2.2; have hcut15 := cut_from (P := Tryd.prog) 22 28 .i64 Tryd.underlying22 hi015 2 hsz15 Ao11 y140.length co11 1 (by omega) q15; have hr15 := Kd.C_drop (m := (1 : Int).toNat) (c := co11) hC15 (by omega) hroom15; obtain ⟨A15, hA15⟩ : ∃ A1, A1 = (if co11 = (1 : Int).toNat then Ao11 else (Ao11 : Option Addr).map (·.add ((1 : Int).toNat * 2))) := ⟨_, rfl⟩; obtain ⟨c15, hc15⟩ : ∃ c1, c1 = co11 - (1 : Int).toNat := ⟨_, rfl⟩; have hy15 : y154.length = y140.length - (1 : Int).toNat := (by rw [Ny154.out, List.length_drop] <;> omega); rw [show (y140).drop (1 : Int).toNat = y154 from Ny154.out.symm] at hr15; replace hr15 : Kd.C k28 _ A15 y154.length y154 := (by rw [hA15]; exact hr15); rw [← hy15, ← hA15, ← hc15] at hcut15; have HR157 := Aside0.mk hr15; have HC157 := Aside0.mk (show y154.length ≤ c15 from by rw [hy15, hc15]; exact Nat.sub_le_sub_right hroom15 _); clear hr15 hC15 hroom15 hi015 hsz15 hc15; have KY15 := Aside0.mk hy15; have KA15 := Aside0.mk hA15; clear hy15 hA15; have KL15 := Aside0.mk (show 1 ≤ y140.length from by omega); replace q15 := eq_true q15; obtain ⟨Ao16, co16, eo16⟩ := Kd.R_slice HO148.out; subst eo16) | (go_at_call 12; (with_reducible refine (flongref03_Same.calls k _ _ t144 _ _ y154 true _ ?side1 ?side2 ?side3 ?side4 A6.out).mono ?_); (case side1 => repeat (first | exact (Kd.R_reads' HO148.out).2.2 | (with_reducible refine Kd.C_alloc ?_ _) | (with_reducible refine Kd.C_drewN ?_ _) | (with_reducible refine Kd.C_drew ?_))); (case side2 => exact (Kd.R_reads' HO148.out).2.1); (case side3 => repeat (first | exact (by repeat (first | (with_reducible exact HR157.out) | (with_reducible refine Kd.C_alloc ?_ _) | (with_reducible refine Kd.C_drewN ?_ _) | (with_reducible refine Kd.C_drew ?_) | exact HR157.out)) | (with_reducible refine Kd.C_alloc ?_ _) | (with_reducible refine Kd.C_drewN ?_ _) | (with_reducible refine Kd.C_drew ?_))); (case side4 => exact HC157.out); rintro e w' ⟨rfl, ⟨nd, rfl⟩⟩) | (go_at_call 19; (with_reducible refine (cells_Width.calls k _ _ y140 t159 _ ?side1 ?side2 ?side3 A8.out).mono ?_); (case side1 => repeat (first | exact (Kd.R_reads' HO142.out).2.2 | (with_reducible refine Kd.C_alloc ?_ _) | (with_reducible refine Kd.C_drewN ?_ _) | (with_reducible refine Kd.C_drew ?_))); (case side2 => exact (Kd.R_reads' HO142.out).2.1); (case side3 => exact GOK.of_below (GOK.sub HG.out rfl) (by repeat (first | (with_reducible first | exact HB.out | apply below_alloc | apply pw_below_drewN | apply below_drew1) | exact HB.out))); rintro e w17 ⟨rfl, hb⟩; have n0_ := Aside0.mk (Kd.R_below (by (with_reducible repeat (first | apply Kd.R_alloc | apply Kd.R_drewN | apply Kd.R_drew)); exact HO142.out) hb); have n1_ := Aside0.mk (Kd.R_below (by (with_reducible repeat (first | apply Kd.R_alloc | apply Kd.R_drewN | apply Kd.R_drew)); exact HO146.out) hb); have n2_ := Aside0.mk (Kd.R_below (by (with_reducible repeat (first | apply Kd.R_alloc | apply Kd.R_drewN | apply Kd.R_drew)); exact HO148.out) hb); have n3_ := Aside0.mk (Kd.C_below (by repeat (first | (with_reducible exact HR152.out) | (with_reducible refine Kd.C_alloc ?_ _) | (with_reducible refine Kd.C_drewN ?_ _) | (with_reducible refine Kd.C_drew ?_) | exact HR152.out)) hb); have n4_ := Aside0.mk (Kd.C_below (by repeat (first | (with_reducible exact HR157.out) | (with_reducible refine Kd.C_alloc ?_ _) | (with_reducible refine Kd.C_drewN ?_ _) | (with_reducible refine Kd.C_drew ?_) | exact HR157.out)) hb); have n5_ := Aside0.mk (below_step (by repeat (first | (with_reducible first | exact HB.out | apply below_alloc | apply pw_below_drewN | apply below_drew1) | exact HB.out)) hb); clear HO142; clear HO146; clear HO148; clear HR152; clear HR157; clear HB; have HO142 := n0_; have HO146 := n1_; have HO148 := n2_; have HR152 := n3_; have HR157 := n4_; have HB := n5_; clear n0_ n1_ n2_ n3_ n4_ n5_; (try clear hb); (try clear hb2); (try clear hk); (try clear hi)))
        go_ret
        exact ⟨by first | rfl | (simp [errW_none, errW_some] <;> rfl) | (simp [*, errW_none, errW_some] <;> rfl), by repeat (first | (with_reducible first | exact HB.out | apply below_alloc | apply pw_below_drewN | apply below_drew1) | exact HB.out)⟩
      · replace c7 := Bool.eq_false_iff.mpr c7
        subst c7
        have H1 : (some false) = some r := by rw [if_neg (show ¬ (false = true) by decide)] at H; exact H
        clear H
        have H := H1
        clear H1
        obtain rfl := Option.some.inj H
        go_enter Tryd.func10, Tryd.ntmps10
        go_wp2_with (first | ((with_reducible refine gate_dst (N := 7) rfl ?_); refine Kd.R_lit k28 _ 28 ?hg (N := 7) ?hd (xs := ([(⟨97, 0⟩ : S28), (⟨19968, 0⟩ : S28), (⟨98, 0⟩ : S28)] : List (S28))) (inner := [.int .i32 97, .int .u8 0, .int .i32 19968, .int .u8 0, .int .i32 98, .int .u8 0]) (ok := fun _ => True) (okp := fun _ => True) ?hr ?hp (fun _ hk => hk) trivial (Below.refl _ _) (Nat.le_refl _) (by simp) ?_; (case hd => rfl); (case hg => rfl); (case hr => first | (go_simp; done) | (go_simp; rfl)); (case hp => exact (Reps.c2 (show Kd.M k28 _ _ _ (⟨97, 0⟩ : S28) [.int .i32 97, .int .u8 0] from (k28_mkM _ _ _ (⟨97, 0⟩ : S28) )) (Reps.c2 (show Kd.M k28 _ _ _ (⟨19968, 0⟩ : S28) [.int .i32 19968, .int .u8 0] from (k28_mkM _ _ _ (⟨19968, 0⟩ : S28) )) (Reps.c2 (show Kd.M k28 _ _ _ (⟨98, 0⟩ : S28) [.int .i32 98, .int .u8 0] from (k28_mkM _ _ _ (⟨98, 0⟩ : S28) )) (Reps.none _ _))))); intro v141 w18 ho19 hb hg_ hnew_; clear hg_ hnew_; (first | rw [← Ny140.out] at ho19 | (simp only [Int.reduceToNat] at ho19; rw [← Ny140.out] at ho19)); have n0_ := Aside0.mk (Kd.R_lower ho19 (below_size (by repeat (first | (with_reducible first | exact HB.out | apply below_alloc | apply pw_below_drewN | apply below_drew1) | exact HB.out)))); have n1_ := Aside0.mk (below_step (by repeat (first | (with_reducible first | exact HB.out | apply below_alloc | apply pw_below_drewN | apply below_drew1) | exact HB.out)) hb); clear HB; have HO142 := n0_; have HB := n1_; clear n0_ n1_; clear hb ho19; obtain ⟨Ao20, co20, eo20⟩ := Kd.R_slice HO142.out; subst eo20) | ((with_reducible refine gate_callee (f := 17) rfl ?_); refine goesL_ (some 10) rfl rfl Tryd.func17 (by kernel_rfl) rfl #[.slice Ao20 y140.length co20, .int .i64 2] rfl (by (try simp only [List.map_toArray, List.map_cons, List.map_nil]); first | done | rfl | (simp only [List.length_drop, List.length_take]; rfl)) ?_; (with_reducible refine (cells_Cut.calls k _ _ y140 2 t143 t144 _ ?side1 ?side2 ?side3 A1.out).mono ?_); (case side1 => repeat (first | exact (Kd.R_reads' HO142.out).2.2 | (with_reducible refine Kd.C_alloc ?_ _) | (with_reducible refine Kd.C_drewN ?_ _) | (with_reducible refine Kd.C_drew ?_))); (case side2 => exact (Kd.R_reads' HO142.out).2.1); (case side3 => exact GOK.of_below (GOK.sub HG.out rfl) (by repeat (first | (with_reducible first | exact HB.out | apply below_alloc | apply pw_below_drewN | apply below_drew1) | exact HB.out))); rintro e w21 ⟨v145, v147, rfl, ho0, ho1, hb⟩; refine ⟨_, rfl, ?_⟩; have n0_ := Aside0.mk (Kd.R_mono (Kd.R_told (Kd.R_told (Kd.R_old (by (with_reducible repeat (first | apply Kd.R_alloc | apply Kd.R_drewN | apply Kd.R_drew)); exact HO142.out) hb) (Kd.R_base ho0)) (Kd.R_base ho1)) (fun _ h_ => h_.1)); have n1_ := Aside0.mk (Kd.R_lower (Kd.R_new' ho0 (Kd.R_lt (by (with_reducible repeat (first | apply Kd.R_alloc | apply Kd.R_drewN | apply Kd.R_drew)); exact HO142.out))) (below_size (by repeat (first | (with_reducible first | exact HB.out | apply below_alloc | apply pw_below_drewN | apply below_drew1) | exact HB.out)))); have n2_ := Aside0.mk (Kd.R_lower (Kd.R_new' ho1 (Kd.R_lt (by (with_reducible repeat (first | apply Kd.R_alloc | apply Kd.R_drewN | apply Kd.R_drew)); exact HO142.out))) (below_size (by repeat (first | (with_reducible first | exact HB.out | apply below_alloc | apply pw_below_drewN | apply below_drew1) | exact HB.out)))); have n3_ := Aside0.mk (below_step (by repeat (first | (with_reducible first | exact HB.out | apply below_alloc | apply pw_below_drewN | apply below_drew1) | exact HB.out)) hb); clear HO142; clear HB; have HO142 := n0_; have HO146 := n1_; have HO148 := n2_; have HB := n3_; clear n0_ n1_ n2_ n3_; (try clear hb); (try clear hb2); (try clear hk); (try clear hi); (try clear ho0); (try clear ho1); have q22 : (1 : Int) ≤ ((y140.length : Int) : Int) := of_decide_eq_true (by first | (with_reducible assumption) | assumption); obtain ⟨i022, hi022, _, hsz22, _⟩ := info_parts info28; have hroom22 : y140.length ≤ co20 := (Kd.R_reads' HO142.out).2.1; have hC22 : Kd.C k28 _ Ao20 y140.length y140 := (Kd.R_reads' HO142.out).2.2; have hcut22 := cut_to (P := Tryd.prog) 22 28 .i64 Tryd.underlying22 hi022 Ao20 y140.length co20 1 (by omega) q22 hroom22; have hr22 := Kd.C_take (m := 1) hC22 (by omega); have hy22 : y149.length = (1 : Int).toNat := (by rw [Ny149.out, List.length_take]; omega); rw [← Ny149.out] at hr22; rw [← hy22] at hcut22; have HR152 := Aside0.mk hr22; have HC152 := Aside0.mk (show y149.length ≤ co20 from by omega); clear hr22 hC22 hroom22 hi022 hsz22; have KY22 := Aside0.mk hy22; clear hy22; have KL22 := Aside0.mk (show 1 ≤ y140.length from by omega); replace q22 := eq_true q22; obtain ⟨Ao23, co23, eo23⟩ := Kd.R_slice HO146.out; subst eo23) | ((with_reducible refine gate_callee (f := 12) rfl ?_); refine goesL_ (some 16) rfl rfl Tryd.func12 (by kernel_rfl) rfl #[.slice Ao23 t143.length co23, .slice Ao20 y149.length co20] rfl (by (try simp only [List.map_toArray, List.map_cons, List.map_nil]); first | done | rfl | (simp only [List.length_drop, List.length_take]; rfl)) ?_; (with_reducible refine (flongref03_Same.calls k _ _ t143 _ _ y149 true _ ?side1 ?side2 ?side3 ?side4 A3.out).mono ?_); (case side1 => repeat (first | exact (Kd.R_reads' HO146.out).2.2 | (with_reducible refine Kd.C_alloc ?_ _) | (with_reducible refine Kd.C_drewN ?_ _) | (with_reducible refine Kd.C_drew ?_))); (case side2 => exact (Kd.R_reads' HO146.out).2.1); (case side3 => repeat (first | exact (by repeat (first | (with_reducible exact HR152.out) | (with_reducible refine Kd.C_alloc ?_ _) | (with_reducible refine Kd.C_drewN ?_ _) | (with_reducible refine Kd.C_drew ?_) | exact HR152.out)) | (with_reducible refine Kd.C_alloc ?_ _) | (with_reducible refine Kd.C_drewN ?_ _) | (with_reducible refine Kd.C_drew ?_))); (case side4 => exact HC152.out); rintro e w' ⟨rfl, ⟨nd, rfl⟩⟩; refine ⟨_, rfl, ?_⟩; have q24 : (1 : Int) ≤ ((y140.length : Int) : Int) := of_decide_eq_true (by first | (with_reducible assumption) | assumption); obtain ⟨i024, hi024, _, hsz24, _⟩ := info_parts info28; have hroom24 : y140.length ≤ co20 := (Kd.R_reads' HO142.out).2.1; have hC24 : Kd.C k28 _ Ao20 y140.length y140 := (Kd.R_reads' HO142.out).2.2; have hcut24 := cut_from (P := Tryd.prog) 22 28 .i64 Tryd.underlying22 hi024 2 hsz24 Ao20 y140.length co20 1 (by omega) q24; have hr24 := Kd.C_drop (m := (1 : Int).toNat) (c := co20) hC24 (by omega) hroom24; obtain ⟨A24, hA24⟩ : ∃ A1, A1 = (if co20 = (1 : Int).toNat then Ao20 else (Ao20 : Option Addr).map (·.add ((1 : Int).toNat * 2))) := ⟨_, rfl⟩; obtain ⟨c24, hc24⟩ : ∃ c1, c1 = co20 - (1 : Int).toNat := ⟨_, rfl⟩; have hy24 : y154.length = y140.length - (1 : Int).toNat := (by rw [Ny154.out, List.length_drop] <;> omega); rw [show (y140).drop (1 : Int).toNat = y154 from Ny154.out.symm] at hr24; replace hr24 : Kd.C k28 _ A24 y154.length y154 := (by rw [hA24]; exact hr24); rw [← hy24, ← hA24, ← hc24] at hcut24; have HR157 := Aside0.mk hr24; have HC157 := Aside0.mk (show y154.length ≤ c24 from by rw [hy24, hc24]; exact Nat.sub_le_sub_right hroom24 _); clear hr24 hC24 hroom24 hi024 hsz24 hc24; have KY24 := Aside0.mk hy24; have KA24 := Aside0.mk hA24; clear hy24 hA24; have KL24 := Aside0.mk (show 1 ≤ y140.length from by omega); replace q24 := eq_true q24; obtain ⟨Ao25, co25, eo25⟩ := Kd.R_slice HO148.out; subst eo25) | (go_at_call 12; (with_reducible refine (flongref03_Same.calls k _ _ t144 _ _ y154 false _ ?side1 ?side2 ?side3 ?side4 A6.out).mono ?_); (case side1 => repeat (first | exact (Kd.R_reads' HO148.out).2.2 | (with_reducible refine Kd.C_alloc ?_ _) | (with_reducible refine Kd.C_drewN ?_ _) | (with_reducible refine Kd.C_drew ?_))); (case side2 => exact (Kd.R_reads' HO148.out).2.1); (case side3 => repeat (first | exact (by repeat (first | (with_reducible exact HR157.out) | (with_reducible refine Kd.C_alloc ?_ _) | (with_reducible refine Kd.C_drewN ?_ _) | (with_reducible refine Kd.C_drew ?_) | exact HR157.out)) | (with_reducible refine Kd.C_alloc ?_ _) | (with_reducible refine Kd.C_drewN ?_ _) | (with_reducible refine Kd.C_drew ?_))); (case side4 => exact HC157.out); rintro e w' ⟨rfl, ⟨nd, rfl⟩⟩))
        go_ret
        exact ⟨by first | rfl | (simp [errW_none, errW_some] <;> rfl) | (simp [*, errW_none, errW_some] <;> rfl), by repeat (first | (with_reducible first | exact HB.out | apply below_alloc | apply pw_below_drewN | apply below_drew1) | exact HB.out)⟩
    · replace c4 := Bool.eq_false_iff.mpr c4
      subst c4
      have H1 : (some false) = some r := by rw [if_neg (show ¬ (false = true) by decide)] at H; exact H
      clear H
      have H := H1
      clear H1
      obtain rfl := Option.some.inj H
      go_enter Tryd.func10, Tryd.ntmps10
      go_wp2_with (first | ((with_reducible refine gate_dst (N := 7) rfl ?_); refine Kd.R_lit k28 _ 28 ?hg (N := 7) ?hd (xs := ([(⟨97, 0⟩ : S28), (⟨19968, 0⟩ : S28), (⟨98, 0⟩ : S28)] : List (S28))) (inner := [.int .i32 97, .int .u8 0, .int .i32 19968, .int .u8 0, .int .i32 98, .int .u8 0]) (ok := fun _ => True) (okp := fun _ => True) ?hr ?hp (fun _ hk => hk) trivial (Below.refl _ _) (Nat.le_refl _) (by simp) ?_; (case hd => rfl); (case hg => rfl); (case hr => first | (go_simp; done) | (go_simp; rfl)); (case hp => exact (Reps.c2 (show Kd.M k28 _ _ _ (⟨97, 0⟩ : S28) [.int .i32 97, .int .u8 0] from (k28_mkM _ _ _ (⟨97, 0⟩ : S28) )) (Reps.c2 (show Kd.M k28 _ _ _ (⟨19968, 0⟩ : S28) [.int .i32 19968, .int .u8 0] from (k28_mkM _ _ _ (⟨19968, 0⟩ : S28) )) (Reps.c2 (show Kd.M k28 _ _ _ (⟨98, 0⟩ : S28) [.int .i32 98, .int .u8 0] from (k28_mkM _ _ _ (⟨98, 0⟩ : S28) )) (Reps.none _ _))))); intro v141 w26 ho27 hb hg_ hnew_; clear hg_ hnew_; (first | rw [← Ny140.out] at ho27 | (simp only [Int.reduceToNat] at ho27; rw [← Ny140.out] at ho27)); have n0_ := Aside0.mk (Kd.R_lower ho27 (below_size (by repeat (first | (with_reducible first | exact HB.out | apply below_alloc | apply pw_below_drewN | apply below_drew1) | exact HB.out)))); have n1_ := Aside0.mk (below_step (by repeat (first | (with_reducible first | exact HB.out | apply below_alloc | apply pw_below_drewN | apply below_drew1) | exact HB.out)) hb); clear HB; have HO142 := n0_; have HB := n1_; clear n0_ n1_; clear hb ho27; obtain ⟨Ao28, co28, eo28⟩ := Kd.R_slice HO142.out; subst eo28) | ((with_reducible refine gate_callee (f := 17) rfl ?_); refine goesL_ (some 10) rfl rfl Tryd.func17 (by kernel_rfl) rfl #[.slice Ao28 y140.length co28, .int .i64 2] rfl (by (try simp only [List.map_toArray, List.map_cons, List.map_nil]); first | done | rfl | (simp only [List.length_drop, List.length_take]; rfl)) ?_; (with_reducible refine (cells_Cut.calls k _ _ y140 2 t143 t144 _ ?side1 ?side2 ?side3 A1.out).mono ?_); (case side1 => repeat (first | exact (Kd.R_reads' HO142.out).2.2 | (with_reducible refine Kd.C_alloc ?_ _) | (with_reducible refine Kd.C_drewN ?_ _) | (with_reducible refine Kd.C_drew ?_))); (case side2 => exact (Kd.R_reads' HO142.out).2.1); (case side3 => exact GOK.of_below (GOK.sub HG.out rfl) (by repeat (first | (with_reducible first | exact HB.out | apply below_alloc | apply pw_below_drewN | apply below_drew1) | exact HB.out))); rintro e w29 ⟨v145, v147, rfl, ho0, ho1, hb⟩; refine ⟨_, rfl, ?_⟩; have n0_ := Aside0.mk (Kd.R_mono (Kd.R_told (Kd.R_told (Kd.R_old (by (with_reducible repeat (first | apply Kd.R_alloc | apply Kd.R_drewN | apply Kd.R_drew)); exact HO142.out) hb) (Kd.R_base ho0)) (Kd.R_base ho1)) (fun _ h_ => h_.1)); have n1_ := Aside0.mk (Kd.R_lower (Kd.R_new' ho0 (Kd.R_lt (by (with_reducible repeat (first | apply Kd.R_alloc | apply Kd.R_drewN | apply Kd.R_drew)); exact HO142.out))) (below_size (by repeat (first | (with_reducible first | exact HB.out | apply below_alloc | apply pw_below_drewN | apply below_drew1) | exact HB.out)))); have n2_ := Aside0.mk (Kd.R_lower (Kd.R_new' ho1 (Kd.R_lt (by (with_reducible repeat (first | apply Kd.R_alloc | apply Kd.R_drewN | apply Kd.R_drew)); exact HO142.out))) (below_size (by repeat (first | (with_reducible first | exact HB.out | apply below_alloc | apply pw_below_drewN | apply below_drew1) | exact HB.out)))); have n3_ := Aside0.mk (below_step (by repeat (first | (with_reducible first | exact HB.out | apply below_alloc | apply pw_below_drewN | apply below_drew1) | exact HB.out)) hb); clear HO142; clear HB; have HO142 := n0_; have HO146 := n1_; have HO148 := n2_; have HB := n3_; clear n0_ n1_ n2_ n3_; (try clear hb); (try clear hb2); (try clear hk); (try clear hi); (try clear ho0); (try clear ho1); have q30 : (1 : Int) ≤ ((y140.length : Int) : Int) := of_decide_eq_true (by first | (with_reducible assumption) | assumption); obtain ⟨i030, hi030, _, hsz30, _⟩ := info_parts info28; have hroom30 : y140.length ≤ co28 := (Kd.R_reads' HO142.out).2.1; have hC30 : Kd.C k28 _ Ao28 y140.length y140 := (Kd.R_reads' HO142.out).2.2; have hcut30 := cut_to (P := Tryd.prog) 22 28 .i64 Tryd.underlying22 hi030 Ao28 y140.length co28 1 (by omega) q30 hroom30; have hr30 := Kd.C_take (m := 1) hC30 (by omega); have hy30 : y149.length = (1 : Int).toNat := (by rw [Ny149.out, List.length_take]; omega); rw [← Ny149.out] at hr30; rw [← hy30] at hcut30; have HR152 := Aside0.mk hr30; have HC152 := Aside0.mk (show y149.length ≤ co28 from by omega); clear hr30 hC30 hroom30 hi030 hsz30; have KY30 := Aside0.mk hy30; clear hy30; have KL30 := Aside0.mk (show 1 ≤ y140.length from by omega); replace q30 := eq_true q30; obtain ⟨Ao31, co31, eo31⟩ := Kd.R_slice HO146.out; subst eo31) | ((with_reducible refine gate_callee (f := 12) rfl ?_); refine goesL_ (some 16) rfl rfl Tryd.func12 (by kernel_rfl) rfl #[.slice Ao31 t143.length co31, .slice Ao28 y149.length co28] rfl (by (try simp only [List.map_toArray, List.map_cons, List.map_nil]); first | done | rfl | (simp only [List.length_drop, List.length_take]; rfl)) ?_; (with_reducible refine (flongref03_Same.calls k _ _ t143 _ _ y149 false _ ?side1 ?side2 ?side3 ?side4 A3.out).mono ?_); (case side1 => repeat (first | exact (Kd.R_reads' HO146.out).2.2 | (with_reducible refine Kd.C_alloc ?_ _) | (with_reducible refine Kd.C_drewN ?_ _) | (with_reducible refine Kd.C_drew ?_))); (case side2 => exact (Kd.R_reads' HO146.out).2.1); (case side3 => repeat (first | exact (by repeat (first | (with_reducible exact HR152.out) | (with_reducible refine Kd.C_alloc ?_ _) | (with_reducible refine Kd.C_drewN ?_ _) | (with_reducible refine Kd.C_drew ?_) | exact HR152.out)) | (with_reducible refine Kd.C_alloc ?_ _) | (with_reducible refine Kd.C_drewN ?_ _) | (with_reducible refine Kd.C_drew ?_))); (case side4 => exact HC152.out); rintro e w' ⟨rfl, ⟨nd, rfl⟩⟩; refine ⟨_, rfl, ?_⟩))
      go_ret
      exact ⟨by first | rfl | (simp [errW_none, errW_some] <;> rfl) | (simp [*, errW_none, errW_some] <;> rfl), by repeat (first | (with_reducible first | exact HB.out | apply below_alloc | apply pw_below_drewN | apply below_drew1) | exact HB.out)⟩
  · rw [if_neg c2] at H
    exact absurd H (by simp)

/-! ### runes_Safe: function 34 -/
def runes_Safe.f (k : Nat) (a0 : Int) : Option (Int) := (runes_Valid.f a0).bind fun t160 => (if t160 = true then ((runes_Control.f k a0).bind fun t161 => (if t161 = true then (some 65533) else (some a0))) else (some 65533))
theorem runes_Safe.mono : ∀ a0 k, LeO (runes_Safe.f k a0) (runes_Safe.f (k + 1) a0) := by
  intro a0 k
  unfold runes_Safe.f
  repeat' first
      | (with_reducible exact runes_Control.mono _ _)
      | (with_reducible exact LeO.refl _)
      | (with_reducible exact LeO.none _)
      | (with_reducible refine LeO.ite ?_ ?_)
      | (with_reducible refine LeO.bind ?_ (fun _ => ?_))
      | exact runes_Control.mono _ _
      | exact LeO.none _
      | refine LeO.ite ?_ ?_
      | refine LeO.bind ?_ (fun _ => ?_)
set_option maxHeartbeats 8000000 in
set_option maxRecDepth 100000 in
theorem runes_Safe.calls (k : Nat) (a0 : Int) (r : Int) (w : World) (h : runes_Safe.f k a0 = some r) :
    Calls Tryd.prog 34 #[.int .i32 a0] w fun e w' => e = .returned (.int .i32 r) ∧ Drawn0 w w' := by
  have H : ((runes_Valid.f a0).bind fun t160 => (if t160 = true then ((runes_Control.f k a0).bind fun t161 => (if t161 = true then (some 65533) else (some a0))) else (some 65533))) = some r := h
  clear h
  replace H := Option.bind_eq_some_iff.mp H
  obtain ⟨t160, A20, H⟩ := H
  replace H : (if t160 = true then ((runes_Control.f k a0).bind fun t161 => (if t161 = true then (some 65533) else (some a0))) else (some 65533)) = some r := H
  have A2 := Aside0.mk A20
  clear A20
  by_cases c3 : t160 = true
  · subst c3
    have H1 : ((runes_Control.f k a0).bind fun t161 => (if t161 = true then (some 65533) else (some a0))) = some r := by rw [if_pos rfl] at H; exact H
    clear H
    have H := H1
    clear H1
    replace H := Option.bind_eq_some_iff.mp H
    obtain ⟨t161, A40, H⟩ := H
    replace H : (if t161 = true then (some 65533) else (some a0)) = some r := H
    have A4 := Aside0.mk A40
    clear A40
    by_cases c5 : t161 = true
    · subst c5
      have H1 : (some 65533) = some r := by rw [if_pos rfl] at H; exact H
      clear H
      have H := H1
      clear H1
      obtain rfl := Option.some.inj H
      go_enter Tryd.func34, Tryd.ntmps34
      go_wp2_with (first | ((with_reducible refine gate_callee (f := 49) rfl ?_); refine goesL_ (some 4) rfl rfl Tryd.func49 (by kernel_rfl) rfl #[.int .i32 a0] rfl (by (try simp only [List.map_toArray, List.map_cons, List.map_nil]); first | done | rfl | (simp only [List.length_drop, List.length_take]; rfl)) ?_; (with_reducible refine (runes_Valid.calls a0 true _ A2.out).mono ?_); rintro e w' ⟨rfl, ⟨nd, rfl⟩⟩; refine ⟨_, rfl, ?_⟩) | (go_at_call 50; (with_reducible refine (runes_Control.calls k a0 true _ A4.out).mono ?_); rintro e w' ⟨rfl, ⟨nd, rfl⟩⟩))
      go_ret
      exact ⟨by first | rfl | (simp; done) | (simp [*]; done), by repeat (first | exact Drawn0.refl _ | apply Drawn0.step)⟩
    · replace c5 := Bool.eq_false_iff.mpr c5
      subst c5
      have H1 : (some a0) = some r := by rw [if_neg (show ¬ (false = true) by decide)] at H; exact H
      clear H
      have H := H1
      clear H1
      obtain rfl := Option.some.inj H
      go_enter Tryd.func34, Tryd.ntmps34
      go_wp2_with (first | ((with_reducible refine gate_callee (f := 49) rfl ?_); refine goesL_ (some 4) rfl rfl Tryd.func49 (by kernel_rfl) rfl #[.int .i32 a0] rfl (by (try simp only [List.map_toArray, List.map_cons, List.map_nil]); first | done | rfl | (simp only [List.length_drop, List.length_take]; rfl)) ?_; (with_reducible refine (runes_Valid.calls a0 true _ A2.out).mono ?_); rintro e w' ⟨rfl, ⟨nd, rfl⟩⟩; refine ⟨_, rfl, ?_⟩) | (go_at_call 50; (with_reducible refine (runes_Control.calls k a0 false _ A4.out).mono ?_); rintro e w' ⟨rfl, ⟨nd, rfl⟩⟩))
      go_ret
      exact ⟨by first | rfl | (simp; done) | (simp [*]; done), by repeat (first | exact Drawn0.refl _ | apply Drawn0.step)⟩
  · replace c3 := Bool.eq_false_iff.mpr c3
    subst c3
    have H1 : (some 65533) = some r := by rw [if_neg (show ¬ (false = true) by decide)] at H; exact H
    clear H
    have H := H1
    clear H1
    obtain rfl := Option.some.inj H
    go_enter Tryd.func34, Tryd.ntmps34
    go_wp2_with (first | ((with_reducible refine gate_callee (f := 49) rfl ?_); refine goesL_ (some 4) rfl rfl Tryd.func49 (by kernel_rfl) rfl #[.int .i32 a0] rfl (by (try simp only [List.map_toArray, List.map_cons, List.map_nil]); first | done | rfl | (simp only [List.length_drop, List.length_take]; rfl)) ?_; (with_reducible refine (runes_Valid.calls a0 false _ A2.out).mono ?_); rintro e w' ⟨rfl, ⟨nd, rfl⟩⟩; refine ⟨_, rfl, ?_⟩))
    go_ret
    exact ⟨by first | rfl | (simp; done) | (simp [*]; done), by repeat (first | exact Drawn0.refl _ | apply Drawn0.step)⟩

/-! ### cells_Clean: function 11 -/
mutual
def cells_Clean.l0 : Nat → List (S28) → List (S28) → Int → Int → Option ((List (S28)))
  | 0, _, _, _, _ => none
  | k + 1, x3, x6, x7, x8 => if x8 < x7 then (if 0 ≤ x8 then (if x8 < (x6.length : Int) then (if ((rd_T28 x6 x8).f0) = 160 then (cells_Clean.j1 k x3 x6 x7 x8 32 ((rd_T28 x6 x8).f1)) else (cells_Clean.j1 k x3 x6 x7 x8 ((rd_T28 x6 x8).f0) ((rd_T28 x6 x8).f1))) else (none)) else (none)) else (some x3)
def cells_Clean.j1 : Nat → List (S28) → List (S28) → Int → Int → Int → Int → Option ((List (S28)))
  | 0, _, _, _, _, _, _ => none
  | k + 1, x3, x6, x7, x8, x164000, x164001 => (runes_Safe.f k x164000).bind fun t164 => (if (x3.length : Int) > 0 then (if x3.length < 17592186044416 then (cells_Clean.l0 k (x3 ++ [(⟨t164, Go.bits .and .u8 x164001 3⟩ : S28)]) x6 x7 (wrap64 (x8 + 1))) else (none)) else ((runes_Width.f t164).bind fun t168 => (if t168 > 0 then (if x3.length < 17592186044416 then (cells_Clean.l0 k (x3 ++ [(⟨t164, Go.bits .and .u8 x164001 3⟩ : S28)]) x6 x7 (wrap64 (x8 + 1))) else (none)) else (cells_Clean.l0 k x3 x6 x7 (wrap64 (x8 + 1))))))
end
def cells_Clean.f (k : Nat) (l0 : List (S28)) : Option ((List (S28))) := cells_Clean.l0 k ([] : List (S28)) l0 (l0.length : Int) 0
theorem cells_Clean.mono_l : ∀ k, (∀ y0 y1 y2 y3, LeO (cells_Clean.l0 k y0 y1 y2 y3) (cells_Clean.l0 (k + 1) y0 y1 y2 y3)) ∧ (∀ y0 y1 y2 y3 y4 y5, LeO (cells_Clean.j1 k y0 y1 y2 y3 y4 y5) (cells_Clean.j1 (k + 1) y0 y1 y2 y3 y4 y5))
  | 0 => ⟨fun _ _ _ _ r h => by simp [cells_Clean.l0] at h, fun _ _ _ _ _ _ r h => by simp [cells_Clean.j1] at h⟩
  | k + 1 => by
    obtain ⟨ih0, ih1⟩ := cells_Clean.mono_l k
    refine ⟨?_, ?_⟩
    · intro y0 y1 y2 y3
      unfold cells_Clean.l0
      repeat' first
      | (with_reducible exact ih0 _ _ _ _)
      | (with_reducible exact ih1 _ _ _ _ _ _)
      | (with_reducible exact runes_Safe.mono _ _)
      | (with_reducible exact LeO.refl _)
      | (with_reducible exact LeO.none _)
      | (with_reducible refine LeO.ite ?_ ?_)
      | (with_reducible refine LeO.bind ?_ (fun _ => ?_))
      | exact ih0 _ _ _ _
      | exact ih1 _ _ _ _ _ _
      | exact runes_Safe.mono _ _
      | exact LeO.none _
      | refine LeO.ite ?_ ?_
      | refine LeO.bind ?_ (fun _ => ?_)
    · intro y0 y1 y2 y3 y4 y5
      unfold cells_Clean.j1
      repeat' first
      | (with_reducible exact ih0 _ _ _ _)
      | (with_reducible exact ih1 _ _ _ _ _ _)
      | (with_reducible exact runes_Safe.mono _ _)
      | (with_reducible exact LeO.refl _)
      | (with_reducible exact LeO.none _)
      | (with_reducible refine LeO.ite ?_ ?_)
      | (with_reducible refine LeO.bind ?_ (fun _ => ?_))
      | exact ih0 _ _ _ _
      | exact ih1 _ _ _ _ _ _
      | exact runes_Safe.mono _ _
      | exact LeO.none _
      | refine LeO.ite ?_ ?_
      | refine LeO.bind ?_ (fun _ => ?_)
theorem cells_Clean.mono : ∀ a0 k, LeO (cells_Clean.f k a0) (cells_Clean.f (k + 1) a0) := by
  intro a0 k
  obtain ⟨ih0, ih1⟩ := cells_Clean.mono_l k
  unfold cells_Clean.f
  repeat' first
      | (with_reducible exact ih0 _ _ _ _)
      | (with_reducible exact ih1 _ _ _ _ _ _)
      | (with_reducible exact runes_Safe.mono _ _)
      | (with_reducible exact LeO.refl _)
      | (with_reducible exact LeO.none _)
      | (with_reducible refine LeO.ite ?_ ?_)
      | (with_reducible refine LeO.bind ?_ (fun _ => ?_))
      | exact ih0 _ _ _ _
      | exact ih1 _ _ _ _ _ _
      | exact runes_Safe.mono _ _
      | exact LeO.none _
      | refine LeO.ite ?_ ?_
      | refine LeO.bind ?_ (fun _ => ?_)
set_option maxHeartbeats 8000000 in
set_option maxRecDepth 100000 in
theorem cells_Clean.calls (k : Nat) (A0 : Option Addr) (c0 : Nat) (l0 : List (S28)) (r : List (S28)) (w : World) (hr0 : Kd.C k28 w A0 l0.length l0) (hc0 : l0.length ≤ c0) (hG : GOK [0] w) (h : cells_Clean.f k l0 = some r) :
    Calls Tryd.prog 11 #[.slice A0 l0.length c0] w fun e w' => ∃ v0_ : Value, e = .returned (v0_) ∧ Kd.R k28 28 w' w.heap.size (fun _ => True) v0_ r ∧ Below w.heap.size w w' := by
  have hu28 := Tryd.underlying28
  have HG := Aside0.mk hG
  clear hG
  have HR0 := Aside0.mk hr0
  have HC0 := Aside0.mk hc0
  clear hr0 hc0
  have HB := Aside0.mk (Below.refl w.heap.size w)
  have H : (cells_Clean.l0 k ([] : List (S28)) l0 (l0.length : Int) 0) = some r := h
  clear h
  have H' := Aside0.mk H
  clear H
  go_enter Tryd.func11, Tryd.ntmps11
  go_wp2
  go_loopg [3, 8] k (fun kq v3 v8 w' => ∃ (x3_1 : List (S28)) (x8_1 : Int), v8 = .int .i64 x8_1 ∧ Aside0 (cells_Clean.l0 kq x3_1 l0 (l0.length : Int) x8_1 = some r) ∧ Aside0 (kq ≤ k) ∧ Aside0 (Kd.R k28 28 w' w.heap.size (fun _ => True) v3 x3_1) ∧ Aside0 (Below w.heap.size w w'))
  case atStart => exact ⟨(([] : List (S28))), (0), (by first | rfl | (simp; done) | (simp [*]; done)), H', ⟨Nat.le_refl _⟩, ⟨by first | exact Kd.R_nil _ _ _ _ _ | exact Kd.N_nil _ _ _ _ _ | exact Kd.V_nil _ _ _ _ _ | exact Kd.Q_nil _ _ _ _ _ | exact Kd.S_nil _ _ _ _ _⟩, ⟨by repeat (first | (with_reducible first | exact HB.out | apply below_alloc | apply pw_below_drewN | apply below_drew1) | exact HB.out)⟩⟩
  case round =>
    clear H'
    try clear c1
    obtain ⟨x3_1, x8_1, rfl, HA, HK1, HO_3, HB⟩ := hrel
    cases gk with
    | zero => exact absurd HA.out (by simp [cells_Clean.l0])
    | succ k1 =>
      have H := HA.out
      clear HA
      simp only [cells_Clean.l0] at H
      by_cases c2 : x8_1 < (l0.length : Int)
      · rw [if_pos c2] at H
        have c2b0 : decide (x8_1 < (l0.length : Int)) = true := decide_eq_true c2
        clear c2
        by_cases c3 : 0 ≤ x8_1
        · rw [if_pos c3] at H
          have c3b0 : decide (0 ≤ x8_1) = true := decide_eq_true c3
          clear c3
          by_cases c4 : x8_1 < (l0.length : Int)
          · rw [if_pos c4] at H
            have c4b0 : decide (x8_1 < (l0.length : Int)) = true := decide_eq_true c4
            clear c4
            have HC5 := Aside0.mk H
            clear H
            have p162 : 0 ≤ (x8_1 : Int) := of_decide_eq_true (by first | (with_reducible assumption) | assumption)
            have q162 : x8_1 < (l0.length : Int) := of_decide_eq_true (by first | (with_reducible assumption) | assumption)
            obtain ⟨ad162, e162, hx162_0, hx162_1⟩ := at_T28 HR0.out x8_1 p162 q162
            cases e162
            replace hx162_0 := (HB.out.cell (World.block_lt_of_cell? w _ hx162_0)).trans hx162_0
            replace hx162_1 := (HB.out.cell (World.block_lt_of_cell? w _ hx162_1)).trans hx162_1
            replace p162 := eq_true p162
            replace q162 := eq_true q162
            go_upto_if 14 with (first | ((with_reducible refine gate_dst (N := 5) rfl ?_); refine box_event ?hg (N := 5) ?hd (cs := #[.int .i32 0, .int .u8 0]) (t := 28) ?hr ?_; (case hd => rfl); (case hg => rfl); (case hr => first | (go_simp; done) | (go_simp; rfl)); intro gb163 hg w6 hbox hb; have n0_ := Aside0.mk (Kd.R_below (Kd.R_elderB (by (with_reducible repeat (first | apply Kd.R_alloc | apply Kd.R_drewN | apply Kd.R_drew)); exact HO_3.out) gb163 (Nat.le_of_eq hg.symm)) hb); have n1_ := Aside0.mk (below_step (by repeat (first | (with_reducible first | exact HB.out | apply below_alloc | apply pw_below_drewN | apply below_drew1) | exact HB.out)) hb); have n2_ := Aside0.mk (hbox); have n3_ := Aside0.mk ((by rw [hg]; exact (below_size (by repeat (first | (with_reducible first | exact HB.out | apply below_alloc | apply pw_below_drewN | apply below_drew1) | exact HB.out))) : w.heap.size ≤ gb163)); have n4_ := Aside0.mk ((by rw [hg]; exact (below_size (by repeat (first | (with_reducible first | exact HB.out | apply below_alloc | apply pw_below_drewN | apply below_drew1) | exact HB.out))) : w.heap.size ≤ gb163)); clear HO_3; clear HB; have HO_3 := n0_; have HB := n1_; have BK163 := n2_; have GW163 := n3_; have GE163 := n4_; clear n0_ n1_ n2_ n3_ n4_; clear hb hbox hg; have hcz7_0 : w6.cell? ⟨gb163, 0, none⟩ = some (.int .i32 0) := (blk_cell BK163.out 0).trans rfl; have hcz7_1 : w6.cell? ⟨gb163, 1, none⟩ = some (.int .u8 0) := (blk_cell BK163.out 1).trans rfl; have hfz7_0 := blk_frozen BK163.out 0; have hfz7_1 := blk_frozen BK163.out 1))
            (try simp only [Act.put, List.setIfInBounds_toArray, List.set_cons_zero, List.set_cons_succ])
            go_cut [] (fun wc => ∃ (kq : Nat) (x164000_4 : Int), Aside0 (cells_Clean.j1 kq x3_1 l0 (l0.length : Int) x8_1 x164000_4 ((rd_T28 l0 x8_1).f1) = some r) ∧ Aside0 (kq ≤ k1) ∧ Aside0 (Kd.R k28 28 wc w.heap.size (fun k_ => k_ ≠ gb163) u3 x3_1) ∧ Aside0 (wc.heap[gb163]? = some (.cells #[.int .i32 x164000_4, .int .u8 ((rd_T28 l0 x8_1).f1)] 28 (0, 0))) ∧ Aside0 (Below w.heap.size w wc))
            case first =>
              have H := HC5.out
              clear HC5
              by_cases c8 : ((rd_T28 l0 x8_1).f0) = 160
              · rw [if_pos c8] at H
                have c8b0 : (((rd_T28 l0 x8_1).f0) == 160) = true := beq_iff_eq.mpr c8
                have c8b1 : (((rd_T28 l0 x8_1).f0) != 160) = false := bne_eq_false_iff_eq.mpr c8
                clear c8
                (first | rw [c8b0] | (simp only [i64_w, i32_w]; rw [c8b0]) | skip)
                have H' := Aside0.mk H
                clear H
                have hcz9_0 : w6.cell? ⟨gb163, 0, none⟩ = some (.int .i32 0) := (blk_cell BK163.out 0).trans rfl
                have hcz9_1 : w6.cell? ⟨gb163, 1, none⟩ = some (.int .u8 0) := (blk_cell BK163.out 1).trans rfl
                have hfz9_0 := blk_frozen BK163.out 0
                have hfz9_1 := blk_frozen BK163.out 1
                go_wp2
                go_meet
                case rel => exact ⟨_, (32), H', ⟨by have := HK1.out; first | omega | exact Nat.le_refl _⟩, ⟨by (with_reducible repeat (first | apply Kd.R_alloc | apply Kd.R_drewN | apply Kd.R_drew)); exact Kd.R_mono (Kd.R_far (p := ⟨gb163, 0, none⟩) (Kd.R_far (p := ⟨gb163, 1, none⟩) (Kd.R_far (p := ⟨gb163, 0, none⟩) (Kd.R_mono HO_3.out (fun k_ hk => (⟨hk, hk.2⟩ : _ ∧ k_ ≠ gb163))) (fun _ hk => hk.2) (.int .i32 ((rd_T28 l0 x8_1).f0))) (fun _ hk => hk.2) (.int .u8 ((rd_T28 l0 x8_1).f1))) (fun _ hk => hk.2) (.int .i32 32)) (fun _ hk => hk.1.2)⟩, ⟨by (with_reducible repeat (first | refine blk_drewN ?_ _ | refine blk_drew ?_ | refine blk_alloc ?_ _)); refine blk_put (cs := #[.int .i32 ((rd_T28 l0 x8_1).f0), .int .u8 ((rd_T28 l0 x8_1).f1)]) ?_ 0 _ rfl; (with_reducible repeat (first | refine blk_drewN ?_ _ | refine blk_drew ?_ | refine blk_alloc ?_ _)); refine blk_put (cs := #[.int .i32 ((rd_T28 l0 x8_1).f0), .int .u8 0]) ?_ 1 _ rfl; (with_reducible repeat (first | refine blk_drewN ?_ _ | refine blk_drew ?_ | refine blk_alloc ?_ _)); refine blk_put (cs := #[.int .i32 0, .int .u8 0]) ?_ 0 _ rfl; (with_reducible repeat (first | refine blk_drewN ?_ _ | refine blk_drew ?_ | refine blk_alloc ?_ _)); exact BK163.out⟩, ⟨by repeat (first | (with_reducible first | exact HB.out | apply below_alloc | apply pw_below_drewN | apply below_drew1 | refine below_set ?_ GE163.out) | exact HB.out)⟩⟩
              · rw [if_neg c8] at H
                have c8b0 : (((rd_T28 l0 x8_1).f0) == 160) = false := beq_eq_false_iff_ne.mpr c8
                have c8b1 : (((rd_T28 l0 x8_1).f0) != 160) = true := bne_iff_ne.mpr c8
                (first | rw [c8b0] | (simp only [i64_w, i32_w]; rw [c8b0]) | skip)
                have H' := Aside0.mk H
                clear H
                go_wp2
                go_meet
                case rel => exact ⟨_, ((rd_T28 l0 x8_1).f0), H', ⟨by have := HK1.out; first | omega | exact Nat.le_refl _⟩, ⟨by (with_reducible repeat (first | apply Kd.R_alloc | apply Kd.R_drewN | apply Kd.R_drew)); exact Kd.R_mono (Kd.R_far (p := ⟨gb163, 1, none⟩) (Kd.R_far (p := ⟨gb163, 0, none⟩) (Kd.R_mono HO_3.out (fun k_ hk => (⟨hk, hk.2⟩ : _ ∧ k_ ≠ gb163))) (fun _ hk => hk.2) (.int .i32 ((rd_T28 l0 x8_1).f0))) (fun _ hk => hk.2) (.int .u8 ((rd_T28 l0 x8_1).f1))) (fun _ hk => hk.1.2)⟩, ⟨by (with_reducible repeat (first | refine blk_drewN ?_ _ | refine blk_drew ?_ | refine blk_alloc ?_ _)); refine blk_put (cs := #[.int .i32 ((rd_T28 l0 x8_1).f0), .int .u8 0]) ?_ 1 _ rfl; (with_reducible repeat (first | refine blk_drewN ?_ _ | refine blk_drew ?_ | refine blk_alloc ?_ _)); refine blk_put (cs := #[.int .i32 0, .int .u8 0]) ?_ 0 _ rfl; (with_reducible repeat (first | refine blk_drewN ?_ _ | refine blk_drew ?_ | refine blk_alloc ?_ _)); exact BK163.out⟩, ⟨by repeat (first | (with_reducible first | exact HB.out | apply below_alloc | apply pw_below_drewN | apply below_drew1 | refine below_set ?_ GE163.out) | exact HB.out)⟩⟩
            case rest =>
              clear HC5
              try clear c1
              try clear p1
              try clear q1
              try clear hx1
              try clear c2
              try clear c2b0
              try clear p2
              try clear c3
              try clear c3b0
              try clear c4
              try clear c4b0
              try clear c8
              try clear c8b0
              try clear c8b1
              try clear hcz7_0
              try clear hcz7_1
              try clear hcz9_0
              try clear hcz9_1
              try clear hfz7_0
              try clear hfz7_1
              try clear hfz9_0
              try clear hfz9_1
              try clear hx162_0
              try clear hx162_1
              try clear p162
              try clear q162
              obtain ⟨kq, x164000_4, HA, HJ4, HO_3, BK163, HB⟩ := hcut
              cases kq with
              | zero => exact absurd HA.out (by simp [cells_Clean.j1])
              | succ kj4 =>
                have H := HA.out
                clear HA
                simp only [cells_Clean.j1] at H
                replace H := Option.bind_eq_some_iff.mp H
                obtain ⟨t164, A100, H⟩ := H
                replace H : (if (x3_1.length : Int) > 0 then (if x3_1.length < 17592186044416 then (cells_Clean.l0 kj4 (x3_1 ++ [(⟨t164, Go.bits .and .u8 ((rd_T28 l0 x8_1).f1) 3⟩ : S28)]) l0 (l0.length : Int) (wrap64 (x8_1 + 1))) else (none)) else ((runes_Width.f t164).bind fun t168 => (if t168 > 0 then (if x3_1.length < 17592186044416 then (cells_Clean.l0 kj4 (x3_1 ++ [(⟨t164, Go.bits .and .u8 ((rd_T28 l0 x8_1).f1) 3⟩ : S28)]) l0 (l0.length : Int) (wrap64 (x8_1 + 1))) else (none)) else (cells_Clean.l0 kj4 x3_1 l0 (l0.length : Int) (wrap64 (x8_1 + 1)))))) = some r := H
                have A10 := Aside0.mk A100
                clear A100
                by_cases c11 : (x3_1.length : Int) > 0
                · rw [if_pos c11] at H
                  have c11b0 : decide (0 < (x3_1.length : Int)) = true := decide_eq_true c11
                  have c11b1 : decide (0 < x3_1.length) = true := decide_eq_true (by omega)
                  clear c11
                  by_cases c12 : x3_1.length < 17592186044416
                  · rw [if_pos c12] at H
                    have LMc12 := Aside0.mk c12
                    clear c12
                    obtain ⟨y165, hy165⟩ : ∃ y_ : List (S28), y_ = (x3_1 ++ [(⟨t164, Go.bits .and .u8 ((rd_T28 l0 x8_1).f1) 3⟩ : S28)]) := ⟨_, rfl⟩
                    replace H : (cells_Clean.l0 kj4 y165 l0 (l0.length : Int) (wrap64 (x8_1 + 1))) = some r := by first | (rw [hy165]; with_reducible exact H) | (have H2_ := (Option.bind_some _ _).symm.trans H; rw [hy165]; with_reducible exact H2_) | (have H2_ := (Option.bind_some _ _).symm.trans H; with_reducible exact H2_) | with_reducible exact H | (rw [hy165]; exact H) | exact H
                    have Ny165 := Aside0.mk hy165
                    clear hy165
                    have H' := Aside0.mk H
                    clear H
                    have hcz13_0 : wc.cell? ⟨gb163, 0, none⟩ = some (.int .i32 x164000_4) := (blk_cell BK163.out 0).trans rfl
                    have hcz13_1 : wc.cell? ⟨gb163, 1, none⟩ = some (.int .u8 ((rd_T28 l0 x8_1).f1)) := (blk_cell BK163.out 1).trans rfl
                    have hfz13_0 := blk_frozen BK163.out 0
                    have hfz13_1 := blk_frozen BK163.out 1
                    go_wp2_with (first | ((with_reducible refine gate_callee (f := 34) rfl ?_); refine goesL_ (some 18) rfl rfl Tryd.func34 (by kernel_rfl) rfl #[.int .i32 x164000_4] rfl (by (try simp only [List.map_toArray, List.map_cons, List.map_nil]); first | done | rfl | (simp only [List.length_drop, List.length_take]; rfl)) ?_; (with_reducible refine (runes_Safe.calls kj4 x164000_4 t164 _ A10.out).mono ?_); rintro e w' ⟨rfl, ⟨nd, rfl⟩⟩; refine ⟨_, rfl, ?_⟩; (try (rw [drewN_self wc]; generalize hq_ : World.drewN wc _ = wc; have n0_ : Aside0 (Kd.R k28 28 wc w.heap.size (fun k_ => k_ ≠ gb163) u3 x3_1) := ⟨by rw [← hq_]; exact (by (with_reducible repeat (first | apply Kd.R_alloc | apply Kd.R_drewN | apply Kd.R_drew)); exact HO_3.out)⟩; have n1_ : Aside0 (wc.heap[gb163]? = some (.cells #[.int .i32 x164000_4, .int .u8 ((rd_T28 l0 x8_1).f1)] 28 (0, 0))) := ⟨by rw [← hq_]; exact (by (with_reducible repeat (first | refine blk_drewN ?_ _ | refine blk_drew ?_ | refine blk_alloc ?_ _)); exact BK163.out)⟩; have n2_ : Aside0 (Below w.heap.size w wc) := ⟨by rw [← hq_]; exact (by repeat (first | (with_reducible first | exact HB.out | apply below_alloc | apply pw_below_drewN | apply below_drew1 | refine below_set ?_ GE163.out) | exact HB.out))⟩; clear HO_3 BK163 HB hq_; have HO_3 := n0_; have BK163 := n1_; have HB := n2_; clear n0_ n1_ n2_)); (try (have hcz14_0 : wc.cell? ⟨gb163, 0, none⟩ = some (.int .i32 x164000_4) := (blk_cell BK163.out 0).trans rfl; have hcz14_1 : wc.cell? ⟨gb163, 1, none⟩ = some (.int .u8 ((rd_T28 l0 x8_1).f1)) := (blk_cell BK163.out 1).trans rfl; have hfz14_0 := blk_frozen BK163.out 0; have hfz14_1 := blk_frozen BK163.out 1)); obtain ⟨Ao15, co15, eo15⟩ := Kd.R_slice HO_3.out; subst eo15) | ((with_reducible refine gate_builtin (b := .append) (xs := #[.tmp 33, .tmp 35]) rfl ?_); at_builtin; refine Kd.R_append k28 (w0 := w) w.heap.size rfl (.tmp 33) (.tmp 35) 22 28 (.agg #[(.int .i32 0), (.int .u8 0)]) 8 rfl Tryd.underlying22 info28 rfl (by decide) (by omega) (.slice Ao15 x3_1.length co15) x3_1 (⟨t164, Go.bits .and .u8 ((rd_T28 l0 x8_1).f1) 3⟩ : S28) [.int .i32 t164, .int .u8 (Go.bits .and .u8 ((rd_T28 l0 x8_1).f1) 3)] (fun k_ => k_ ≠ gb163) (fun _ => False) rfl (by first | (go_simp; done) | (go_simp; rfl)) ?aP (fun _ hk => hk.elim) ?aF ?aO ?aB ?aS ?aL ?_; (case aP => exact k28_mkM _ _ _ (⟨t164, Go.bits .and .u8 ((rd_T28 l0 x8_1).f1) 3⟩ : S28)); (case aB => exact (by repeat (first | (with_reducible first | exact HB.out | apply below_alloc | apply pw_below_drewN | apply below_drew1 | refine below_set ?_ GE163.out) | exact HB.out))); (case aF => exact (fun k_ hk => Kd.freshB (g := gb163) (o := .cells #[.int .i32 t164, .int .u8 (Go.bits .and .u8 ((rd_T28 l0 x8_1).f1) 3)] 28 (0, 0)) (by (with_reducible repeat (first | refine blk_drewN ?_ _ | refine blk_drew ?_ | refine blk_alloc ?_ _)); refine blk_put (cs := #[.int .i32 t164, .int .u8 ((rd_T28 l0 x8_1).f1)]) ?_ 1 _ rfl; (with_reducible repeat (first | refine blk_drewN ?_ _ | refine blk_drew ?_ | refine blk_alloc ?_ _)); refine blk_put (cs := #[.int .i32 x164000_4, .int .u8 ((rd_T28 l0 x8_1).f1)]) ?_ 0 _ rfl; (with_reducible repeat (first | refine blk_drewN ?_ _ | refine blk_drew ?_ | refine blk_alloc ?_ _)); exact BK163.out) k_ hk)); (case aO => exact (by (with_reducible repeat (first | apply Kd.R_alloc | apply Kd.R_drewN | apply Kd.R_drew)); exact Kd.R_mono (Kd.R_far (p := ⟨gb163, 1, none⟩) (Kd.R_far (p := ⟨gb163, 0, none⟩) (Kd.R_mono HO_3.out (fun k_ hk => (⟨hk, hk⟩ : _ ∧ k_ ≠ gb163))) (fun _ hk => hk.2) (.int .i32 t164)) (fun _ hk => hk.2) (.int .u8 (Go.bits .and .u8 ((rd_T28 l0 x8_1).f1) 3))) (fun _ hk => hk.1))); (case aS => exact (below_size (by repeat (first | (with_reducible first | exact HB.out | apply below_alloc | apply pw_below_drewN | apply below_drew1 | refine below_set ?_ GE163.out) | exact HB.out)))); (case aL => have := LMc12.out; omega); intro v166 w16 ho hb hg hat; rw [← Ny165.out] at ho; have n0_ := Aside0.mk (blk_grown (g := gb163) (o := .cells #[.int .i32 t164, .int .u8 (Go.bits .and .u8 ((rd_T28 l0 x8_1).f1) 3)] 28 (0, 0)) (by (with_reducible repeat (first | refine blk_drewN ?_ _ | refine blk_drew ?_ | refine blk_alloc ?_ _)); refine blk_put (cs := #[.int .i32 t164, .int .u8 ((rd_T28 l0 x8_1).f1)]) ?_ 1 _ rfl; (with_reducible repeat (first | refine blk_drewN ?_ _ | refine blk_drew ?_ | refine blk_alloc ?_ _)); refine blk_put (cs := #[.int .i32 x164000_4, .int .u8 ((rd_T28 l0 x8_1).f1)]) ?_ 0 _ rfl; (with_reducible repeat (first | refine blk_drewN ?_ _ | refine blk_drew ?_ | refine blk_alloc ?_ _)); exact BK163.out) hg (Kd.R_away HO_3.out (fun _ hk => hk))); have n1_ := Aside0.mk (hb); have n2_ := Aside0.mk (ho); clear BK163; clear HB; clear HO_3; have BK163 := n0_; have HB := n1_; have HO167 := n2_; clear n0_ n1_ n2_; clear ho hb hg hat))
                    go_roundg kj4
                    case measure => have := HK1.out; have := HJ4.out; omega
                    case rel => exact ⟨(y165), (wrap64 (x8_1 + 1)), (by first | rfl | (simp; done) | (simp [*]; done)), H', ⟨by have := HK1.out; have := HJ4.out; omega⟩, ⟨by (with_reducible repeat (first | apply Kd.R_alloc | apply Kd.R_drewN | apply Kd.R_drew)); exact Kd.R_mono HO167.out (fun _ hk => trivial)⟩, ⟨by repeat (first | (with_reducible first | exact HB.out | apply below_alloc | apply pw_below_drewN | apply below_drew1 | refine below_set ?_ GE163.out) | exact HB.out)⟩⟩
                  · rw [if_neg c12] at H
                    exact absurd H (by simp)
                · rw [if_neg c11] at H
                  have c11b0 : decide (0 < (x3_1.length : Int)) = false := decide_eq_false c11
                  have c11b1 : decide (0 < x3_1.length) = false := decide_eq_false (by omega)
                  clear c11
                  replace H := Option.bind_eq_some_iff.mp H
                  obtain ⟨t168, A170, H⟩ := H
                  replace H : (if t168 > 0 then (if x3_1.length < 17592186044416 then (cells_Clean.l0 kj4 (x3_1 ++ [(⟨t164, Go.bits .and .u8 ((rd_T28 l0 x8_1).f1) 3⟩ : S28)]) l0 (l0.length : Int) (wrap64 (x8_1 + 1))) else (none)) else (cells_Clean.l0 kj4 x3_1 l0 (l0.length : Int) (wrap64 (x8_1 + 1)))) = some r := H
                  have A17 := Aside0.mk A170
                  clear A170
                  by_cases c18 : t168 > 0
                  · rw [if_pos c18] at H
                    have c18b0 : decide (0 < t168) = true := decide_eq_true c18
                    clear c18
                    by_cases c19 : x3_1.length < 17592186044416
                    · rw [if_pos c19] at H
                      have LMc19 := Aside0.mk c19
                      clear c19
                      obtain ⟨y169, hy169⟩ : ∃ y_ : List (S28), y_ = (x3_1 ++ [(⟨t164, Go.bits .and .u8 ((rd_T28 l0 x8_1).f1) 3⟩ : S28)]) := ⟨_, rfl⟩
                      replace H : (cells_Clean.l0 kj4 y169 l0 (l0.length : Int) (wrap64 (x8_1 + 1))) = some r := by first | (rw [hy169]; with_reducible exact H) | (have H2_ := (Option.bind_some _ _).symm.trans H; rw [hy169]; with_reducible exact H2_) | (have H2_ := (Option.bind_some _ _).symm.trans H; with_reducible exact H2_) | with_reducible exact H | (rw [hy169]; exact H) | exact H
                      have Ny169 := Aside0.mk hy169
                      clear hy169
                      have H' := Aside0.mk H
                      clear H
                      have hcz20_0 : wc.cell? ⟨gb163, 0, none⟩ = some (.int .i32 x164000_4) := (blk_cell BK163.out 0).trans rfl
                      have hcz20_1 : wc.cell? ⟨gb163, 1, none⟩ = some (.int .u8 ((rd_T28 l0 x8_1).f1)) := (blk_cell BK163.out 1).trans rfl
                      have hfz20_0 := blk_frozen BK163.out 0
                      have hfz20_1 := blk_frozen BK163.out 1
                      go_wp2_with (first | ((with_reducible refine gate_callee (f := 34) rfl ?_); refine goesL_ (some 18) rfl rfl Tryd.func34 (by kernel_rfl) rfl #[.int .i32 x164000_4] rfl (by (try simp only [List.map_toArray, List.map_cons, List.map_nil]); first | done | rfl | (simp only [List.length_drop, List.length_take]; rfl)) ?_; (with_reducible refine (runes_Safe.calls kj4 x164000_4 t164 _ A10.out).mono ?_); rintro e w' ⟨rfl, ⟨nd, rfl⟩⟩; refine ⟨_, rfl, ?_⟩; (try (rw [drewN_self wc]; generalize hq_ : World.drewN wc _ = wc; have n0_ : Aside0 (Kd.R k28 28 wc w.heap.size (fun k_ => k_ ≠ gb163) u3 x3_1) := ⟨by rw [← hq_]; exact (by (with_reducible repeat (first | apply Kd.R_alloc | apply Kd.R_drewN | apply Kd.R_drew)); exact HO_3.out)⟩; have n1_ : Aside0 (wc.heap[gb163]? = some (.cells #[.int .i32 x164000_4, .int .u8 ((rd_T28 l0 x8_1).f1)] 28 (0, 0))) := ⟨by rw [← hq_]; exact (by (with_reducible repeat (first | refine blk_drewN ?_ _ | refine blk_drew ?_ | refine blk_alloc ?_ _)); exact BK163.out)⟩; have n2_ : Aside0 (Below w.heap.size w wc) := ⟨by rw [← hq_]; exact (by repeat (first | (with_reducible first | exact HB.out | apply below_alloc | apply pw_below_drewN | apply below_drew1 | refine below_set ?_ GE163.out) | exact HB.out))⟩; clear HO_3 BK163 HB hq_; have HO_3 := n0_; have BK163 := n1_; have HB := n2_; clear n0_ n1_ n2_)); (try (have hcz21_0 : wc.cell? ⟨gb163, 0, none⟩ = some (.int .i32 x164000_4) := (blk_cell BK163.out 0).trans rfl; have hcz21_1 : wc.cell? ⟨gb163, 1, none⟩ = some (.int .u8 ((rd_T28 l0 x8_1).f1)) := (blk_cell BK163.out 1).trans rfl; have hfz21_0 := blk_frozen BK163.out 0; have hfz21_1 := blk_frozen BK163.out 1)); obtain ⟨Ao22, co22, eo22⟩ := Kd.R_slice HO_3.out; subst eo22) | (go_at_call 35; (with_reducible refine (runes_Width.calls t164 t168 _ ?side1 A17.out).mono ?_); (case side1 => exact GOK.of_below (GOK.sub HG.out rfl) (by repeat (first | (with_reducible first | exact HB.out | apply below_alloc | apply pw_below_drewN | apply below_drew1 | refine below_set ?_ GE163.out) | exact HB.out))); rintro e w' ⟨rfl, ⟨nd, rfl⟩⟩) | ((with_reducible refine gate_builtin (b := .append) (xs := #[.tmp 33, .tmp 35]) rfl ?_); at_builtin; refine Kd.R_append k28 (w0 := w) w.heap.size rfl (.tmp 33) (.tmp 35) 22 28 (.agg #[(.int .i32 0), (.int .u8 0)]) 8 rfl Tryd.underlying22 info28 rfl (by decide) (by omega) (.slice Ao22 x3_1.length co22) x3_1 (⟨t164, Go.bits .and .u8 ((rd_T28 l0 x8_1).f1) 3⟩ : S28) [.int .i32 t164, .int .u8 (Go.bits .and .u8 ((rd_T28 l0 x8_1).f1) 3)] (fun k_ => k_ ≠ gb163) (fun _ => False) rfl (by first | (go_simp; done) | (go_simp; rfl)) ?aP (fun _ hk => hk.elim) ?aF ?aO ?aB ?aS ?aL ?_; (case aP => exact k28_mkM _ _ _ (⟨t164, Go.bits .and .u8 ((rd_T28 l0 x8_1).f1) 3⟩ : S28)); (case aB => exact (by repeat (first | (with_reducible first | exact HB.out | apply below_alloc | apply pw_below_drewN | apply below_drew1 | refine below_set ?_ GE163.out) | exact HB.out))); (case aF => exact (fun k_ hk => Kd.freshB (g := gb163) (o := .cells #[.int .i32 t164, .int .u8 (Go.bits .and .u8 ((rd_T28 l0 x8_1).f1) 3)] 28 (0, 0)) (by (with_reducible repeat (first | refine blk_drewN ?_ _ | refine blk_drew ?_ | refine blk_alloc ?_ _)); refine blk_put (cs := #[.int .i32 t164, .int .u8 ((rd_T28 l0 x8_1).f1)]) ?_ 1 _ rfl; (with_reducible repeat (first | refine blk_drewN ?_ _ | refine blk_drew ?_ | refine blk_alloc ?_ _)); refine blk_put (cs := #[.int .i32 x164000_4, .int .u8 ((rd_T28 l0 x8_1).f1)]) ?_ 0 _ rfl; (with_reducible repeat (first | refine blk_drewN ?_ _ | refine blk_drew ?_ | refine blk_alloc ?_ _)); exact BK163.out) k_ hk)); (case aO => exact (by (with_reducible repeat (first | apply Kd.R_alloc | apply Kd.R_drewN | apply Kd.R_drew)); exact Kd.R_mono (Kd.R_far (p := ⟨gb163, 1, none⟩) (Kd.R_far (p := ⟨gb163, 0, none⟩) (Kd.R_mono HO_3.out (fun k_ hk => (⟨hk, hk⟩ : _ ∧ k_ ≠ gb163))) (fun _ hk => hk.2) (.int .i32 t164)) (fun _ hk => hk.2) (.int .u8 (Go.bits .and .u8 ((rd_T28 l0 x8_1).f1) 3))) (fun _ hk => hk.1))); (case aS => exact (below_size (by repeat (first | (with_reducible first | exact HB.out | apply below_alloc | apply pw_below_drewN | apply below_drew1 | refine below_set ?_ GE163.out) | exact HB.out)))); (case aL => have := LMc19.out; omega); intro v170 w23 ho hb hg hat; rw [← Ny169.out] at ho; have n0_ := Aside0.mk (blk_grown (g := gb163) (o := .cells #[.int .i32 t164, .int .u8 (Go.bits .and .u8 ((rd_T28 l0 x8_1).f1) 3)] 28 (0, 0)) (by (with_reducible repeat (first | refine blk_drewN ?_ _ | refine blk_drew ?_ | refine blk_alloc ?_ _)); refine blk_put (cs := #[.int .i32 t164, .int .u8 ((rd_T28 l0 x8_1).f1)]) ?_ 1 _ rfl; (with_reducible repeat (first | refine blk_drewN ?_ _ | refine blk_drew ?_ | refine blk_alloc ?_ _)); refine blk_put (cs := #[.int .i32 x164000_4, .int .u8 ((rd_T28 l0 x8_1).f1)]) ?_ 0 _ rfl; (with_reducible repeat (first | refine blk_drewN ?_ _ | refine blk_drew ?_ | refine blk_alloc ?_ _)); exact BK163.out) hg (Kd.R_away HO_3.out (fun _ hk => hk))); have n1_ := Aside0.mk (hb); have n2_ := Aside0.mk (ho); clear BK163; clear HB; clear HO_3; have BK163 := n0_; have HB := n1_; have HO171 := n2_; clear n0_ n1_ n2_; clear ho hb hg hat))
                      go_roundg kj4
                      case measure => have := HK1.out; have := HJ4.out; omega
                      case rel => exact ⟨(y169), (wrap64 (x8_1 + 1)), (by first | rfl | (simp; done) | (simp [*]; done)), H', ⟨by have := HK1.out; have := HJ4.out; omega⟩, ⟨by (with_reducible repeat (first | apply Kd.R_alloc | apply Kd.R_drewN | apply Kd.R_drew)); exact Kd.R_mono HO171.out (fun _ hk => trivial)⟩, ⟨by repeat (first | (with_reducible first | exact HB.out | apply below_alloc | apply pw_below_drewN | apply below_drew1 | refine below_set ?_ GE163.out) | exact HB.out)⟩⟩
                    · rw [if_neg c19] at H
                      exact absurd H (by simp)
                  · rw [if_neg c18] at H
                    have c18b0 : decide (0 < t168) = false := decide_eq_false c18
                    clear c18
                    have H' := Aside0.mk H
                    clear H
                    have hcz24_0 : wc.cell? ⟨gb163, 0, none⟩ = some (.int .i32 x164000_4) := (blk_cell BK163.out 0).trans rfl
                    have hcz24_1 : wc.cell? ⟨gb163, 1, none⟩ = some (.int .u8 ((rd_T28 l0 x8_1).f1)) := (blk_cell BK163.out 1).trans rfl
                    have hfz24_0 := blk_frozen BK163.out 0
                    have hfz24_1 := blk_frozen BK163.out 1
                    go_wp2_with (first | ((with_reducible refine gate_callee (f := 34) rfl ?_); refine goesL_ (some 18) rfl rfl Tryd.func34 (by kernel_rfl) rfl #[.int .i32 x164000_4] rfl (by (try simp only [List.map_toArray, List.map_cons, List.map_nil]); first | done | rfl | (simp only [List.length_drop, List.length_take]; rfl)) ?_; (with_reducible refine (runes_Safe.calls kj4 x164000_4 t164 _ A10.out).mono ?_); rintro e w' ⟨rfl, ⟨nd, rfl⟩⟩; refine ⟨_, rfl, ?_⟩; (try (rw [drewN_self wc]; generalize hq_ : World.drewN wc _ = wc; have n0_ : Aside0 (Kd.R k28 28 wc w.heap.size (fun k_ => k_ ≠ gb163) u3 x3_1) := ⟨by rw [← hq_]; exact (by (with_reducible repeat (first | apply Kd.R_alloc | apply Kd.R_drewN | apply Kd.R_drew)); exact HO_3.out)⟩; have n1_ : Aside0 (wc.heap[gb163]? = some (.cells #[.int .i32 x164000_4, .int .u8 ((rd_T28 l0 x8_1).f1)] 28 (0, 0))) := ⟨by rw [← hq_]; exact (by (with_reducible repeat (first | refine blk_drewN ?_ _ | refine blk_drew ?_ | refine blk_alloc ?_ _)); exact BK163.out)⟩; have n2_ : Aside0 (Below w.heap.size w wc) := ⟨by rw [← hq_]; exact (by repeat (first | (with_reducible first | exact HB.out | apply below_alloc | apply pw_below_drewN | apply below_drew1 | refine below_set ?_ GE163.out) | exact HB.out))⟩; clear HO_3 BK163 HB hq_; have HO_3 := n0_; have BK163 := n1_; have HB := n2_; clear n0_ n1_ n2_)); (try (have hcz25_0 : wc.cell? ⟨gb163, 0, none⟩ = some (.int .i32 x164000_4) := (blk_cell BK163.out 0).trans rfl; have hcz25_1 : wc.cell? ⟨gb163, 1, none⟩ = some (.int .u8 ((rd_T28 l0 x8_1).f1)) := (blk_cell BK163.out 1).trans rfl; have hfz25_0 := blk_frozen BK163.out 0; have hfz25_1 := blk_frozen BK163.out 1)); obtain ⟨Ao26, co26, eo26⟩ := Kd.R_slice HO_3.out; subst eo26) | (go_at_call 35; (with_reducible refine (runes_Width.calls t164 t168 _ ?side1 A17.out).mono ?_); (case side1 => exact GOK.of_below (GOK.sub HG.out rfl) (by repeat (first | (with_reducible first | exact HB.out | apply below_alloc | apply pw_below_drewN | apply below_drew1 | refine below_set ?_ GE163.out) | exact HB.out))); rintro e w' ⟨rfl, ⟨nd, rfl⟩⟩))
                    go_roundg kj4
                    case measure => have := HK1.out; have := HJ4.out; omega
                    case rel => exact ⟨(x3_1), (wrap64 (x8_1 + 1)), (by first | rfl | (simp; done) | (simp [*]; done)), H', ⟨by have := HK1.out; have := HJ4.out; omega⟩, ⟨by (with_reducible repeat (first | apply Kd.R_alloc | apply Kd.R_drewN | apply Kd.R_drew)); exact Kd.R_mono (Kd.R_far (p := ⟨gb163, 1, none⟩) (Kd.R_far (p := ⟨gb163, 0, none⟩) (Kd.R_mono HO_3.out (fun k_ hk => (⟨hk, hk⟩ : _ ∧ k_ ≠ gb163))) (fun _ hk => hk.2) (.int .i32 t164)) (fun _ hk => hk.2) (.int .u8 (Go.bits .and .u8 ((rd_T28 l0 x8_1).f1) 3))) (fun _ hk => trivial)⟩, ⟨by repeat (first | (with_reducible first | exact HB.out | apply below_alloc | apply pw_below_drewN | apply below_drew1 | refine below_set ?_ GE163.out) | exact HB.out)⟩⟩
          · rw [if_neg c4] at H
            exact absurd H (by simp)
        · rw [if_neg c3] at H
          exact absurd H (by simp)
      · rw [if_neg c2] at H
        have c2b0 : decide (x8_1 < (l0.length : Int)) = false := decide_eq_false c2
        clear c2
        obtain rfl := Option.some.inj H
        go_wp2
        go_ret
        exact ⟨_, by first | rfl | (simp [errW_none, errW_some] <;> rfl) | (simp [*, errW_none, errW_some] <;> rfl), by (with_reducible repeat (first | apply Kd.R_alloc | apply Kd.R_drewN | apply Kd.R_drew)); exact HO_3.out, by repeat (first | (with_reducible first | exact HB.out | apply below_alloc | apply pw_below_drewN | apply below_drew1) | exact HB.out)⟩

/-! ### flongref02_Valid: function 36 -/
def flongref02_Valid.f (a0 : Int) : Option (Bool) := if a0 ≥ 0 then (if a0 < 1114112 then (if a0 < 55296 then (some true) else (some (decide (a0 > 57343)))) else (some false)) else (some false)
set_option maxHeartbeats 8000000 in
set_option maxRecDepth 100000 in
theorem flongref02_Valid.calls (a0 : Int) (r : Bool) (w : World) (h : flongref02_Valid.f a0 = some r) :
    Calls Tryd.prog 36 #[.int .i32 a0] w fun e w' => e = .returned (.bool r) ∧ Drawn0 w w' := by
  have H : (if a0 ≥ 0 then (if a0 < 1114112 then (if a0 < 55296 then (some true) else (some (decide (a0 > 57343)))) else (some false)) else (some false)) = some r := h
  clear h
  by_cases c2 : a0 ≥ 0
  · rw [if_pos c2] at H
    have c2b0 : decide (0 ≤ a0) = true := decide_eq_true c2
    clear c2
    by_cases c3 : a0 < 1114112
    · rw [if_pos c3] at H
      have c3b0 : decide (a0 < 1114112) = true := decide_eq_true c3
      clear c3
      by_cases c4 : a0 < 55296
      · rw [if_pos c4] at H
        have c4b0 : decide (a0 < 55296) = true := decide_eq_true c4
        clear c4
        obtain rfl := Option.some.inj H
        go_enter Tryd.func36, Tryd.ntmps36
        go_wp2
        go_ret
        exact ⟨by first | rfl | (simp; done) | (simp [*]; done), by repeat (first | exact Drawn0.refl _ | apply Drawn0.step)⟩
      · rw [if_neg c4] at H
        have c4b0 : decide (a0 < 55296) = false := decide_eq_false c4
        clear c4
        obtain rfl := Option.some.inj H
        go_enter Tryd.func36, Tryd.ntmps36
        go_wp2
        go_ret
        exact ⟨by first | rfl | (simp; done) | (simp [*]; done), by repeat (first | exact Drawn0.refl _ | apply Drawn0.step)⟩
    · rw [if_neg c3] at H
      have c3b0 : decide (a0 < 1114112) = false := decide_eq_false c3
      clear c3
      obtain rfl := Option.some.inj H
      go_enter Tryd.func36, Tryd.ntmps36
      go_wp2
      go_ret
      exact ⟨by first | rfl | (simp; done) | (simp [*]; done), by repeat (first | exact Drawn0.refl _ | apply Drawn0.step)⟩
  · rw [if_neg c2] at H
    have c2b0 : decide (0 ≤ a0) = false := decide_eq_false c2
    clear c2
    obtain rfl := Option.some.inj H
    go_enter Tryd.func36, Tryd.ntmps36
    go_wp2
    go_ret
    exact ⟨by first | rfl | (simp; done) | (simp [*]; done), by repeat (first | exact Drawn0.refl _ | apply Drawn0.step)⟩

/-! ### flongref02_Control: function 37 -/
def flongref02_Control.f (a0 : Int) : Option (Bool) := if a0 ≥ 0 then (if a0 ≤ 31 then (some true) else (if a0 ≥ 127 then (if a0 ≤ 159 then (some true) else (if a0 = 8232 then (some true) else (some (a0 == 8233)))) else (if a0 = 8232 then (some true) else (some (a0 == 8233))))) else (if a0 ≥ 127 then (if a0 ≤ 159 then (some true) else (if a0 = 8232 then (some true) else (some (a0 == 8233)))) else (if a0 = 8232 then (some true) else (some (a0 == 8233))))
set_option maxHeartbeats 8000000 in
set_option maxRecDepth 100000 in
theorem flongref02_Control.calls (a0 : Int) (r : Bool) (w : World) (h : flongref02_Control.f a0 = some r) :
    Calls Tryd.prog 37 #[.int .i32 a0] w fun e w' => e = .returned (.bool r) ∧ Drawn0 w w' := by
  have H : (if a0 ≥ 0 then (if a0 ≤ 31 then (some true) else (if a0 ≥ 127 then (if a0 ≤ 159 then (some true) else (if a0 = 8232 then (some true) else (some (a0 == 8233)))) else (if a0 = 8232 then (some true) else (some (a0 == 8233))))) else (if a0 ≥ 127 then (if a0 ≤ 159 then (some true) else (if a0 = 8232 then (some true) else (some (a0 == 8233)))) else (if a0 = 8232 then (some true) else (some (a0 == 8233))))) = some r := h
  clear h
  by_cases c2 : a0 ≥ 0
  · rw [if_pos c2] at H
    have c2b0 : decide (0 ≤ a0) = true := decide_eq_true c2
    clear c2
    by_cases c3 : a0 ≤ 31
    · rw [if_pos c3] at H
      have c3b0 : decide (a0 ≤ 31) = true := decide_eq_true c3
      clear c3
      obtain rfl := Option.some.inj H
      go_enter Tryd.func37, Tryd.ntmps37
      go_wp2
      go_ret
      exact ⟨by first | rfl | (simp; done) | (simp [*]; done), by repeat (first | exact Drawn0.refl _ | apply Drawn0.step)⟩
    · rw [if_neg c3] at H
      have c3b0 : decide (a0 ≤ 31) = false := decide_eq_false c3
      clear c3
      by_cases c4 : a0 ≥ 127
      · rw [if_pos c4] at H
        have c4b0 : decide (127 ≤ a0) = true := decide_eq_true c4
        clear c4
        by_cases c5 : a0 ≤ 159
        · rw [if_pos c5] at H
          have c5b0 : decide (a0 ≤ 159) = true := decide_eq_true c5
          clear c5
          obtain rfl := Option.some.inj H
          go_enter Tryd.func37, Tryd.ntmps37
          go_wp2
          go_ret
          exact ⟨by first | rfl | (simp; done) | (simp [*]; done), by repeat (first | exact Drawn0.refl _ | apply Drawn0.step)⟩
        · rw [if_neg c5] at H
          have c5b0 : decide (a0 ≤ 159) = false := decide_eq_false c5
          clear c5
          by_cases c6 : a0 = 8232
          · rw [if_pos c6] at H
            have c6b0 : (a0 == 8232) = true := beq_iff_eq.mpr c6
            have c6b1 : (a0 != 8232) = false := bne_eq_false_iff_eq.mpr c6
            clear c6
            obtain rfl := Option.some.inj H
            go_enter Tryd.func37, Tryd.ntmps37
            go_wp2
            go_ret
            exact ⟨by first | rfl | (simp; done) | (simp [*]; done), by repeat (first | exact Drawn0.refl _ | apply Drawn0.step)⟩
          · rw [if_neg c6] at H
            have c6b0 : (a0 == 8232) = false := beq_eq_false_iff_ne.mpr c6
            have c6b1 : (a0 != 8232) = true := bne_iff_ne.mpr c6
            obtain rfl := Option.some.inj H
            go_enter Tryd.func37, Tryd.ntmps37
            go_wp2
            go_ret
            exact ⟨by first | rfl | (simp; done) | (simp [*]; done), by repeat (first | exact Drawn0.refl _ | apply Drawn0.step)⟩
      · rw [if_neg c4] at H
        have c4b0 : decide (127 ≤ a0) = false := decide_eq_false c4
        clear c4
        by_cases c7 : a0 = 8232
        · rw [if_pos c7] at H
          have c7b0 : (a0 == 8232) = true := beq_iff_eq.mpr c7
          have c7b1 : (a0 != 8232) = false := bne_eq_false_iff_eq.mpr c7
          clear c7
          obtain rfl := Option.some.inj H
          go_enter Tryd.func37, Tryd.ntmps37
          go_wp2
          go_ret
          exact ⟨by first | rfl | (simp; done) | (simp [*]; done), by repeat (first | exact Drawn0.refl _ | apply Drawn0.step)⟩
        · rw [if_neg c7] at H
          have c7b0 : (a0 == 8232) = false := beq_eq_false_iff_ne.mpr c7
          have c7b1 : (a0 != 8232) = true := bne_iff_ne.mpr c7
          obtain rfl := Option.some.inj H
          go_enter Tryd.func37, Tryd.ntmps37
          go_wp2
          go_ret
          exact ⟨by first | rfl | (simp; done) | (simp [*]; done), by repeat (first | exact Drawn0.refl _ | apply Drawn0.step)⟩
  · rw [if_neg c2] at H
    have c2b0 : decide (0 ≤ a0) = false := decide_eq_false c2
    clear c2
    by_cases c8 : a0 ≥ 127
    · rw [if_pos c8] at H
      have c8b0 : decide (127 ≤ a0) = true := decide_eq_true c8
      clear c8
      by_cases c9 : a0 ≤ 159
      · rw [if_pos c9] at H
        have c9b0 : decide (a0 ≤ 159) = true := decide_eq_true c9
        clear c9
        obtain rfl := Option.some.inj H
        go_enter Tryd.func37, Tryd.ntmps37
        go_wp2
        go_ret
        exact ⟨by first | rfl | (simp; done) | (simp [*]; done), by repeat (first | exact Drawn0.refl _ | apply Drawn0.step)⟩
      · rw [if_neg c9] at H
        have c9b0 : decide (a0 ≤ 159) = false := decide_eq_false c9
        clear c9
        by_cases c10 : a0 = 8232
        · rw [if_pos c10] at H
          have c10b0 : (a0 == 8232) = true := beq_iff_eq.mpr c10
          have c10b1 : (a0 != 8232) = false := bne_eq_false_iff_eq.mpr c10
          clear c10
          obtain rfl := Option.some.inj H
          go_enter Tryd.func37, Tryd.ntmps37
          go_wp2
          go_ret
          exact ⟨by first | rfl | (simp; done) | (simp [*]; done), by repeat (first | exact Drawn0.refl _ | apply Drawn0.step)⟩
        · rw [if_neg c10] at H
          have c10b0 : (a0 == 8232) = false := beq_eq_false_iff_ne.mpr c10
          have c10b1 : (a0 != 8232) = true := bne_iff_ne.mpr c10
          obtain rfl := Option.some.inj H
          go_enter Tryd.func37, Tryd.ntmps37
          go_wp2
          go_ret
          exact ⟨by first | rfl | (simp; done) | (simp [*]; done), by repeat (first | exact Drawn0.refl _ | apply Drawn0.step)⟩
    · rw [if_neg c8] at H
      have c8b0 : decide (127 ≤ a0) = false := decide_eq_false c8
      clear c8
      by_cases c11 : a0 = 8232
      · rw [if_pos c11] at H
        have c11b0 : (a0 == 8232) = true := beq_iff_eq.mpr c11
        have c11b1 : (a0 != 8232) = false := bne_eq_false_iff_eq.mpr c11
        clear c11
        obtain rfl := Option.some.inj H
        go_enter Tryd.func37, Tryd.ntmps37
        go_wp2
        go_ret
        exact ⟨by first | rfl | (simp; done) | (simp [*]; done), by repeat (first | exact Drawn0.refl _ | apply Drawn0.step)⟩
      · rw [if_neg c11] at H
        have c11b0 : (a0 == 8232) = false := beq_eq_false_iff_ne.mpr c11
        have c11b1 : (a0 != 8232) = true := bne_iff_ne.mpr c11
        obtain rfl := Option.some.inj H
        go_enter Tryd.func37, Tryd.ntmps37
        go_wp2
        go_ret
        exact ⟨by first | rfl | (simp; done) | (simp [*]; done), by repeat (first | exact Drawn0.refl _ | apply Drawn0.step)⟩

end Go.Proofs.YtdcbaefcgghbmaaDoor.X
