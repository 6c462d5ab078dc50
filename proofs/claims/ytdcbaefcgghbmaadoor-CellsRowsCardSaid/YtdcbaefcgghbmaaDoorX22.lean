-- Written by this session's xprint.py (a variant of the kit's printer). Not trusted: Lean checks it.
import Derived.Test.YtdcbaefcgghbmaaDoorX0
import Derived.Test.YtdcbaefcgghbmaaDoorX5
namespace Go.Proofs.YtdcbaefcgghbmaaDoor.X
open Go.RowKit Go.Proofs.YtdcbaefcgghbmaaDoorW.PrintWords Go.Proofs.YtdcbaefcgghbmaaDoorW.PrintLast Go.Proofs.YtdcbaefcgghbmaaDoorW.PrintMore
attribute [local go_sem] max2_int min2_int max_two min_two max_three min_three max_four min_four   -- for this text's walks alone
set_option linter.unusedVariables false
set_option linter.unusedSimpArgs false

/-! ### flongref03_Clean: function 32 -/
def flongref03_Clean.l0 : Nat → List (S28) → List (S28) → Int → Option ((List (S28)))
  | 0, _, _, _ => none
  | k + 1, x0, x3, x4 => if x4 < (x0.length : Int) then (if 0 ≤ x4 then ((flongref02_Safe.f ((rd_T28 x0 x4).f0)).bind fun t520 => (if ((rd_T28 x0 x4).f0) = 160 then (if (x3.length : Int) > 0 then (if x3.length < 17592186044416 then (flongref03_Clean.l0 k x0 (x3 ++ [(⟨32, Int.tmod ((rd_T28 x0 x4).f1) 4⟩ : S28)]) (wrap64 (x4 + 1))) else (none)) else ((flongref02_Width.f k 32).bind fun t526 => (if t526 > 0 then (if x3.length < 17592186044416 then (flongref03_Clean.l0 k x0 (x3 ++ [(⟨32, Int.tmod ((rd_T28 x0 x4).f1) 4⟩ : S28)]) (wrap64 (x4 + 1))) else (none)) else (flongref03_Clean.l0 k x0 x3 (wrap64 (x4 + 1)))))) else (if (x3.length : Int) > 0 then (if x3.length < 17592186044416 then (flongref03_Clean.l0 k x0 (x3 ++ [(⟨t520, Int.tmod ((rd_T28 x0 x4).f1) 4⟩ : S28)]) (wrap64 (x4 + 1))) else (none)) else ((flongref02_Width.f k t520).bind fun t535 => (if t535 > 0 then (if x3.length < 17592186044416 then (flongref03_Clean.l0 k x0 (x3 ++ [(⟨t520, Int.tmod ((rd_T28 x0 x4).f1) 4⟩ : S28)]) (wrap64 (x4 + 1))) else (none)) else (flongref03_Clean.l0 k x0 x3 (wrap64 (x4 + 1)))))))) else (none)) else (some x3)
def flongref03_Clean.f (k : Nat) (l0 : List (S28)) : Option ((List (S28))) := flongref03_Clean.l0 k l0 ([] : List (S28)) 0
theorem flongref03_Clean.mono_l : ∀ k, (∀ y0 y1 y2, LeO (flongref03_Clean.l0 k y0 y1 y2) (flongref03_Clean.l0 (k + 1) y0 y1 y2))
  | 0 => fun _ _ _ r h => by simp [flongref03_Clean.l0] at h
  | k + 1 => by
    have ih0 := flongref03_Clean.mono_l k
    · intro y0 y1 y2
      unfold flongref03_Clean.l0
      repeat' first
      | (with_reducible exact ih0 _ _ _)
      | (with_reducible exact flongref02_Width.mono _ _)
      | (with_reducible exact LeO.refl _)
      | (with_reducible exact LeO.none _)
      | (with_reducible refine LeO.ite ?_ ?_)
      | (with_reducible refine LeO.bind ?_ (fun _ => ?_))
      | exact ih0 _ _ _
      | exact flongref02_Width.mono _ _
      | exact LeO.none _
      | refine LeO.ite ?_ ?_
      | refine LeO.bind ?_ (fun _ => ?_)
theorem flongref03_Clean.mono : ∀ a0 k, LeO (flongref03_Clean.f k a0) (flongref03_Clean.f (k + 1) a0) := by
  intro a0 k
  have ih0 := flongref03_Clean.mono_l k
  unfold flongref03_Clean.f
  repeat' first
      | (with_reducible exact ih0 _ _ _)
      | (with_reducible exact flongref02_Width.mono _ _)
      | (with_reducible exact LeO.refl _)
      | (with_reducible exact LeO.none _)
      | (with_reducible refine LeO.ite ?_ ?_)
      | (with_reducible refine LeO.bind ?_ (fun _ => ?_))
      | exact ih0 _ _ _
      | exact flongref02_Width.mono _ _
      | exact LeO.none _
      | refine LeO.ite ?_ ?_
      | refine LeO.bind ?_ (fun _ => ?_)
set_option maxHeartbeats 8000000 in
set_option maxRecDepth 100000 in
theorem flongref03_Clean.calls (k : Nat) (A0 : Option Addr) (c0 : Nat) (l0 : List (S28)) (r : List (S28)) (w : World) (hr0 : Kd.C k28 w A0 l0.length l0) (hc0 : l0.length ≤ c0) (h : flongref03_Clean.f k l0 = some r) :
    Calls Tryd.prog 32 #[.slice A0 l0.length c0] w fun e w' => ∃ v0_ : Value, e = .returned (v0_) ∧ Kd.R k28 28 w' w.heap.size (fun _ => True) v0_ r ∧ Below w.heap.size w w' := by
  have hu28 := Tryd.underlying28
  have HR0 := Aside0.mk hr0
  have HC0 := Aside0.mk hc0
  clear hr0 hc0
  have HB := Aside0.mk (Below.refl w.heap.size w)
  have H : (flongref03_Clean.l0 k l0 ([] : List (S28)) 0) = some r := h
  clear h
  have H' := Aside0.mk H
  clear H
  go_enter Tryd.func32, Tryd.ntmps32
  go_wp2
  go_loopg [3, 4] k (fun kq v3 v4 w' => ∃ (x3_1 : List (S28)) (x4_1 : Int), v4 = .int .i64 x4_1 ∧ Aside0 (flongref03_Clean.l0 kq l0 x3_1 x4_1 = some r) ∧ Aside0 (kq ≤ k) ∧ Aside0 (Kd.R k28 28 w' w.heap.size (fun _ => True) v3 x3_1) ∧ Aside0 (Below w.heap.size w w'))
  case atStart => exact ⟨(([] : List (S28))), (0), (by first | rfl | (simp; done) | (simp [*]; done)), H', ⟨Nat.le_refl _⟩, ⟨by first | exact Kd.R_nil _ _ _ _ _ | exact Kd.N_nil _ _ _ _ _ | exact Kd.V_nil _ _ _ _ _ | exact Kd.Q_nil _ _ _ _ _ | exact Kd.S_nil _ _ _ _ _⟩, ⟨by repeat (first | (with_reducible first | exact HB.out | apply below_alloc | apply pw_below_drewN | apply below_drew1) | exact HB.out)⟩⟩
  case round =>
    clear H'
    obtain ⟨x3_1, x4_1, rfl, HA, HK1, HO_3, HB⟩ := hrel
    cases gk with
    | zero => exact absurd HA.out (by simp [flongref03_Clean.l0])
    | succ k1 =>
      have H := HA.out
      clear HA
      simp only [flongref03_Clean.l0] at H
      by_cases c2 : x4_1 < (l0.length : Int)
      · rw [if_pos c2] at H
        have c2b0 : decide (x4_1 < (l0.length : Int)) = true := decide_eq_true c2
        clear c2
        by_cases c3 : 0 ≤ x4_1
        · rw [if_pos c3] at H
          have c3b0 : decide (0 ≤ x4_1) = true := decide_eq_true c3
          clear c3
          replace H := Option.bind_eq_some_iff.mp H
          obtain ⟨t520, A40, H⟩ := H
          replace H : (if ((rd_T28 l0 x4_1).f0) = 160 then (if (x3_1.length : Int) > 0 then (if x3_1.length < 17592186044416 then (flongref03_Clean.l0 k1 l0 (x3_1 ++ [(⟨32, Int.tmod ((rd_T28 l0 x4_1).f1) 4⟩ : S28)]) (wrap64 (x4_1 + 1))) else (none)) else ((flongref02_Width.f k1 32).bind fun t526 => (if t526 > 0 then (if x3_1.length < 17592186044416 then (flongref03_Clean.l0 k1 l0 (x3_1 ++ [(⟨32, Int.tmod ((rd_T28 l0 x4_1).f1) 4⟩ : S28)]) (wrap64 (x4_1 + 1))) else (none)) else (flongref03_Clean.l0 k1 l0 x3_1 (wrap64 (x4_1 + 1)))))) else (if (x3_1.length : Int) > 0 then (if x3_1.length < 17592186044416 then (flongref03_Clean.l0 k1 l0 (x3_1 ++ [(⟨t520, Int.tmod ((rd_T28 l0 x4_1).f1) 4⟩ : S28)]) (wrap64 (x4_1 + 1))) else (none)) else ((flongref02_Width.f k1 t520).bind fun t535 => (if t535 > 0 then (if x3_1.length < 17592186044416 then (flongref03_Clean.l0 k1 l0 (x3_1 ++ [(⟨t520, Int.tmod ((rd_T28 l0 x4_1).f1) 4⟩ : S28)]) (wrap64 (x4_1 + 1))) else (none)) else (flongref03_Clean.l0 k1 l0 x3_1 (wrap64 (x4_1 + 1))))))) = some r := H
          have A4 := Aside0.mk A40
          clear A40
          by_cases c5 : ((rd_T28 l0 x4_1).f0) = 160
          · rw [if_pos c5] at H
            have c5b0 : (((rd_T28 l0 x4_1).f0) == 160) = true := beq_iff_eq.mpr c5
            have c5b1 : (((rd_T28 l0 x4_1).f0) != 160) = false := bne_eq_false_iff_eq.mpr c5
            clear c5
            by_cases c6 : (x3_1.length : Int) > 0
            · rw [if_pos c6] at H
              have c6b0 : decide (0 < (x3_1.length : Int)) = true := decide_eq_true c6
              have c6b1 : decide (0 < x3_1.length) = true := decide_eq_true (by omega)
              clear c6
              by_cases c7 : x3_1.length < 17592186044416
              · rw [if_pos c7] at H
                have LMc7 := Aside0.mk c7
                clear c7
                obtain ⟨y523, hy523⟩ : ∃ y_ : List (S28), y_ = (x3_1 ++ [(⟨32, Int.tmod ((rd_T28 l0 x4_1).f1) 4⟩ : S28)]) := ⟨_, rfl⟩
                replace H : (flongref03_Clean.l0 k1 l0 y523 (wrap64 (x4_1 + 1))) = some r := by first | (rw [hy523]; with_reducible exact H) | (have H2_ := (Option.bind_some _ _).symm.trans H; rw [hy523]; with_reducible exact H2_) | (have H2_ := (Option.bind_some _ _).symm.trans H; with_reducible exact H2_) | with_reducible exact H | (rw [hy523]; exact H) | exact H
                have Ny523 := Aside0.mk hy523
                clear hy523
                have H' := Aside0.mk H
                clear H
                have p519 : 0 ≤ (x4_1 : Int) := of_decide_eq_true (by first | (with_reducible assumption) | assumption)
                have q519 : x4_1 < (l0.length : Int) := of_decide_eq_true (by first | (with_reducible assumption) | assumption)
                obtain ⟨ad519, e519, hx519_0, hx519_1⟩ := at_T28 HR0.out x4_1 p519 q519
                cases e519
                replace hx519_0 := (HB.out.cell (World.block_lt_of_cell? w _ hx519_0)).trans hx519_0
                replace hx519_1 := (HB.out.cell (World.block_lt_of_cell? w _ hx519_1)).trans hx519_1
                replace p519 := eq_true p519
                replace q519 := eq_true q519
                go_wp2_with (first | ((with_reducible refine gate_callee (f := 14) rfl ?_); refine goesL_ (some 17) rfl rfl Tryd.func14 (by kernel_rfl) rfl #[.int .i32 ((rd_T28 l0 x4_1).f0)] rfl (by (try simp only [List.map_toArray, List.map_cons, List.map_nil]); first | done | rfl | (simp only [List.length_drop, List.length_take]; rfl)) ?_; (with_reducible refine (flongref02_Safe.calls ((rd_T28 l0 x4_1).f0) t520 _ A4.out).mono ?_); rintro e w' ⟨rfl, ⟨nd, rfl⟩⟩; refine ⟨_, rfl, ?_⟩; have p521 : 0 ≤ (x4_1 : Int) := of_decide_eq_true (by first | (with_reducible assumption) | assumption); have q521 : x4_1 < (l0.length : Int) := of_decide_eq_true (by first | (with_reducible assumption) | assumption); obtain ⟨ad521, e521, hx521_0, hx521_1⟩ := at_T28 HR0.out x4_1 p521 q521; obtain rfl : ad519 = ad521 := (by injection e521); replace hx521_0 := (HB.out.cell (World.block_lt_of_cell? w _ hx521_0)).trans hx521_0; replace hx521_1 := (HB.out.cell (World.block_lt_of_cell? w _ hx521_1)).trans hx521_1; replace p521 := eq_true p521; replace q521 := eq_true q521; obtain ⟨Ao8, co8, eo8⟩ := Kd.R_slice HO_3.out; subst eo8; have p522 : 0 ≤ (x4_1 : Int) := of_decide_eq_true (by first | (with_reducible assumption) | assumption); have q522 : x4_1 < (l0.length : Int) := of_decide_eq_true (by first | (with_reducible assumption) | assumption); obtain ⟨ad522, e522, hx522_0, hx522_1⟩ := at_T28 HR0.out x4_1 p522 q522; obtain rfl : ad519 = ad522 := (by injection e522); replace hx522_0 := (HB.out.cell (World.block_lt_of_cell? w _ hx522_0)).trans hx522_0; replace hx522_1 := (HB.out.cell (World.block_lt_of_cell? w _ hx522_1)).trans hx522_1; replace p522 := eq_true p522; replace q522 := eq_true q522) | ((with_reducible refine gate_builtin (b := .append) (xs := #[.tmp 32, .tmp 41]) rfl ?_); at_builtin; refine Kd.R_append k28 (w0 := w) w.heap.size rfl (.tmp 32) (.tmp 41) 22 28 (.agg #[(.int .i32 0), (.int .u8 0)]) 8 rfl Tryd.underlying22 info28 rfl (by decide) (by omega) (.slice Ao8 x3_1.length co8) x3_1 (⟨32, Int.tmod ((rd_T28 l0 x4_1).f1) 4⟩ : S28) [.int .i32 32, .int .u8 (Int.tmod ((rd_T28 l0 x4_1).f1) 4)] (fun _ => True) (fun _ => False) rfl rfl ?aP (fun _ hk => hk.elim) ?aF ?aO ?aB ?aS ?aL ?_; (case aP => exact k28_mkM _ _ _ (⟨32, Int.tmod ((rd_T28 l0 x4_1).f1) 4⟩ : S28)); (case aB => exact (by repeat (first | (with_reducible first | exact HB.out | apply below_alloc | apply pw_below_drewN | apply below_drew1) | exact HB.out))); (case aF => exact (fun _ _ => trivial)); (case aO => exact (by (with_reducible repeat (first | apply Kd.R_alloc | apply Kd.R_drewN | apply Kd.R_drew)); exact HO_3.out)); (case aS => exact (below_size (by repeat (first | (with_reducible first | exact HB.out | apply below_alloc | apply pw_below_drewN | apply below_drew1) | exact HB.out)))); (case aL => have := LMc7.out; omega); intro v524 w9 ho hb hg hat; rw [← Ny523.out] at ho; have n0_ := Aside0.mk (hb); have n1_ := Aside0.mk (ho); clear HB; clear HO_3; have HB := n0_; have HO525 := n1_; clear n0_ n1_; clear ho hb hg hat))
                go_roundg k1
                case measure => have := HK1.out; omega
                case rel => exact ⟨(y523), (wrap64 (x4_1 + 1)), (by first | rfl | (simp; done) | (simp [*]; done)), H', ⟨by have := HK1.out; omega⟩, ⟨by (with_reducible repeat (first | apply Kd.R_alloc | apply Kd.R_drewN | apply Kd.R_drew)); exact HO525.out⟩, ⟨by repeat (first | (with_reducible first | exact HB.out | apply below_alloc | apply pw_below_drewN | apply below_drew1) | exact HB.out)⟩⟩
              · rw [if_neg c7] at H
                exact absurd H (by simp)
            · rw [if_neg c6] at H
              have c6b0 : decide (0 < (x3_1.length : Int)) = false := decide_eq_false c6
              have c6b1 : decide (0 < x3_1.length) = false := decide_eq_false (by omega)
              clear c6
              replace H := Option.bind_eq_some_iff.mp H
              obtain ⟨t526, A100, H⟩ := H
              replace H : (if t526 > 0 then (if x3_1.length < 17592186044416 then (flongref03_Clean.l0 k1 l0 (x3_1 ++ [(⟨32, Int.tmod ((rd_T28 l0 x4_1).f1) 4⟩ : S28)]) (wrap64 (x4_1 + 1))) else (none)) else (flongref03_Clean.l0 k1 l0 x3_1 (wrap64 (x4_1 + 1)))) = some r := H
              have A10 := Aside0.mk A100
              clear A100
              by_cases c11 : t526 > 0
              · rw [if_pos c11] at H
                have c11b0 : decide (0 < t526) = true := decide_eq_true c11
                clear c11
                by_cases c12 : x3_1.length < 17592186044416
                · rw [if_pos c12] at H
                  have LMc12 := Aside0.mk c12
                  clear c12
                  obtain ⟨y528, hy528⟩ : ∃ y_ : List (S28), y_ = (x3_1 ++ [(⟨32, Int.tmod ((rd_T28 l0 x4_1).f1) 4⟩ : S28)]) := ⟨_, rfl⟩
                  replace H : (flongref03_Clean.l0 k1 l0 y528 (wrap64 (x4_1 + 1))) = some r := by first | (rw [hy528]; with_reducible exact H) | (have H2_ := (Option.bind_some _ _).symm.trans H; rw [hy528]; with_reducible exact H2_) | (have H2_ := (Option.bind_some _ _).symm.trans H; with_reducible exact H2_) | with_reducible exact H | (rw [hy528]; exact H) | exact H
                  have Ny528 := Aside0.mk hy528
                  clear hy528
                  have H' := Aside0.mk H
                  clear H
                  have p519 : 0 ≤ (x4_1 : Int) := of_decide_eq_true (by first | (with_reducible assumption) | assumption)
                  have q519 : x4_1 < (l0.length : Int) := of_decide_eq_true (by first | (with_reducible assumption) | assumption)
                  obtain ⟨ad519, e519, hx519_0, hx519_1⟩ := at_T28 HR0.out x4_1 p519 q519
                  cases e519
                  replace hx519_0 := (HB.out.cell (World.block_lt_of_cell? w _ hx519_0)).trans hx519_0
                  replace hx519_1 := (HB.out.cell (World.block_lt_of_cell? w _ hx519_1)).trans hx519_1
                  replace p519 := eq_true p519
                  replace q519 := eq_true q519
                  go_wp2_with (first | ((with_reducible refine gate_callee (f := 14) rfl ?_); refine goesL_ (some 17) rfl rfl Tryd.func14 (by kernel_rfl) rfl #[.int .i32 ((rd_T28 l0 x4_1).f0)] rfl (by (try simp only [List.map_toArray, List.map_cons, List.map_nil]); first | done | rfl | (simp only [List.length_drop, List.length_take]; rfl)) ?_; (with_reducible refine (flongref02_Safe.calls ((rd_T28 l0 x4_1).f0) t520 _ A4.out).mono ?_); rintro e w' ⟨rfl, ⟨nd, rfl⟩⟩; refine ⟨_, rfl, ?_⟩; have p521 : 0 ≤ (x4_1 : Int) := of_decide_eq_true (by first | (with_reducible assumption) | assumption); have q521 : x4_1 < (l0.length : Int) := of_decide_eq_true (by first | (with_reducible assumption) | assumption); obtain ⟨ad521, e521, hx521_0, hx521_1⟩ := at_T28 HR0.out x4_1 p521 q521; obtain rfl : ad519 = ad521 := (by injection e521); replace hx521_0 := (HB.out.cell (World.block_lt_of_cell? w _ hx521_0)).trans hx521_0; replace hx521_1 := (HB.out.cell (World.block_lt_of_cell? w _ hx521_1)).trans hx521_1; replace p521 := eq_true p521; replace q521 := eq_true q521; obtain ⟨Ao13, co13, eo13⟩ := Kd.R_slice HO_3.out; subst eo13) | (go_at_call 13; (with_reducible refine (flongref02_Width.calls k1 32 t526 _ A10.out).mono ?_); rintro e w14 ⟨rfl, hb⟩; have n0_ := Aside0.mk (Kd.R_below (by (with_reducible repeat (first | apply Kd.R_alloc | apply Kd.R_drewN | apply Kd.R_drew)); exact HO_3.out) hb); have n1_ := Aside0.mk (below_step (by repeat (first | (with_reducible first | exact HB.out | apply below_alloc | apply pw_below_drewN | apply below_drew1) | exact HB.out)) hb); clear HO_3; clear HB; have HO_3 := n0_; have HB := n1_; clear n0_ n1_; (try clear hb); (try clear hb2); (try clear hk); (try clear hi); have p527 : 0 ≤ (x4_1 : Int) := of_decide_eq_true (by first | (with_reducible assumption) | assumption); have q527 : x4_1 < (l0.length : Int) := of_decide_eq_true (by first | (with_reducible assumption) | assumption); obtain ⟨ad527, e527, hx527_0, hx527_1⟩ := at_T28 HR0.out x4_1 p527 q527; obtain rfl : ad519 = ad527 := (by injection e527); replace hx527_0 := (HB.out.cell (World.block_lt_of_cell? w _ hx527_0)).trans hx527_0; replace hx527_1 := (HB.out.cell (World.block_lt_of_cell? w _ hx527_1)).trans hx527_1; replace p527 := eq_true p527; replace q527 := eq_true q527) | ((with_reducible refine gate_builtin (b := .append) (xs := #[.tmp 32, .tmp 41]) rfl ?_); at_builtin; refine Kd.R_append k28 (w0 := w) w.heap.size rfl (.tmp 32) (.tmp 41) 22 28 (.agg #[(.int .i32 0), (.int .u8 0)]) 8 rfl Tryd.underlying22 info28 rfl (by decide) (by omega) (.slice Ao13 x3_1.length co13) x3_1 (⟨32, Int.tmod ((rd_T28 l0 x4_1).f1) 4⟩ : S28) [.int .i32 32, .int .u8 (Int.tmod ((rd_T28 l0 x4_1).f1) 4)] (fun _ => True) (fun _ => False) rfl rfl ?aP (fun _ hk => hk.elim) ?aF ?aO ?aB ?aS ?aL ?_; (case aP => exact k28_mkM _ _ _ (⟨32, Int.tmod ((rd_T28 l0 x4_1).f1) 4⟩ : S28)); (case aB => exact (by repeat (first | (with_reducible first | exact HB.out | apply below_alloc | apply pw_below_drewN | apply below_drew1) | exact HB.out))); (case aF => exact (fun _ _ => trivial)); (case aO => exact (by (with_reducible repeat (first | apply Kd.R_alloc | apply Kd.R_drewN | apply Kd.R_drew)); exact HO_3.out)); (case aS => exact (below_size (by repeat (first | (with_reducible first | exact HB.out | apply below_alloc | apply pw_below_drewN | apply below_drew1) | exact HB.out)))); (case aL => have := LMc12.out; omega); intro v529 w15 ho hb hg hat; rw [← Ny528.out] at ho; have n0_ := Aside0.mk (hb); have n1_ := Aside0.mk (ho); clear HB; clear HO_3; have HB := n0_; have HO530 := n1_; clear n0_ n1_; clear ho hb hg hat))
                  go_roundg k1
                  case measure => have := HK1.out; omega
                  case rel => exact ⟨(y528), (wrap64 (x4_1 + 1)), (by first | rfl | (simp; done) | (simp [*]; done)), H', ⟨by have := HK1.out; omega⟩, ⟨by (with_reducible repeat (first | apply Kd.R_alloc | apply Kd.R_drewN | apply Kd.R_drew)); exact HO530.out⟩, ⟨by repeat (first | (with_reducible first | exact HB.out | apply below_alloc | apply pw_below_drewN | apply below_drew1) | exact HB.out)⟩⟩
                · rw [if_neg c12] at H
                  exact absurd H (by simp)
              · rw [if_neg c11] at H
                have c11b0 : decide (0 < t526) = false := decide_eq_false c11
                clear c11
                have H' := Aside0.mk H
                clear H
                have p519 : 0 ≤ (x4_1 : Int) := of_decide_eq_true (by first | (with_reducible assumption) | assumption)
                have q519 : x4_1 < (l0.length : Int) := of_decide_eq_true (by first | (with_reducible assumption) | assumption)
                obtain ⟨ad519, e519, hx519_0, hx519_1⟩ := at_T28 HR0.out x4_1 p519 q519
                cases e519
                replace hx519_0 := (HB.out.cell (World.block_lt_of_cell? w _ hx519_0)).trans hx519_0
                replace hx519_1 := (HB.out.cell (World.block_lt_of_cell? w _ hx519_1)).trans hx519_1
                replace p519 := eq_true p519
                replace q519 := eq_true q519
                go_wp2_with (first | ((with_reducible refine gate_callee (f := 14) rfl ?_); refine goesL_ (some 17) rfl rfl Tryd.func14 (by kernel_rfl) rfl #[.int .i32 ((rd_T28 l0 x4_1).f0)] rfl (by (try simp only [List.map_toArray, List.map_cons, List.map_nil]); first | done | rfl | (simp only [List.length_drop, List.length_take]; rfl)) ?_; (with_reducible refine (flongref02_Safe.calls ((rd_T28 l0 x4_1).f0) t520 _ A4.out).mono ?_); rintro e w' ⟨rfl, ⟨nd, rfl⟩⟩; refine ⟨_, rfl, ?_⟩; have p521 : 0 ≤ (x4_1 : Int) := of_decide_eq_true (by first | (with_reducible assumption) | assumption); have q521 : x4_1 < (l0.length : Int) := of_decide_eq_true (by first | (with_reducible assumption) | assumption); obtain ⟨ad521, e521, hx521_0, hx521_1⟩ := at_T28 HR0.out x4_1 p521 q521; obtain rfl : ad519 = ad521 := (by injection e521); replace hx521_0 := (HB.out.cell (World.block_lt_of_cell? w _ hx521_0)).trans hx521_0; replace hx521_1 := (HB.out.cell (World.block_lt_of_cell? w _ hx521_1)).trans hx521_1; replace p521 := eq_true p521; replace q521 := eq_true q521; obtain ⟨Ao16, co16, eo16⟩ := Kd.R_slice HO_3.out; subst eo16) | (go_at_call 13; (with_reducible refine (flongref02_Width.calls k1 32 t526 _ A10.out).mono ?_); rintro e w17 ⟨rfl, hb⟩; have n0_ := Aside0.mk (Kd.R_below (by (with_reducible repeat (first | apply Kd.R_alloc | apply Kd.R_drewN | apply Kd.R_drew)); exact HO_3.out) hb); have n1_ := Aside0.mk (below_step (by repeat (first | (with_reducible first | exact HB.out | apply below_alloc | apply pw_below_drewN | apply below_drew1) | exact HB.out)) hb); clear HO_3; clear HB; have HO_3 := n0_; have HB := n1_; clear n0_ n1_; (try clear hb); (try clear hb2); (try clear hk); (try clear hi)))
                go_roundg k1
                case measure => have := HK1.out; omega
                case rel => exact ⟨(x3_1), (wrap64 (x4_1 + 1)), (by first | rfl | (simp; done) | (simp [*]; done)), H', ⟨by have := HK1.out; omega⟩, ⟨by (with_reducible repeat (first | apply Kd.R_alloc | apply Kd.R_drewN | apply Kd.R_drew)); exact HO_3.out⟩, ⟨by repeat (first | (with_reducible first | exact HB.out | apply below_alloc | apply pw_below_drewN | apply below_drew1) | exact HB.out)⟩⟩
          · rw [if_neg c5] at H
            have c5b0 : (((rd_T28 l0 x4_1).f0) == 160) = false := beq_eq_false_iff_ne.mpr c5
            have c5b1 : (((rd_T28 l0 x4_1).f0) != 160) = true := bne_iff_ne.mpr c5
            by_cases c18 : (x3_1.length : Int) > 0
            · rw [if_pos c18] at H
              have c18b0 : decide (0 < (x3_1.length : Int)) = true := decide_eq_true c18
              have c18b1 : decide (0 < x3_1.length) = true := decide_eq_true (by omega)
              clear c18
              by_cases c19 : x3_1.length < 17592186044416
              · rw [if_pos c19] at H
                have LMc19 := Aside0.mk c19
                clear c19
                obtain ⟨y532, hy532⟩ : ∃ y_ : List (S28), y_ = (x3_1 ++ [(⟨t520, Int.tmod ((rd_T28 l0 x4_1).f1) 4⟩ : S28)]) := ⟨_, rfl⟩
                replace H : (flongref03_Clean.l0 k1 l0 y532 (wrap64 (x4_1 + 1))) = some r := by first | (rw [hy532]; with_reducible exact H) | (have H2_ := (Option.bind_some _ _).symm.trans H; rw [hy532]; with_reducible exact H2_) | (have H2_ := (Option.bind_some _ _).symm.trans H; with_reducible exact H2_) | with_reducible exact H | (rw [hy532]; exact H) | exact H
                have Ny532 := Aside0.mk hy532
                clear hy532
                have H' := Aside0.mk H
                clear H
                have p519 : 0 ≤ (x4_1 : Int) := of_decide_eq_true (by first | (with_reducible assumption) | assumption)
                have q519 : x4_1 < (l0.length : Int) := of_decide_eq_true (by first | (with_reducible assumption) | assumption)
                obtain ⟨ad519, e519, hx519_0, hx519_1⟩ := at_T28 HR0.out x4_1 p519 q519
                cases e519
                replace hx519_0 := (HB.out.cell (World.block_lt_of_cell? w _ hx519_0)).trans hx519_0
                replace hx519_1 := (HB.out.cell (World.block_lt_of_cell? w _ hx519_1)).trans hx519_1
                replace p519 := eq_true p519
                replace q519 := eq_true q519
                go_wp2_with (first | ((with_reducible refine gate_callee (f := 14) rfl ?_); refine goesL_ (some 17) rfl rfl Tryd.func14 (by kernel_rfl) rfl #[.int .i32 ((rd_T28 l0 x4_1).f0)] rfl (by (try simp only [List.map_toArray, List.map_cons, List.map_nil]); first | done | rfl | (simp only [List.length_drop, List.length_take]; rfl)) ?_; (with_reducible refine (flongref02_Safe.calls ((rd_T28 l0 x4_1).f0) t520 _ A4.out).mono ?_); rintro e w' ⟨rfl, ⟨nd, rfl⟩⟩; refine ⟨_, rfl, ?_⟩; have p521 : 0 ≤ (x4_1 : Int) := of_decide_eq_true (by first | (with_reducible assumption) | assumption); have q521 : x4_1 < (l0.length : Int) := of_decide_eq_true (by first | (with_reducible assumption) | assumption); obtain ⟨ad521, e521, hx521_0, hx521_1⟩ := at_T28 HR0.out x4_1 p521 q521; obtain rfl : ad519 = ad521 := (by injection e521); replace hx521_0 := (HB.out.cell (World.block_lt_of_cell? w _ hx521_0)).trans hx521_0; replace hx521_1 := (HB.out.cell (World.block_lt_of_cell? w _ hx521_1)).trans hx521_1; replace p521 := eq_true p521; replace q521 := eq_true q521; obtain ⟨Ao20, co20, eo20⟩ := Kd.R_slice HO_3.out; subst eo20; have p531 : 0 ≤ (x4_1 : Int) := of_decide_eq_true (by first | (with_reducible assumption) | assumption); have q531 : x4_1 < (l0.length : Int) := of_decide_eq_true (by first | (with_reducible assumption) | assumption); obtain ⟨ad531, e531, hx531_0, hx531_1⟩ := at_T28 HR0.out x4_1 p531 q531; obtain rfl : ad519 = ad531 := (by injection e531); replace hx531_0 := (HB.out.cell (World.block_lt_of_cell? w _ hx531_0)).trans hx531_0; replace hx531_1 := (HB.out.cell (World.block_lt_of_cell? w _ hx531_1)).trans hx531_1; replace p531 := eq_true p531; replace q531 := eq_true q531) | ((with_reducible refine gate_builtin (b := .append) (xs := #[.tmp 32, .tmp 41]) rfl ?_); at_builtin; refine Kd.R_append k28 (w0 := w) w.heap.size rfl (.tmp 32) (.tmp 41) 22 28 (.agg #[(.int .i32 0), (.int .u8 0)]) 8 rfl Tryd.underlying22 info28 rfl (by decide) (by omega) (.slice Ao20 x3_1.length co20) x3_1 (⟨t520, Int.tmod ((rd_T28 l0 x4_1).f1) 4⟩ : S28) [.int .i32 t520, .int .u8 (Int.tmod ((rd_T28 l0 x4_1).f1) 4)] (fun _ => True) (fun _ => False) rfl rfl ?aP (fun _ hk => hk.elim) ?aF ?aO ?aB ?aS ?aL ?_; (case aP => exact k28_mkM _ _ _ (⟨t520, Int.tmod ((rd_T28 l0 x4_1).f1) 4⟩ : S28)); (case aB => exact (by repeat (first | (with_reducible first | exact HB.out | apply below_alloc | apply pw_below_drewN | apply below_drew1) | exact HB.out))); (case aF => exact (fun _ _ => trivial)); (case aO => exact (by (with_reducible repeat (first | apply Kd.R_alloc | apply Kd.R_drewN | apply Kd.R_drew)); exact HO_3.out)); (case aS => exact (below_size (by repeat (first | (with_reducible first | exact HB.out | apply below_alloc | apply pw_below_drewN | apply below_drew1) | exact HB.out)))); (case aL => have := LMc19.out; omega); intro v533 w21 ho hb hg hat; rw [← Ny532.out] at ho; have n0_ := Aside0.mk (hb); have n1_ := Aside0.mk (ho); clear HB; clear HO_3; have HB := n0_; have HO534 := n1_; clear n0_ n1_; clear ho hb hg hat))
                go_roundg k1
                case measure => have := HK1.out; omega
                case rel => exact ⟨(y532), (wrap64 (x4_1 + 1)), (by first | rfl | (simp; done) | (simp [*]; done)), H', ⟨by have := HK1.out; omega⟩, ⟨by (with_reducible repeat (first | apply Kd.R_alloc | apply Kd.R_drewN | apply Kd.R_drew)); exact HO534.out⟩, ⟨by repeat (first | (with_reducible first | exact HB.out | apply below_alloc | apply pw_below_drewN | apply below_drew1) | exact HB.out)⟩⟩
              · rw [if_neg c19] at H
                exact absurd H (by simp)
            · rw [if_neg c18] at H
              have c18b0 : decide (0 < (x3_1.length : Int)) = false := decide_eq_false c18
              have c18b1 : decide (0 < x3_1.length) = false := decide_eq_false (by omega)
              clear c18
              replace H := Option.bind_eq_some_iff.mp H
              obtain ⟨t535, A220, H⟩ := H
              replace H : (if t535 > 0 then (if x3_1.length < 17592186044416 then (flongref03_Clean.l0 k1 l0 (x3_1 ++ [(⟨t520, Int.tmod ((rd_T28 l0 x4_1).f1) 4⟩ : S28)]) (wrap64 (x4_1 + 1))) else (none)) else (flongref03_Clean.l0 k1 l0 x3_1 (wrap64 (x4_1 + 1)))) = some r := H
              have A22 := Aside0.mk A220
              clear A220
              by_cases c23 : t535 > 0
              · rw [if_pos c23] at H
                have c23b0 : decide (0 < t535) = true := decide_eq_true c23
                clear c23
                by_cases c24 : x3_1.length < 17592186044416
                · rw [if_pos c24] at H
                  have LMc24 := Aside0.mk c24
                  clear c24
                  obtain ⟨y537, hy537⟩ : ∃ y_ : List (S28), y_ = (x3_1 ++ [(⟨t520, Int.tmod ((rd_T28 l0 x4_1).f1) 4⟩ : S28)]) := ⟨_, rfl⟩
                  replace H : (flongref03_Clean.l0 k1 l0 y537 (wrap64 (x4_1 + 1))) = some r := by first | (rw [hy537]; with_reducible exact H) | (have H2_ := (Option.bind_some _ _).symm.trans H; rw [hy537]; with_reducible exact H2_) | (have H2_ := (Option.bind_some _ _).symm.trans H; with_reducible exact H2_) | with_reducible exact H | (rw [hy537]; exact H) | exact H
                  have Ny537 := Aside0.mk hy537
                  clear hy537
                  have H' := Aside0.mk H
                  clear H
                  have p519 : 0 ≤ (x4_1 : Int) := of_decide_eq_true (by first | (with_reducible assumption) | assumption)
                  have q519 : x4_1 < (l0.length : Int) := of_decide_eq_true (by first | (with_reducible assumption) | assumption)
                  obtain ⟨ad519, e519, hx519_0, hx519_1⟩ := at_T28 HR0.out x4_1 p519 q519
                  cases e519
                  replace hx519_0 := (HB.out.cell (World.block_lt_of_cell? w _ hx519_0)).trans hx519_0
                  replace hx519_1 := (HB.out.cell (World.block_lt_of_cell? w _ hx519_1)).trans hx519_1
                  replace p519 := eq_true p519
                  replace q519 := eq_true q519
                  go_wp2_with (first | ((with_reducible refine gate_callee (f := 14) rfl ?_); refine goesL_ (some 17) rfl rfl Tryd.func14 (by kernel_rfl) rfl #[.int .i32 ((rd_T28 l0 x4_1).f0)] rfl (by (try simp only [List.map_toArray, List.map_cons, List.map_nil]); first | done | rfl | (simp only [List.length_drop, List.length_take]; rfl)) ?_; (with_reducible refine (flongref02_Safe.calls ((rd_T28 l0 x4_1).f0) t520 _ A4.out).mono ?_); rintro e w' ⟨rfl, ⟨nd, rfl⟩⟩; refine ⟨_, rfl, ?_⟩; have p521 : 0 ≤ (x4_1 : Int) := of_decide_eq_true (by first | (with_reducible assumption) | assumption); have q521 : x4_1 < (l0.length : Int) := of_decide_eq_true (by first | (with_reducible assumption) | assumption); obtain ⟨ad521, e521, hx521_0, hx521_1⟩ := at_T28 HR0.out x4_1 p521 q521; obtain rfl : ad519 = ad521 := (by injection e521); replace hx521_0 := (HB.out.cell (World.block_lt_of_cell? w _ hx521_0)).trans hx521_0; replace hx521_1 := (HB.out.cell (World.block_lt_of_cell? w _ hx521_1)).trans hx521_1; replace p521 := eq_true p521; replace q521 := eq_true q521; obtain ⟨Ao25, co25, eo25⟩ := Kd.R_slice HO_3.out; subst eo25) | (go_at_call 13; (with_reducible refine (flongref02_Width.calls k1 t520 t535 _ A22.out).mono ?_); rintro e w26 ⟨rfl, hb⟩; have n0_ := Aside0.mk (Kd.R_below (by (with_reducible repeat (first | apply Kd.R_alloc | apply Kd.R_drewN | apply Kd.R_drew)); exact HO_3.out) hb); have n1_ := Aside0.mk (below_step (by repeat (first | (with_reducible first | exact HB.out | apply below_alloc | apply pw_below_drewN | apply below_drew1) | exact HB.out)) hb); clear HO_3; clear HB; have HO_3 := n0_; have HB := n1_; clear n0_ n1_; (try clear hb); (try clear hb2); (try clear hk); (try clear hi); have p536 : 0 ≤ (x4_1 : Int) := of_decide_eq_true (by first | (with_reducible assumption) | assumption); have q536 : x4_1 < (l0.length : Int) := of_decide_eq_true (by first | (with_reducible assumption) | assumption); obtain ⟨ad536, e536, hx536_0, hx536_1⟩ := at_T28 HR0.out x4_1 p536 q536; obtain rfl : ad519 = ad536 := (by injection e536); replace hx536_0 := (HB.out.cell (World.block_lt_of_cell? w _ hx536_0)).trans hx536_0; replace hx536_1 := (HB.out.cell (World.block_lt_of_cell? w _ hx536_1)).trans hx536_1; replace p536 := eq_true p536; replace q536 := eq_true q536) | ((with_reducible refine gate_builtin (b := .append) (xs := #[.tmp 32, .tmp 41]) rfl ?_); at_builtin; refine Kd.R_append k28 (w0 := w) w.heap.size rfl (.tmp 32) (.tmp 41) 22 28 (.agg #[(.int .i32 0), (.int .u8 0)]) 8 rfl Tryd.underlying22 info28 rfl (by decide) (by omega) (.slice Ao25 x3_1.length co25) x3_1 (⟨t520, Int.tmod ((rd_T28 l0 x4_1).f1) 4⟩ : S28) [.int .i32 t520, .int .u8 (Int.tmod ((rd_T28 l0 x4_1).f1) 4)] (fun _ => True) (fun _ => False) rfl rfl ?aP (fun _ hk => hk.elim) ?aF ?aO ?aB ?aS ?aL ?_; (case aP => exact k28_mkM _ _ _ (⟨t520, Int.tmod ((rd_T28 l0 x4_1).f1) 4⟩ : S28)); (case aB => exact (by repeat (first | (with_reducible first | exact HB.out | apply below_alloc | apply pw_below_drewN | apply below_drew1) | exact HB.out))); (case aF => exact (fun _ _ => trivial)); (case aO => exact (by (with_reducible repeat (first | apply Kd.R_alloc | apply Kd.R_drewN | apply Kd.R_drew)); exact HO_3.out)); (case aS => exact (below_size (by repeat (first | (with_reducible first | exact HB.out | apply below_alloc | apply pw_below_drewN | apply below_drew1) | exact HB.out)))); (case aL => have := LMc24.out; omega); intro v538 w27 ho hb hg hat; rw [← Ny537.out] at ho; have n0_ := Aside0.mk (hb); have n1_ := Aside0.mk (ho); clear HB; clear HO_3; have HB := n0_; have HO539 := n1_; clear n0_ n1_; clear ho hb hg hat))
                  go_roundg k1
                  case measure => have := HK1.out; omega
                  case rel => exact ⟨(y537), (wrap64 (x4_1 + 1)), (by first | rfl | (simp; done) | (simp [*]; done)), H', ⟨by have := HK1.out; omega⟩, ⟨by (with_reducible repeat (first | apply Kd.R_alloc | apply Kd.R_drewN | apply Kd.R_drew)); exact HO539.out⟩, ⟨by repeat (first | (with_reducible first | exact HB.out | apply below_alloc | apply pw_below_drewN | apply below_drew1) | exact HB.out)⟩⟩
                · rw [if_neg c24] at H
                  exact absurd H (by simp)
              · rw [if_neg c23] at H
                have c23b0 : decide (0 < t535) = false := decide_eq_false c23
                clear c23
                have H' := Aside0.mk H
                clear H
                have p519 : 0 ≤ (x4_1 : Int) := of_decide_eq_true (by first | (with_reducible assumption) | assumption)
                have q519 : x4_1 < (l0.length : Int) := of_decide_eq_true (by first | (with_reducible assumption) | assumption)
                obtain ⟨ad519, e519, hx519_0, hx519_1⟩ := at_T28 HR0.out x4_1 p519 q519
                cases e519
                replace hx519_0 := (HB.out.cell (World.block_lt_of_cell? w _ hx519_0)).trans hx519_0
                replace hx519_1 := (HB.out.cell (World.block_lt_of_cell? w _ hx519_1)).trans hx519_1
                replace p519 := eq_true p519
                replace q519 := eq_true q519
                go_wp2_with (first | ((with_reducible refine gate_callee (f := 14) rfl ?_); refine goesL_ (some 17) rfl rfl Tryd.func14 (by kernel_rfl) rfl #[.int .i32 ((rd_T28 l0 x4_1).f0)] rfl (by (try simp only [List.map_toArray, List.map_cons, List.map_nil]); first | done | rfl | (simp only [List.length_drop, List.length_take]; rfl)) ?_; (with_reducible refine (flongref02_Safe.calls ((rd_T28 l0 x4_1).f0) t520 _ A4.out).mono ?_); rintro e w' ⟨rfl, ⟨nd, rfl⟩⟩; refine ⟨_, rfl, ?_⟩; have p521 : 0 ≤ (x4_1 : Int) := of_decide_eq_true (by first | (with_reducible assumption) | assumption); have q521 : x4_1 < (l0.length : Int) := of_decide_eq_true (by first | (with_reducible assumption) | assumption); obtain ⟨ad521, e521, hx521_0, hx521_1⟩ := at_T28 HR0.out x4_1 p521 q521; obtain rfl : ad519 = ad521 := (by injection e521); replace hx521_0 := (HB.out.cell (World.block_lt_of_cell? w _ hx521_0)).trans hx521_0; replace hx521_1 := (HB.out.cell (World.block_lt_of_cell? w _ hx521_1)).trans hx521_1; replace p521 := eq_true p521; replace q521 := eq_true q521; obtain ⟨Ao28, co28, eo28⟩ := Kd.R_slice HO_3.out; subst eo28) | (go_at_call 13; (with_reducible refine (flongref02_Width.calls k1 t520 t535 _ A22.out).mono ?_); rintro e w29 ⟨rfl, hb⟩; have n0_ := Aside0.mk (Kd.R_below (by (with_reducible repeat (first | apply Kd.R_alloc | apply Kd.R_drewN | apply Kd.R_drew)); exact HO_3.out) hb); have n1_ := Aside0.mk (below_step (by repeat (first | (with_reducible first | exact HB.out | apply below_alloc | apply pw_below_drewN | apply below_drew1) | exact HB.out)) hb); clear HO_3; clear HB; have HO_3 := n0_; have HB := n1_; clear n0_ n1_; (try clear hb); (try clear hb2); (try clear hk); (try clear hi)))
                go_roundg k1
                case measure => have := HK1.out; omega
                case rel => exact ⟨(x3_1), (wrap64 (x4_1 + 1)), (by first | rfl | (simp; done) | (simp [*]; done)), H', ⟨by have := HK1.out; omega⟩, ⟨by (with_reducible repeat (first | apply Kd.R_alloc | apply Kd.R_drewN | apply Kd.R_drew)); exact HO_3.out⟩, ⟨by repeat (first | (with_reducible first | exact HB.out | apply below_alloc | apply pw_below_drewN | apply below_drew1) | exact HB.out)⟩⟩
        · rw [if_neg c3] at H
          exact absurd H (by simp)
      · rw [if_neg c2] at H
        have c2b0 : decide (x4_1 < (l0.length : Int)) = false := decide_eq_false c2
        clear c2
        obtain rfl := Option.some.inj H
        go_wp2
        go_ret
        exact ⟨_, by first | rfl | (simp [errW_none, errW_some] <;> rfl) | (simp [*, errW_none, errW_some] <;> rfl), by (with_reducible repeat (first | apply Kd.R_alloc | apply Kd.R_drewN | apply Kd.R_drew)); exact HO_3.out, by repeat (first | (with_reducible first | exact HB.out | apply below_alloc | apply pw_below_drewN | apply below_drew1) | exact HB.out)⟩

/-! ### flongref03_Trim: function 33 -/
def flongref03_Trim.l0 : Nat → List (S28) → Int → Option ((List (S28)))
  | 0, _, _ => none
  | k + 1, x0, x3 => if x3 > 0 then (if 0 ≤ (wrap64 (x3 - 1)) then (if (wrap64 (x3 - 1)) < (x0.length : Int) then (if ((rd_T28 x0 (wrap64 (x3 - 1))).f0) = 32 then (flongref03_Trim.l0 k x0 (wrap64 (x3 - 1))) else (if 0 ≤ x3 then (if x3 ≤ (x0.length : Int) then (some (x0.take (x3 : Int).toNat)) else (none)) else (none))) else (none)) else (none)) else (if 0 ≤ x3 then (if x3 ≤ (x0.length : Int) then (some (x0.take (x3 : Int).toNat)) else (none)) else (none))
def flongref03_Trim.f (k : Nat) (l0 : List (S28)) : Option ((List (S28))) := flongref03_Trim.l0 k l0 (l0.length : Int)
theorem flongref03_Trim.mono_l : ∀ k, (∀ y0 y1, LeO (flongref03_Trim.l0 k y0 y1) (flongref03_Trim.l0 (k + 1) y0 y1))
  | 0 => fun _ _ r h => by simp [flongref03_Trim.l0] at h
  | k + 1 => by
    have ih0 := flongref03_Trim.mono_l k
    · intro y0 y1
      unfold flongref03_Trim.l0
      repeat' first
      | (with_reducible exact ih0 _ _)
      | (with_reducible exact LeO.refl _)
      | (with_reducible exact LeO.none _)
      | (with_reducible refine LeO.ite ?_ ?_)
      | (with_reducible refine LeO.bind ?_ (fun _ => ?_))
      | exact ih0 _ _
      | exact LeO.none _
      | refine LeO.ite ?_ ?_
      | refine LeO.bind ?_ (fun _ => ?_)
theorem flongref03_Trim.mono : ∀ a0 k, LeO (flongref03_Trim.f k a0) (flongref03_Trim.f (k + 1) a0) := by
  intro a0 k
  have ih0 := flongref03_Trim.mono_l k
  unfold flongref03_Trim.f
  repeat' first
      | (with_reducible exact ih0 _ _)
      | (with_reducible exact LeO.refl _)
      | (with_reducible exact LeO.none _)
      | (with_reducible refine LeO.ite ?_ ?_)
      | (with_reducible refine LeO.bind ?_ (fun _ => ?_))
      | exact ih0 _ _
      | exact LeO.none _
      | refine LeO.ite ?_ ?_
      | refine LeO.bind ?_ (fun _ => ?_)
set_option maxHeartbeats 8000000 in
set_option maxRecDepth 100000 in
theorem flongref03_Trim.calls (k : Nat) (P0_ : Nat → Prop) (A0 : Option Addr) (c0 : Nat) (l0 : List (S28)) (r : List (S28)) (w : World) (hs0 : Kd.V k28 28 w w.heap.size (fun k_ => P0_ k_) (.slice A0 l0.length c0) l0) (h : flongref03_Trim.f k l0 = some r) :
    Calls Tryd.prog 33 #[.slice A0 l0.length c0] w fun e w' => ∃ v0_ : Value, e = .returned (v0_) ∧ Kd.V k28 28 w' w.heap.size (fun k_ => (P0_ k_ ∨ w.heap.size ≤ k_)) v0_ r ∧ Below w.heap.size w w' := by
  have HO0 := Aside0.mk (show Kd.V k28 28 w w.heap.size (fun k_ => (P0_ k_ ∨ w.heap.size ≤ k_)) (.slice A0 l0.length c0) l0 from Kd.V_mono hs0 (fun k_ hk => .inl hk))
  have HB := Aside0.mk (Below.refl w.heap.size w)
  have H : (flongref03_Trim.l0 k l0 (l0.length : Int)) = some r := h
  clear h
  have H' := Aside0.mk H
  clear H
  go_enter Tryd.func33, Tryd.ntmps33
  go_wp2
  go_loopg [3] k (fun kq v3 w' => ∃ (x3_1 : Int), v3 = .int .i64 x3_1 ∧ Aside0 (flongref03_Trim.l0 kq l0 x3_1 = some r) ∧ Aside0 (kq ≤ k) ∧ Aside0 (Kd.V k28 28 w' w.heap.size (fun k_ => (P0_ k_ ∨ w.heap.size ≤ k_)) (.slice A0 l0.length c0) l0) ∧ Aside0 (Below w.heap.size w w'))
  case atStart => exact ⟨((l0.length : Int)), (by first | rfl | (simp; done) | (simp [*]; done)), H', ⟨Nat.le_refl _⟩, ⟨by (with_reducible repeat (first | apply Kd.V_alloc | apply Kd.V_drewN | apply Kd.V_drew)); exact HO0.out⟩, ⟨by repeat (first | (with_reducible first | exact HB.out | apply below_alloc | apply pw_below_drewN | apply below_drew1) | exact HB.out)⟩⟩
  case round =>
    clear H'
    obtain ⟨x3_1, rfl, HA, HK1, HO_0, HB⟩ := hrel
    cases gk with
    | zero => exact absurd HA.out (by simp [flongref03_Trim.l0])
    | succ k1 =>
      have H := HA.out
      clear HA
      simp only [flongref03_Trim.l0] at H
      by_cases c2 : x3_1 > 0
      · rw [if_pos c2] at H
        have c2b0 : decide (0 < x3_1) = true := decide_eq_true c2
        clear c2
        obtain ⟨ji3, hji3⟩ : ∃ j_ : Int, (wrap64 (x3_1 - 1)) = j_ := ⟨_, rfl⟩
        replace H : (if 0 ≤ (ji3) then (if (ji3) < (l0.length : Int) then (if ((rd_T28 l0 (ji3)).f0) = 32 then (flongref03_Trim.l0 k1 l0 ji3) else (if 0 ≤ x3_1 then (if x3_1 ≤ (l0.length : Int) then (some (l0.take (x3_1 : Int).toNat)) else (none)) else (none))) else (none)) else (none)) = some r := by first | (rw [hji3] at H; exact H) | (simp only [hji3] at H ⊢; exact H)
        have hji3w : (IntKind.i64.wrap (x3_1 - 1)) = ji3 := (i64_w _).trans hji3
        by_cases c4 : 0 ≤ (ji3)
        · rw [if_pos c4] at H
          have c4b0 : decide (0 ≤ (ji3)) = true := decide_eq_true c4
          clear c4
          by_cases c5 : (ji3) < (l0.length : Int)
          · rw [if_pos c5] at H
            have c5b0 : decide ((ji3) < (l0.length : Int)) = true := decide_eq_true c5
            clear c5
            by_cases c6 : ((rd_T28 l0 (ji3)).f0) = 32
            · rw [if_pos c6] at H
              have c6b0 : (((rd_T28 l0 (ji3)).f0) == 32) = true := beq_iff_eq.mpr c6
              have c6b1 : (((rd_T28 l0 (ji3)).f0) != 32) = false := bne_eq_false_iff_eq.mpr c6
              clear c6
              have H' := Aside0.mk H
              clear H
              have p540 : 0 ≤ ((ji3) : Int) := of_decide_eq_true (by first | (with_reducible assumption) | assumption)
              have q540 : (ji3) < (l0.length : Int) := of_decide_eq_true (by first | (with_reducible assumption) | assumption)
              obtain ⟨ad540, e540, hx540_0, hx540_1⟩ := at_T28 (Kd.V_reads' HO_0.out).2.2 (ji3) p540 q540
              cases e540
              replace p540 := eq_true p540
              replace q540 := eq_true q540
              go_wp2
              go_roundg k1
              case measure => have := HK1.out; omega
              case rel => exact ⟨(ji3), (by first | rfl | (simp; done) | (simp only [← hji3] <;> (first | rfl | simp)) | (simp [*]; done)), H', ⟨by have := HK1.out; omega⟩, ⟨by (with_reducible repeat (first | apply Kd.V_alloc | apply Kd.V_drewN | apply Kd.V_drew)); exact HO_0.out⟩, ⟨by repeat (first | (with_reducible first | exact HB.out | apply below_alloc | apply pw_below_drewN | apply below_drew1) | exact HB.out)⟩⟩
            · rw [if_neg c6] at H
              have c6b0 : (((rd_T28 l0 (ji3)).f0) == 32) = false := beq_eq_false_iff_ne.mpr c6
              have c6b1 : (((rd_T28 l0 (ji3)).f0) != 32) = true := bne_iff_ne.mpr c6
              by_cases c7 : 0 ≤ x3_1
              · rw [if_pos c7] at H
                have c7b0 := eq_true c7
                have c7b1 : decide (0 ≤ x3_1) = true := decide_eq_true c7
                clear c7
                by_cases c8 : x3_1 ≤ (l0.length : Int)
                · rw [if_pos c8] at H
                  have c8b0 := eq_true c8
                  have c8b1 : decide (x3_1 ≤ (l0.length : Int)) = true := decide_eq_true c8
                  clear c8
                  obtain ⟨y541, hy541⟩ : ∃ y_ : List (S28), y_ = (l0.take (x3_1 : Int).toNat) := ⟨_, rfl⟩
                  replace H : (some y541) = some r := by first | (rw [hy541]; with_reducible exact H) | (have H2_ := (Option.bind_some _ _).symm.trans H; rw [hy541]; with_reducible exact H2_) | (have H2_ := (Option.bind_some _ _).symm.trans H; with_reducible exact H2_) | with_reducible exact H | (rw [hy541]; exact H) | exact H
                  have Ny541 := Aside0.mk hy541
                  clear hy541
                  obtain rfl := Option.some.inj H
                  have p540 : 0 ≤ ((ji3) : Int) := of_decide_eq_true (by first | (with_reducible assumption) | assumption)
                  have q540 : (ji3) < (l0.length : Int) := of_decide_eq_true (by first | (with_reducible assumption) | assumption)
                  obtain ⟨ad540, e540, hx540_0, hx540_1⟩ := at_T28 (Kd.V_reads' HO_0.out).2.2 (ji3) p540 q540
                  cases e540
                  replace p540 := eq_true p540
                  replace q540 := eq_true q540
                  have q9 : (x3_1 : Int) ≤ ((l0.length : Int) : Int) := of_decide_eq_true (by first | (with_reducible assumption) | assumption)
                  obtain ⟨i09, hi09, _, hsz9, _⟩ := info_parts info28
                  have hroom9 : l0.length ≤ c0 := (Kd.V_reads' HO_0.out).2.1
                  have hC9 : Kd.F k28 _ _ (some ad540) l0.length l0 := (Kd.V_at (base := w.heap.size) HO_0.out).2.2
                  have hcut9 := cut_to (P := Tryd.prog) 22 28 .i64 Tryd.underlying22 hi09 (some ad540) l0.length c0 x3_1 (of_decide_eq_true (by first | (with_reducible assumption) | assumption)) q9 hroom9
                  have hr9 := Kd.F_take (m := (x3_1 : Int).toNat) hC9 (by omega)
                  have hy9 : y541.length = (x3_1 : Int).toNat := (by rw [Ny541.out, List.length_take]; omega)
                  rw [← Ny541.out] at hr9
                  rw [← hy9] at hcut9
                  have HO545 := Aside0.mk (show Kd.V k28 28 _ w.heap.size _ (.slice (some ad540) y541.length c0) y541 from Kd.V_mk (by omega) hr9)
                  have HC545 := Aside0.mk (show y541.length ≤ c0 from by omega)
                  clear hr9 hC9 hroom9 hi09 hsz9
                  have KY9 := Aside0.mk hy9
                  clear hy9
                  replace q9 := eq_true q9
                  go_wp2
                  go_ret
                  exact ⟨_, by first | rfl | (simp [errW_none, errW_some] <;> rfl) | (simp only [← hji3]; first | rfl | (simp [errW_none, errW_some] <;> rfl)) | (simp [*, errW_none, errW_some] <;> rfl), by (with_reducible repeat (first | apply Kd.V_alloc | apply Kd.V_drewN | apply Kd.V_drew)); exact HO545.out, by repeat (first | (with_reducible first | exact HB.out | apply below_alloc | apply pw_below_drewN | apply below_drew1) | exact HB.out)⟩
                · rw [if_neg c8] at H
                  exact absurd H (by simp)
              · rw [if_neg c7] at H
                exact absurd H (by simp)
          · rw [if_neg c5] at H
            exact absurd H (by simp)
        · rw [if_neg c4] at H
          exact absurd H (by simp)
      · rw [if_neg c2] at H
        have c2b0 : decide (0 < x3_1) = false := decide_eq_false c2
        clear c2
        by_cases c10 : 0 ≤ x3_1
        · rw [if_pos c10] at H
          have c10b0 := eq_true c10
          have c10b1 : decide (0 ≤ x3_1) = true := decide_eq_true c10
          clear c10
          by_cases c11 : x3_1 ≤ (l0.length : Int)
          · rw [if_pos c11] at H
            have c11b0 := eq_true c11
            have c11b1 : decide (x3_1 ≤ (l0.length : Int)) = true := decide_eq_true c11
            clear c11
            obtain ⟨y546, hy546⟩ : ∃ y_ : List (S28), y_ = (l0.take (x3_1 : Int).toNat) := ⟨_, rfl⟩
            replace H : (some y546) = some r := by first | (rw [hy546]; with_reducible exact H) | (have H2_ := (Option.bind_some _ _).symm.trans H; rw [hy546]; with_reducible exact H2_) | (have H2_ := (Option.bind_some _ _).symm.trans H; with_reducible exact H2_) | with_reducible exact H | (rw [hy546]; exact H) | exact H
            have Ny546 := Aside0.mk hy546
            clear hy546
            obtain rfl := Option.some.inj H
            have q12 : (x3_1 : Int) ≤ ((l0.length : Int) : Int) := of_decide_eq_true (by first | (with_reducible assumption) | assumption)
            obtain ⟨i012, hi012, _, hsz12, _⟩ := info_parts info28
            have hroom12 : l0.length ≤ c0 := (Kd.V_reads' HO_0.out).2.1
            have hC12 : Kd.F k28 _ _ A0 l0.length l0 := (Kd.V_at (base := w.heap.size) HO_0.out).2.2
            have hcut12 := cut_to (P := Tryd.prog) 22 28 .i64 Tryd.underlying22 hi012 A0 l0.length c0 x3_1 (of_decide_eq_true (by first | (with_reducible assumption) | assumption)) q12 hroom12
            have hr12 := Kd.F_take (m := (x3_1 : Int).toNat) hC12 (by omega)
            have hy12 : y546.length = (x3_1 : Int).toNat := (by rw [Ny546.out, List.length_take]; omega)
            rw [← Ny546.out] at hr12
            rw [← hy12] at hcut12
            have HO550 := Aside0.mk (show Kd.V k28 28 _ w.heap.size _ (.slice A0 y546.length c0) y546 from Kd.V_mk (by omega) hr12)
            have HC550 := Aside0.mk (show y546.length ≤ c0 from by omega)
            clear hr12 hC12 hroom12 hi012 hsz12
            have KY12 := Aside0.mk hy12
            clear hy12
            replace q12 := eq_true q12
            go_wp2
            go_ret
            exact ⟨_, by first | rfl | (simp [errW_none, errW_some] <;> rfl) | (simp [*, errW_none, errW_some] <;> rfl), by (with_reducible repeat (first | apply Kd.V_alloc | apply Kd.V_drewN | apply Kd.V_drew)); exact HO550.out, by repeat (first | (with_reducible first | exact HB.out | apply below_alloc | apply pw_below_drewN | apply below_drew1) | exact HB.out)⟩
          · rw [if_neg c11] at H
            exact absurd H (by simp)
        · rw [if_neg c10] at H
          exact absurd H (by simp)

end Go.Proofs.YtdcbaefcgghbmaaDoor.X
