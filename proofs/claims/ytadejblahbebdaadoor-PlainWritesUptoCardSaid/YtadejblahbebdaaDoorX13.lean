-- Written by this session's xprint.py (a variant of the kit's printer). Not trusted: Lean checks it.
import Derived.Test.YtadejblahbebdaaDoorX0
import Derived.Test.YtadejblahbebdaaDoorX12
import Derived.Test.YtadejblahbebdaaDoorHandA
namespace Go.Proofs.YtadejblahbebdaaDoor.X
open Go.Proofs.YtadejblahbebdaaDoor.Hand
open Go.RowKit Go.Proofs.YtadejblahbebdaaDoorW.PrintWords Go.Proofs.YtadejblahbebdaaDoorW.PrintLast Go.Proofs.YtadejblahbebdaaDoorW.PrintMore
attribute [local go_sem] max2_int min2_int max_two min_two max_three min_three max_four min_four   -- for this text's walks alone
set_option linter.unusedVariables false
set_option linter.unusedSimpArgs false

/-! ### flongref17_Write: function 14 -/
def flongref17_Write.l0 : Nat → List (List (S37)) → ByteArray → Int → Option (List Int)
  | 0, _, _, _ => none
  | k + 1, x3, x4, x5 => if x5 < (x3.length : Int) then (if 0 ≤ x5 then ((flongref03_Text.f k (rd_L6 x3 x5)).bind fun t358 => (if x4.size + t358.size ≤ 9223372036854775807 then (if (x4 ++ t358).size + 1 ≤ 9223372036854775807 then (flongref17_Write.l0 k x3 ((x4 ++ t358) ++ (⟨#[10]⟩ : ByteArray)) (wrap64 (x5 + 1))) else (none)) else (none))) else (none)) else ((conv_bytes.f x4).bind fun t359 => (some t359))
def flongref17_Write.f (k : Nat) (l0 : List (S49)) : Option (List Int) := (flongref17_Rows.f k l0).bind fun t354 => (flongref17_Write.l0 k t354 (⟨#[]⟩ : ByteArray) 0)
theorem flongref17_Write.mono_l : ∀ k, (∀ y0 y1 y2, LeO (flongref17_Write.l0 k y0 y1 y2) (flongref17_Write.l0 (k + 1) y0 y1 y2))
  | 0 => fun _ _ _ r h => by simp [flongref17_Write.l0] at h
  | k + 1 => by
    have ih0 := flongref17_Write.mono_l k
    · intro y0 y1 y2
      unfold flongref17_Write.l0
      repeat' first
      | (with_reducible exact ih0 _ _ _)
      | (with_reducible exact flongref03_Text.mono _ _)
      | (with_reducible exact flongref17_Rows.mono _ _)
      | (with_reducible exact LeO.refl _)
      | (with_reducible exact LeO.none _)
      | (with_reducible refine LeO.ite ?_ ?_)
      | (with_reducible refine LeO.bind ?_ (fun _ => ?_))
      | exact ih0 _ _ _
      | exact flongref03_Text.mono _ _
      | exact flongref17_Rows.mono _ _
      | exact LeO.none _
      | refine LeO.ite ?_ ?_
      | refine LeO.bind ?_ (fun _ => ?_)
theorem flongref17_Write.mono : ∀ a0 k, LeO (flongref17_Write.f k a0) (flongref17_Write.f (k + 1) a0) := by
  intro a0 k
  have ih0 := flongref17_Write.mono_l k
  unfold flongref17_Write.f
  repeat' first
      | (with_reducible exact ih0 _ _ _)
      | (with_reducible exact flongref03_Text.mono _ _)
      | (with_reducible exact flongref17_Rows.mono _ _)
      | (with_reducible exact LeO.refl _)
      | (with_reducible exact LeO.none _)
      | (with_reducible refine LeO.ite ?_ ?_)
      | (with_reducible refine LeO.bind ?_ (fun _ => ?_))
      | exact ih0 _ _ _
      | exact flongref03_Text.mono _ _
      | exact flongref17_Rows.mono _ _
      | exact LeO.none _
      | refine LeO.ite ?_ ?_
      | refine LeO.bind ?_ (fun _ => ?_)
set_option maxHeartbeats 8000000 in
set_option maxRecDepth 100000 in
theorem flongref17_Write.calls (k : Nat) (A0 : Option Addr) (c0 : Nat) (l0 : List (S49)) (r : List Int) (w : World) (hr0 : Kd.C k49 w A0 l0.length l0) (hc0 : l0.length ≤ c0) (h : flongref17_Write.f k l0 = some r) :
    Calls Tryd.prog 14 #[.slice A0 l0.length c0] w fun e w' => ∃ v0_ : Value, e = .returned (v0_) ∧ Kd.V (Kd.int .u8) 5 w' w.heap.size (fun k_ => (w.heap.size ≤ k_)) v0_ r ∧ Below w.heap.size w w' := by
  have HR0 := Aside0.mk hr0
  have HC0 := Aside0.mk hc0
  clear hr0 hc0
  have HB := Aside0.mk (Below.refl w.heap.size w)
  have H : ((flongref17_Rows.f k l0).bind fun t354 => (flongref17_Write.l0 k t354 (⟨#[]⟩ : ByteArray) 0)) = some r := h
  clear h
  replace H := Option.bind_eq_some_iff.mp H
  obtain ⟨t354, A20, H⟩ := H
  replace H : (flongref17_Write.l0 k t354 (⟨#[]⟩ : ByteArray) 0) = some r := H
  have A2 := Aside0.mk A20
  clear A20
  have H' := Aside0.mk H
  clear H
  go_enter Tryd.func14, Tryd.ntmps14
  go_wp2_with (first | ((with_reducible refine gate_callee (f := 17) rfl ?_); refine goesL_ (some 7) rfl rfl Tryd.func17 (by kernel_rfl) rfl #[.slice A0 l0.length c0] rfl (by (try simp only [List.map_toArray, List.map_cons, List.map_nil]); first | done | rfl | (simp only [List.length_drop, List.length_take]; rfl)) ?_; (with_reducible refine (flongref17_Rows.calls k _ _ l0 t354 _ ?side1 ?side2 A2.out).mono ?_); (case side1 => repeat (first | exact HR0.out | (with_reducible refine Kd.C_alloc ?_ _) | (with_reducible refine Kd.C_drewN ?_ _) | (with_reducible refine Kd.C_drew ?_))); (case side2 => exact HC0.out); rintro e w3 ⟨v355, rfl, ho0, hb⟩; refine ⟨_, rfl, ?_⟩; have n0_ := Aside0.mk (Kd.S_lower (Kd.S_newM (M := fun k_ => (w.heap.size ≤ k_)) ho0 (below_size (by repeat (first | (with_reducible first | exact HB.out | apply below_alloc | apply pw_below_drewN | apply below_drew1) | exact HB.out))) (fun k_ h_ => h_)) (below_size (by repeat (first | (with_reducible first | exact HB.out | apply below_alloc | apply pw_below_drewN | apply below_drew1) | exact HB.out)))); have n1_ := Aside0.mk (below_step (by repeat (first | (with_reducible first | exact HB.out | apply below_alloc | apply pw_below_drewN | apply below_drew1) | exact HB.out)) hb); clear HB; have HO356 := n0_; have HB := n1_; clear n0_ n1_; (try clear hb); (try clear hb2); (try clear hk); (try clear hi); (try clear ho0)))
  go_loopg [4, 5] k (fun kq v4 v5 w' => ∃ (x4_1 : ByteArray) (x5_1 : Int), v4 = .string x4_1 ∧ v5 = .int .i64 x5_1 ∧ Aside0 (flongref17_Write.l0 kq t354 x4_1 x5_1 = some r) ∧ Aside0 (kq ≤ k) ∧ Aside0 (Kd.S (Kd.slice 37 k37) 33 w' w.heap.size (fun k_ => (w.heap.size ≤ k_)) v355 t354) ∧ Aside0 (Below w.heap.size w w'))
  case atStart => exact ⟨((⟨#[]⟩ : ByteArray)), (0), (by first | rfl | (simp; done) | (simp [*]; done)), (by first | rfl | (simp; done) | (simp [*]; done)), H', ⟨Nat.le_refl _⟩, ⟨by (with_reducible repeat (first | apply Kd.S_alloc | apply Kd.S_drewN | apply Kd.S_drew)); exact Kd.S_mono HO356.out (fun _ hk => hk.1)⟩, ⟨by repeat (first | (with_reducible first | exact HB.out | apply below_alloc | apply pw_below_drewN | apply below_drew1) | exact HB.out)⟩⟩
  case round =>
    clear H'
    try clear c1
    try clear p2
    obtain ⟨x4_1, x5_1, rfl, rfl, HA, HK1, HO_3, HB⟩ := hrel
    cases gk with
    | zero => exact absurd HA.out (by simp [flongref17_Write.l0])
    | succ k1 =>
      have H := HA.out
      clear HA
      simp only [flongref17_Write.l0] at H
      by_cases c4 : x5_1 < (t354.length : Int)
      · rw [if_pos c4] at H
        have c4b0 : decide (x5_1 < (t354.length : Int)) = true := decide_eq_true c4
        clear c4
        by_cases c5 : 0 ≤ x5_1
        · rw [if_pos c5] at H
          have c5b0 : decide (0 ≤ x5_1) = true := decide_eq_true c5
          clear c5
          replace H := Option.bind_eq_some_iff.mp H
          obtain ⟨t358, A60, H⟩ := H
          replace H : (if x4_1.size + t358.size ≤ 9223372036854775807 then (if (x4_1 ++ t358).size + 1 ≤ 9223372036854775807 then (flongref17_Write.l0 k1 t354 ((x4_1 ++ t358) ++ (⟨#[10]⟩ : ByteArray)) (wrap64 (x5_1 + 1))) else (none)) else (none)) = some r := H
          have A6 := Aside0.mk A60
          clear A60
          by_cases c7 : x4_1.size + t358.size ≤ 9223372036854775807
          · rw [if_pos c7] at H
            have c7b0 := eq_true c7
            have c7b1 : decide (x4_1.size + t358.size ≤ 9223372036854775807) = true := decide_eq_true c7
            try have c7b2 : (9223372036854775807 < x4_1.size + t358.size) = False := eq_false (Nat.not_lt.2 c7)
            by_cases c8 : (x4_1 ++ t358).size + 1 ≤ 9223372036854775807
            · rw [if_pos c8] at H
              have c8b0 := eq_true c8
              have c8b1 : decide ((x4_1 ++ t358).size + 1 ≤ 9223372036854775807) = true := decide_eq_true c8
              try have c8b2 : (9223372036854775807 < (x4_1 ++ t358).size + 1) = False := eq_false (Nat.not_lt.2 c8)
              (try (have c8n := c8; simp only [ByteArray.size_append'] at c8n; have c8b3 := eq_false (Nat.not_lt.2 c8n); have c8b4 := eq_true c8n; clear c8n))
              have H' := Aside0.mk H
              clear H
              obtain ⟨Ao9, co9, eo9⟩ := Kd.S_slice HO_3.out
              subst eo9
              have p357 : 0 ≤ (x5_1 : Int) := of_decide_eq_true (by first | (with_reducible assumption) | assumption)
              have q357 : x5_1 < (t354.length : Int) := of_decide_eq_true (by first | (with_reducible assumption) | assumption)
              obtain ⟨ad357, A357_0, c357_0, e357, hx357_0, hl357_0, hi357_0⟩ := at_L6 (Kd.S_reads' HO_3.out).2.2 x5_1 p357 q357
              cases e357
              obtain ⟨ce357, hce357, hMe357, hcc357⟩ := Kd.S_get HO_3.out [] x5_1 p357 (by first | exact q357 | exact of_decide_eq_true (by first | (with_reducible assumption) | assumption) | (have e_ := (Kd.S_reads' HO_3.out).1; omega))
              obtain ⟨ve357_0, rfl, ge357_0⟩ := hMe357
              have hv357_0 := hcc357 0 _ rfl
              rw [Nat.add_zero, show ((Kd.slice 37 k37)).sz = 1 from rfl, Nat.mul_one] at hv357_0
              replace hv357_0 := Option.some.inj (hv357_0.symm.trans hx357_0)
              rw [hv357_0] at ge357_0
              have HL357_0 := Aside0.mk (show Kd.R k37 37 _ _ _ _ (rd_L6 t354 x5_1) from ge357_0)
              clear hv357_0 ge357_0
              clear hcc357 hce357
              have HR357_0 := Aside0.mk hi357_0
              have HC357_0 := Aside0.mk hl357_0
              clear hi357_0 hl357_0
              replace p357 := eq_true p357
              replace q357 := eq_true q357
              go_wp2_with (first | ((with_reducible refine gate_callee (f := 29) rfl ?_); refine goesL_ (some 19) rfl rfl Tryd.func29 (by kernel_rfl) rfl #[.slice A357_0 (rd_L6 t354 x5_1).length c357_0] rfl (by (try simp only [List.map_toArray, List.map_cons, List.map_nil]); first | done | rfl | (simp only [List.length_drop, List.length_take]; rfl)) ?_; (with_reducible refine (flongref03_Text.calls k1 _ _ (rd_L6 t354 x5_1) t358 _ ?side1 ?side2 A6.out).mono ?_); (case side1 => repeat (first | exact (by repeat (first | (with_reducible exact HR357_0.out) | (with_reducible refine Kd.C_alloc ?_ _) | (with_reducible refine Kd.C_drewN ?_ _) | (with_reducible refine Kd.C_drew ?_) | exact HR357_0.out)) | (with_reducible refine Kd.C_alloc ?_ _) | (with_reducible refine Kd.C_drewN ?_ _) | (with_reducible refine Kd.C_drew ?_))); (case side2 => exact HC357_0.out); rintro e w10 ⟨rfl, hb⟩; refine ⟨_, rfl, ?_⟩; have n0_ := Aside0.mk (Kd.S_below (by (with_reducible repeat (first | apply Kd.S_alloc | apply Kd.S_drewN | apply Kd.S_drew)); exact HO_3.out) hb); have n1_ := Aside0.mk (Kd.R_below (by (with_reducible repeat (first | apply Kd.R_alloc | apply Kd.R_drewN | apply Kd.R_drew)); exact HL357_0.out) hb); have n2_ := Aside0.mk (Kd.C_below (by repeat (first | (with_reducible exact HR357_0.out) | (with_reducible refine Kd.C_alloc ?_ _) | (with_reducible refine Kd.C_drewN ?_ _) | (with_reducible refine Kd.C_drew ?_) | exact HR357_0.out)) hb); have n3_ := Aside0.mk (below_step (by repeat (first | (with_reducible first | exact HB.out | apply below_alloc | apply pw_below_drewN | apply below_drew1) | exact HB.out)) hb); clear HO_3; clear HL357_0; clear HR357_0; clear HB; have HO_3 := n0_; have HL357_0 := n1_; have HR357_0 := n2_; have HB := n3_; clear n0_ n1_ n2_ n3_; (try clear hb); (try clear hb2); (try clear hk); (try clear hi)))
              go_roundg k1
              case measure => have := HK1.out; omega
              case rel => exact ⟨((x4_1 ++ t358) ++ (⟨#[10]⟩ : ByteArray)), (wrap64 (x5_1 + 1)), (by first | rfl | (simp; done) | (simp [*]; done)), (by first | rfl | (simp; done) | (simp [*]; done)), H', ⟨by have := HK1.out; omega⟩, ⟨by (with_reducible repeat (first | apply Kd.S_alloc | apply Kd.S_drewN | apply Kd.S_drew)); exact HO_3.out⟩, ⟨by repeat (first | (with_reducible first | exact HB.out | apply below_alloc | apply pw_below_drewN | apply below_drew1) | exact HB.out)⟩⟩
            · rw [if_neg c8] at H
              exact absurd H (by simp)
          · rw [if_neg c7] at H
            exact absurd H (by simp)
        · rw [if_neg c5] at H
          exact absurd H (by simp)
      · rw [if_neg c4] at H
        have c4b0 : decide (x5_1 < (t354.length : Int)) = false := decide_eq_false c4
        clear c4
        replace H := Option.bind_eq_some_iff.mp H
        obtain ⟨t359, A110, H⟩ := H
        replace H : (some t359) = some r := H
        have A11 := Aside0.mk A110
        clear A110
        obtain rfl := Option.some.inj H
        obtain ⟨Ao12, co12, eo12⟩ := Kd.S_slice HO_3.out
        subst eo12
        go_wp2_with (first | ((with_reducible refine gate_convert (src := 9) (dst := 26) rfl ?_); refine convL_ _ rfl rfl x4_1 rfl rfl ?_; (with_reducible refine (conv_bytes.calls x4_1 t359 _ A11.out).mono ?_); rintro e w13 ⟨v360, rfl, ho0, hb⟩; refine ⟨_, rfl, ?_⟩; have n0_ := Aside0.mk (Kd.S_below (by (with_reducible repeat (first | apply Kd.S_alloc | apply Kd.S_drewN | apply Kd.S_drew)); exact HO_3.out) hb); have n1_ := Aside0.mk (Kd.V_lower (Kd.V_mono (ok' := fun k_ => (w.heap.size ≤ k_) ∧ some k_ ≠ (.slice Ao12 t354.length co12 : Value).ownBlock) ho0 (fun k_ hk_ => ⟨(Nat.le_trans (below_size (by repeat (first | (with_reducible first | exact HB.out | apply below_alloc | apply pw_below_drewN | apply below_drew1) | exact HB.out))) hk_), (Kd.fresh' (Kd.S_lt (by (with_reducible repeat (first | apply Kd.S_alloc | apply Kd.S_drewN | apply Kd.S_drew)); exact HO_3.out)) k_ hk_)⟩)) (below_size (by repeat (first | (with_reducible first | exact HB.out | apply below_alloc | apply pw_below_drewN | apply below_drew1) | exact HB.out)))); have n2_ := Aside0.mk (below_step (by repeat (first | (with_reducible first | exact HB.out | apply below_alloc | apply pw_below_drewN | apply below_drew1) | exact HB.out)) hb); clear HO_3; clear HB; have HO_3 := n0_; have HO361 := n1_; have HB := n2_; clear n0_ n1_ n2_; (try clear hb); (try clear hb2); (try clear hk); (try clear hi); (try clear ho0)))
        go_ret
        exact ⟨_, by first | rfl | (simp [errW_none, errW_some] <;> rfl) | (simp [*, errW_none, errW_some] <;> rfl), by (with_reducible repeat (first | apply Kd.V_alloc | apply Kd.V_drewN | apply Kd.V_drew)); exact Kd.V_mono HO361.out (fun _ hk => hk.1), by repeat (first | (with_reducible first | exact HB.out | apply below_alloc | apply pw_below_drewN | apply below_drew1) | exact HB.out)⟩

end Go.Proofs.YtadejblahbebdaaDoor.X
