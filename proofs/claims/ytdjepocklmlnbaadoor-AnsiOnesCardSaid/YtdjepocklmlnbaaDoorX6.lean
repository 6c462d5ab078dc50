-- Written by this session's xprint.py (a variant of the kit's printer). Not trusted: Lean checks it.
import Derived.Test.YtdjepocklmlnbaaDoorX0
import Derived.Test.YtdjepocklmlnbaaDoorX4
import Derived.Test.YtdjepocklmlnbaaDoorX5
import Derived.Test.YtdjepocklmlnbaaDoorHandA
namespace Go.Proofs.YtdjepocklmlnbaaDoor.X
open Go.Proofs.YtdjepocklmlnbaaDoor.Hand
open Go.RowKit Go.Proofs.YtdjepocklmlnbaaDoorW.PrintWords Go.Proofs.YtdjepocklmlnbaaDoorW.PrintLast Go.Proofs.YtdjepocklmlnbaaDoorW.PrintMore
attribute [local go_sem] max2_int min2_int max_two min_two max_three min_three max_four min_four   -- for this text's walks alone
set_option linter.unusedVariables false
set_option maxHeartbeats 8000000
set_option maxRecDepth 100000
set_option linter.unusedSimpArgs false

/-! ### flongref19_Row: function 17 -/
mutual
def flongref19_Row.l0 : Nat → List (S44) → ByteArray → Int → Int → Option (List Int)
 | 0, _, _, _, _ => none
 | k + 1, x3, x4, x5, x6 => if x6 < (x3.length : Int) then (if 0 ≤ x6 then (if ((rd_T44 x3 x6).f1) = x5 then (if x6 ≤ (wrap64 (x6 + 1)) then (if (wrap64 (x6 + 1)) ≤ (x3.length : Int) then ((flongref03_Text.f k ((x3.take ((wrap64 (x6 + 1)) : Int).toNat).drop (x6 : Int).toNat)).bind fun t275 => (if x4.size + t275.size ≤ 9223372036854775807 then (flongref19_Row.l0 k x3 (x4 ++ t275) x5 (wrap64 (x6 + 1))) else (none))) else (none)) else (none)) else (if x5 = 0 then (flongref19_Row.j1 k x3 x4 x6) else ((flongref19_Sign.f 0).bind fun t276 => (if x4.size + t276.size ≤ 9223372036854775807 then (flongref19_Row.j1 k x3 (x4 ++ t276) x6) else (none))))) else (none)) else (if x5 = 0 then ((conv_bytes.f x4).bind fun t263 => (some t263)) else ((flongref19_Sign.f 0).bind fun t266 => (if x4.size + t266.size ≤ 9223372036854775807 then ((conv_bytes.f (x4 ++ t266)).bind fun t267 => (some t267)) else (none))))
def flongref19_Row.j1 : Nat → List (S44) → ByteArray → Int → Option (List Int)
 | 0, _, _, _ => none
 | k + 1, x3, x4, x6 => if 0 ≤ x6 then (if x6 < (x3.length : Int) then (if ((rd_T44 x3 x6).f1) = 0 then (if x6 ≤ (wrap64 (x6 + 1)) then (if (wrap64 (x6 + 1)) ≤ (x3.length : Int) then ((flongref03_Text.f k ((x3.take ((wrap64 (x6 + 1)) : Int).toNat).drop (x6 : Int).toNat)).bind fun t283 => (if x4.size + t283.size ≤ 9223372036854775807 then (flongref19_Row.l0 k x3 (x4 ++ t283) ((rd_T44 x3 x6).f1) (wrap64 (x6 + 1))) else (none))) else (none)) else (none)) else ((flongref19_Sign.f ((rd_T44 x3 x6).f1)).bind fun t285 => (if x4.size + t285.size ≤ 9223372036854775807 then (if x6 ≤ (wrap64 (x6 + 1)) then (if (wrap64 (x6 + 1)) ≤ (x3.length : Int) then ((flongref03_Text.f k ((x3.take ((wrap64 (x6 + 1)) : Int).toNat).drop (x6 : Int).toNat)).bind fun t291 => (if (x4 ++ t285).size + t291.size ≤ 9223372036854775807 then (flongref19_Row.l0 k x3 ((x4 ++ t285) ++ t291) ((rd_T44 x3 x6).f1) (wrap64 (x6 + 1))) else (none))) else (none)) else (none)) else (none)))) else (none)) else (none)
end
def flongref19_Row.f (k : Nat) (l0 : List (S44)) : Option (List Int) := (flongref17_Normal.f k l0).bind fun t260 => (flongref19_Row.l0 k t260 (⟨#[]⟩ : ByteArray) 0 0)
theorem flongref19_Row.mono_l : ∀ k, (∀ y0 y1 y2 y3, LeO (flongref19_Row.l0 k y0 y1 y2 y3) (flongref19_Row.l0 (k + 1) y0 y1 y2 y3)) ∧ (∀ y0 y1 y2, LeO (flongref19_Row.j1 k y0 y1 y2) (flongref19_Row.j1 (k + 1) y0 y1 y2))
 | 0 => ⟨fun _ _ _ _ r h => by simp [flongref19_Row.l0] at h, fun _ _ _ r h => by simp [flongref19_Row.j1] at h⟩
 | k + 1 => by
  obtain ⟨ih0, ih1⟩ := flongref19_Row.mono_l k
  refine ⟨?_, ?_⟩
  ·intro y0 y1 y2 y3
   unfold flongref19_Row.l0
   repeat' first
   | (with_reducible exact ih0 _ _ _ _)
   | (with_reducible exact ih1 _ _ _)
   | (with_reducible exact flongref03_Text.mono _ _)
   | (with_reducible exact flongref17_Normal.mono _ _)
   | (with_reducible exact LeO.refl _)
   | (with_reducible exact LeO.none _)
   | (with_reducible refine LeO.ite ?_ ?_)
   | (with_reducible refine LeO.bind ?_ (fun _ => ?_))
  ·intro y0 y1 y2
   unfold flongref19_Row.j1
   repeat' first
   | (with_reducible exact ih0 _ _ _ _)
   | (with_reducible exact ih1 _ _ _)
   | (with_reducible exact flongref03_Text.mono _ _)
   | (with_reducible exact flongref17_Normal.mono _ _)
   | (with_reducible exact LeO.refl _)
   | (with_reducible exact LeO.none _)
   | (with_reducible refine LeO.ite ?_ ?_)
   | (with_reducible refine LeO.bind ?_ (fun _ => ?_))
theorem flongref19_Row.mono : ∀ a0 k, LeO (flongref19_Row.f k a0) (flongref19_Row.f (k + 1) a0) := by
 intro a0 k
 obtain ⟨ih0, ih1⟩ := flongref19_Row.mono_l k
 unfold flongref19_Row.f
 repeat' first
   | (with_reducible exact ih0 _ _ _ _)
   | (with_reducible exact ih1 _ _ _)
   | (with_reducible exact flongref03_Text.mono _ _)
   | (with_reducible exact flongref17_Normal.mono _ _)
   | (with_reducible exact LeO.refl _)
   | (with_reducible exact LeO.none _)
   | (with_reducible refine LeO.ite ?_ ?_)
   | (with_reducible refine LeO.bind ?_ (fun _ => ?_))
theorem flongref19_Row.calls (k : Nat) (A0 : Option Addr) (c0 : Nat) (l0 : List (S44)) (r : List Int) (w : World) (hr0 : Kd.C k44 w A0 l0.length l0) (hc0 : l0.length ≤ c0) (h : flongref19_Row.f k l0 = some r) :
  Calls Tryd.prog 17 #[.slice A0 l0.length c0] w fun e w' => ∃ v0_ : Value, e = .returned (v0_) ∧ Kd.V (Kd.int .u8) 5 w' w.heap.size (fun k_ => (w.heap.size ≤ k_)) v0_ r ∧ Below w.heap.size w w' := by
 have HR0 := Aside0.mk hr0
 have HC0 := Aside0.mk hc0
 clear hr0 hc0
 have HB := Aside0.mk (Below.refl w.heap.size w)
 have H : ((flongref17_Normal.f k l0).bind fun t260 => (flongref19_Row.l0 k t260 (⟨#[]⟩ : ByteArray) 0 0)) = some r := h
 clear h
 replace H := Option.bind_eq_some_iff.mp H
 obtain ⟨t260, A20, H⟩ := H
 replace H : (flongref19_Row.l0 k t260 (⟨#[]⟩ : ByteArray) 0 0) = some r := H
 have A2 := Aside0.mk A20
 clear A20
 have H' := Aside0.mk H
 clear H
 go_enter Tryd.func17, Tryd.ntmps17
 go_wp2_with (first | ((with_reducible refine gate_callee (f := 25) rfl ?_); refine goesL_ (some 8) rfl rfl Tryd.func25 (by kernel_rfl) rfl #[.slice A0 l0.length c0] rfl (by (try simp only [List.map_toArray, List.map_cons, List.map_nil]); first | done | rfl | (simp only [List.length_drop, List.length_take]; rfl)) ?_; (with_reducible refine (flongref17_Normal.calls k _ _ l0 t260 _ ?side1 ?side2 A2.out).mono ?_); (case side1 => repeat (first | exact HR0.out | (with_reducible refine Kd.C_alloc ?_ _) | (with_reducible refine Kd.C_drewN ?_ _) | (with_reducible refine Kd.C_drew ?_))); (case side2 => exact HC0.out); rintro e w3 ⟨v261, rfl, ho0, hb⟩; refine ⟨_, rfl, ?_⟩; have n0_ := Aside0.mk (Kd.R_lower (Kd.R_newM (M := fun k_ => (w.heap.size ≤ k_)) ho0 (below_size (by repeat (first | (with_reducible first | exact HB.out | apply below_alloc | apply pw_below_drewN | apply below_drew1) | exact HB.out))) (fun k_ h_ => h_)) (below_size (by repeat (first | (with_reducible first | exact HB.out | apply below_alloc | apply pw_below_drewN | apply below_drew1) | exact HB.out)))); have n1_ := Aside0.mk (below_step (by repeat (first | (with_reducible first | exact HB.out | apply below_alloc | apply pw_below_drewN | apply below_drew1) | exact HB.out)) hb); clear HB; have HO262 := n0_; have HB := n1_; clear n0_ n1_; (try clear hb); (try clear hb2); (try clear hk); (try clear hi); (try clear ho0)))
 go_loopg [4, 5, 6] k (fun kq v4 v5 v6 w' => ∃ (x4_1 : ByteArray) (x5_1 : Int) (x6_1 : Int), v4 = .string x4_1 ∧ v5 = .int .u8 x5_1 ∧ v6 = .int .i64 x6_1 ∧ Aside0 (flongref19_Row.l0 kq t260 x4_1 x5_1 x6_1 = some r) ∧ Aside0 (kq ≤ k) ∧ Aside0 (Kd.R k44 44 w' w.heap.size (fun k_ => (w.heap.size ≤ k_)) v261 t260) ∧ Aside0 (Below w.heap.size w w'))
 case atStart => exact ⟨((⟨#[]⟩ : ByteArray)), (0), (0), (by first | rfl | (simp; done) | (simp [*]; done)), (by first | rfl | (simp; done) | (simp [*]; done)), (by first | rfl | (simp; done) | (simp [*]; done)), H', ⟨Nat.le_refl _⟩, ⟨by (with_reducible repeat (first | apply Kd.R_alloc | apply Kd.R_drewN | apply Kd.R_drew)); exact Kd.R_mono HO262.out (fun _ hk => hk.1)⟩, ⟨by repeat (first | (with_reducible first | exact HB.out | apply below_alloc | apply pw_below_drewN | apply below_drew1) | exact HB.out)⟩⟩
 case round =>
  clear H'
  try clear c1
  try clear c2
  try clear p2
  obtain ⟨x4_1, x5_1, x6_1, rfl, rfl, rfl, HA, HK1, HO_3, HB⟩ := hrel
  cases gk with
  | zero => exact absurd HA.out (by simp [flongref19_Row.l0])
  | succ k1 =>
   have H := HA.out
   clear HA
   simp only [flongref19_Row.l0] at H
   by_cases c4 : x6_1 < (t260.length : Int)
   ·rw [if_pos c4] at H
    have c4b0 : decide (x6_1 < (t260.length : Int)) = true := decide_eq_true c4
    clear c4
    by_cases c5 : 0 ≤ x6_1
    ·rw [if_pos c5] at H
     have c5b0 : decide (0 ≤ x6_1) = true := decide_eq_true c5
     clear c5
     by_cases c6 : ((rd_T44 t260 x6_1).f1) = x5_1
     ·rw [if_pos c6] at H
      have c6b0 : (((rd_T44 t260 x6_1).f1) == x5_1) = true := beq_iff_eq.mpr c6
      have c6b1 : (((rd_T44 t260 x6_1).f1) != x5_1) = false := bne_eq_false_iff_eq.mpr c6
      clear c6
      have c7b0 := eq_true (of_decide_eq_true (by first | (with_reducible assumption) | assumption) : 0 ≤ x6_1)
      by_cases c8 : x6_1 ≤ (wrap64 (x6_1 + 1))
      ·rw [if_pos c8] at H
       have c8b0 := eq_true c8
       have c8b1 : decide (x6_1 ≤ (wrap64 (x6_1 + 1))) = true := decide_eq_true c8
       by_cases c9 : (wrap64 (x6_1 + 1)) ≤ (t260.length : Int)
       ·rw [if_pos c9] at H
        have c9b0 := eq_true c9
        have c9b1 : decide ((wrap64 (x6_1 + 1)) ≤ (t260.length : Int)) = true := decide_eq_true c9
        obtain ⟨y271, hy271⟩ : ∃ y_ : List (S44), y_ = ((t260.take ((wrap64 (x6_1 + 1)) : Int).toNat).drop (x6_1 : Int).toNat) := ⟨_, rfl⟩
        replace H : ((flongref03_Text.f k1 y271).bind fun t275 => (if x4_1.size + t275.size ≤ 9223372036854775807 then (flongref19_Row.l0 k1 t260 (x4_1 ++ t275) x5_1 (wrap64 (x6_1 + 1))) else (none))) = some r := by first | (rw [hy271]; with_reducible exact H) | (have H2_ := (Option.bind_some _ _).symm.trans H; rw [hy271]; with_reducible exact H2_) | (have H2_ := (Option.bind_some _ _).symm.trans H; with_reducible exact H2_) | with_reducible exact H | (rw [hy271]; exact H) | exact H
        have Ny271 := Aside0.mk hy271
        clear hy271
        replace H := Option.bind_eq_some_iff.mp H
        obtain ⟨t275, A100, H⟩ := H
        replace H : (if x4_1.size + t275.size ≤ 9223372036854775807 then (flongref19_Row.l0 k1 t260 (x4_1 ++ t275) x5_1 (wrap64 (x6_1 + 1))) else (none)) = some r := H
        have A10 := Aside0.mk A100
        clear A100
        by_cases c11 : x4_1.size + t275.size ≤ 9223372036854775807
        ·rw [if_pos c11] at H
         have c11b0 := eq_true c11
         have c11b1 : decide (x4_1.size + t275.size ≤ 9223372036854775807) = true := decide_eq_true c11
         try have c11b2 : (9223372036854775807 < x4_1.size + t275.size) = False := eq_false (Nat.not_lt.2 c11)
         have H' := Aside0.mk H
         clear H
         obtain ⟨Ao12, co12, eo12⟩ := Kd.R_slice HO_3.out
         subst eo12
         have p270 : 0 ≤ (x6_1 : Int) := of_decide_eq_true (by first | (with_reducible assumption) | assumption)
         have q270 : x6_1 < (t260.length : Int) := of_decide_eq_true (by first | (with_reducible assumption) | assumption)
         obtain ⟨ad270, e270, hx270_0, hx270_1⟩ := at_T44 (Kd.R_reads' HO_3.out).2.2 x6_1 p270 q270
         cases e270
         replace p270 := eq_true p270
         replace q270 := eq_true q270
         have q13 : ((wrap64 (x6_1 + 1)) : Int) ≤ ((t260.length : Int) : Int) := of_decide_eq_true (by first | (with_reducible assumption) | assumption)
         obtain ⟨i013, hi013, _, hsz13, _⟩ := info_parts info44
         have hroom13 : t260.length ≤ co12 := (Kd.R_reads' HO_3.out).2.1
         have hC13 : Kd.C k44 _ (some ad270) t260.length t260 := (Kd.R_reads' HO_3.out).2.2
         have ql13 : (x6_1 : Int) ≤ ((wrap64 (x6_1 + 1)) : Int) := of_decide_eq_true (by first | (with_reducible assumption) | assumption)
         have q013 : (0 : Int) ≤ (x6_1 : Int) := of_decide_eq_true (by first | (with_reducible assumption) | assumption)
         have hcut13 := cut_mid (P := Tryd.prog) 33 44 .i64 .i64 Tryd.underlying33 hi013 2 hsz13 (some ad270) t260.length co12 x6_1 (wrap64 (x6_1 + 1)) q013 ql13 q13 hroom13
         have hr13 := Kd.C_mid (lo := (x6_1 : Int).toNat) (hi := ((wrap64 (x6_1 + 1)) : Int).toNat) (c := co12) hC13 (by omega) (by omega) hroom13
         obtain ⟨A13, hA13⟩ : ∃ A1, A1 = (if co12 = (x6_1 : Int).toNat then (some ad270) else ((some ad270) : Option Addr).map (·.add ((x6_1 : Int).toNat * 2))) := ⟨_, rfl⟩
         obtain ⟨c13, hc13⟩ : ∃ c1, c1 = co12 - (x6_1 : Int).toNat := ⟨_, rfl⟩
         have hy13 : y271.length = ((wrap64 (x6_1 + 1)) : Int).toNat - (x6_1 : Int).toNat := (by rw [Ny271.out, List.length_drop, List.length_take] <;> omega)
         rw [show ((t260).take ((wrap64 (x6_1 + 1)) : Int).toNat).drop (x6_1 : Int).toNat = y271 from Ny271.out.symm] at hr13
         replace hr13 : Kd.C k44 _ A13 y271.length y271 := (by rw [hA13]; exact hr13)
         rw [← hy13, ← hA13, ← hc13] at hcut13
         have HR274 := Aside0.mk hr13
         have HC274 := Aside0.mk (show y271.length ≤ c13 from by rw [hy13, hc13]; exact Nat.sub_le_sub_right (Nat.le_trans (by omega) hroom13) _)
         clear hr13 hC13 hroom13 hi013 hsz13 hc13
         have KY13 := Aside0.mk hy13
         have KA13 := Aside0.mk hA13
         clear hy13 hA13
         have KL13 := Aside0.mk (show ((wrap64 (x6_1 + 1)) : Int).toNat ≤ t260.length from by omega)
         have KM13 := Aside0.mk (show (x6_1 : Int).toNat ≤ ((wrap64 (x6_1 + 1)) : Int).toNat from by omega)
         replace q13 := eq_true q13
         go_wp2_with (first | ((with_reducible refine gate_callee (f := 24) rfl ?_); refine goesL_ (some 52) rfl rfl Tryd.func24 (by kernel_rfl) rfl #[.slice A13 y271.length c13] rfl (by (try simp only [List.map_toArray, List.map_cons, List.map_nil]); first | done | rfl | (simp only [List.length_drop, List.length_take]; rfl)) ?_; (with_reducible refine (flongref03_Text.calls k1 _ _ y271 t275 _ ?side1 ?side2 A10.out).mono ?_); (case side1 => repeat (first | exact (by repeat (first | (with_reducible exact HR274.out) | (with_reducible refine Kd.C_alloc ?_ _) | (with_reducible refine Kd.C_drewN ?_ _) | (with_reducible refine Kd.C_drew ?_) | exact HR274.out)) | (with_reducible refine Kd.C_alloc ?_ _) | (with_reducible refine Kd.C_drewN ?_ _) | (with_reducible refine Kd.C_drew ?_))); (case side2 => exact HC274.out); rintro e w14 ⟨rfl, hb⟩; refine ⟨_, rfl, ?_⟩; have n0_ := Aside0.mk (Kd.R_below (by (with_reducible repeat (first | apply Kd.R_alloc | apply Kd.R_drewN | apply Kd.R_drew)); exact HO_3.out) hb); have n1_ := Aside0.mk (Kd.C_below (by repeat (first | (with_reducible exact HR274.out) | (with_reducible refine Kd.C_alloc ?_ _) | (with_reducible refine Kd.C_drewN ?_ _) | (with_reducible refine Kd.C_drew ?_) | exact HR274.out)) hb); have n2_ := Aside0.mk (below_step (by repeat (first | (with_reducible first | exact HB.out | apply below_alloc | apply pw_below_drewN | apply below_drew1) | exact HB.out)) hb); clear HO_3; clear HR274; clear HB; have HO_3 := n0_; have HR274 := n1_; have HB := n2_; clear n0_ n1_ n2_; (try clear hb); (try clear hb2); (try clear hk); (try clear hi)))
         go_roundg k1
         case measure => have := HK1.out; omega
         case rel => exact ⟨(x4_1 ++ t275), (x5_1), (wrap64 (x6_1 + 1)), (by first | rfl | (simp; done) | (simp [*]; done)), (by first | rfl | (simp; done) | (simp [*]; done)), (by first | rfl | (simp; done) | (simp [*]; done)), H', ⟨by have := HK1.out; omega⟩, ⟨by (with_reducible repeat (first | apply Kd.R_alloc | apply Kd.R_drewN | apply Kd.R_drew)); exact HO_3.out⟩, ⟨by repeat (first | (with_reducible first | exact HB.out | apply below_alloc | apply pw_below_drewN | apply below_drew1) | exact HB.out)⟩⟩
        ·rw [if_neg c11] at H
         exact absurd H (by simp)
       ·rw [if_neg c9] at H
        exact absurd H (by simp)
      ·rw [if_neg c8] at H
       exact absurd H (by simp)
     ·rw [if_neg c6] at H
      have c6b0 : (((rd_T44 t260 x6_1).f1) == x5_1) = false := beq_eq_false_iff_ne.mpr c6
      have c6b1 : (((rd_T44 t260 x6_1).f1) != x5_1) = true := bne_iff_ne.mpr c6
      have HC15 := Aside0.mk H
      clear H
      obtain ⟨Ao16, co16, eo16⟩ := Kd.R_slice HO_3.out
      subst eo16
      have p270 : 0 ≤ (x6_1 : Int) := of_decide_eq_true (by first | (with_reducible assumption) | assumption)
      have q270 : x6_1 < (t260.length : Int) := of_decide_eq_true (by first | (with_reducible assumption) | assumption)
      obtain ⟨ad270, e270, hx270_0, hx270_1⟩ := at_T44 (Kd.R_reads' HO_3.out).2.2 x6_1 p270 q270
      cases e270
      replace p270 := eq_true p270
      replace q270 := eq_true q270
      go_upto_if 23 with (fail)
      go_cut [4] (fun v4 wc => ∃ (kq : Nat) (x4_14 : ByteArray), v4 = .string x4_14 ∧ Aside0 (flongref19_Row.j1 kq t260 x4_14 x6_1 = some r) ∧ Aside0 (kq ≤ k1) ∧ Aside0 (Kd.R k44 44 wc w.heap.size (fun k_ => (w.heap.size ≤ k_)) (.slice (some ad270) t260.length co16) t260) ∧ Aside0 (Below w.heap.size w wc))
      case first =>
       have H := HC15.out
       clear HC15
       by_cases c17 : x5_1 = 0
       ·rw [if_pos c17] at H
        have c17b0 : (x5_1 == 0) = true := beq_iff_eq.mpr c17
        have c17b1 : (x5_1 != 0) = false := bne_eq_false_iff_eq.mpr c17
        clear c17
        (first | rw [c17b0] | (simp only [i64_w, i32_w]; rw [c17b0]) | skip)
        have H' := Aside0.mk H
        clear H
        go_wp2
        go_meet
        case rel => exact ⟨_, (x4_1), (by first | rfl | (simp; done) | (simp [*]; done)), H', ⟨by have := HK1.out; first | omega | exact Nat.le_refl _⟩, ⟨by (with_reducible repeat (first | apply Kd.R_alloc | apply Kd.R_drewN | apply Kd.R_drew)); exact HO_3.out⟩, ⟨by repeat (first | (with_reducible first | exact HB.out | apply below_alloc | apply pw_below_drewN | apply below_drew1) | exact HB.out)⟩⟩
       ·rw [if_neg c17] at H
        have c17b0 : (x5_1 == 0) = false := beq_eq_false_iff_ne.mpr c17
        have c17b1 : (x5_1 != 0) = true := bne_iff_ne.mpr c17
        (first | rw [c17b0] | (simp only [i64_w, i32_w]; rw [c17b0]) | skip)
        replace H := Option.bind_eq_some_iff.mp H
        obtain ⟨t276, A180, H⟩ := H
        replace H : (if x4_1.size + t276.size ≤ 9223372036854775807 then (flongref19_Row.j1 k1 t260 (x4_1 ++ t276) x6_1) else (none)) = some r := H
        have A18 := Aside0.mk A180
        clear A180
        by_cases c19 : x4_1.size + t276.size ≤ 9223372036854775807
        ·rw [if_pos c19] at H
         have c19b0 := eq_true c19
         have c19b1 : decide (x4_1.size + t276.size ≤ 9223372036854775807) = true := decide_eq_true c19
         try have c19b2 : (9223372036854775807 < x4_1.size + t276.size) = False := eq_false (Nat.not_lt.2 c19)
         have H' := Aside0.mk H
         clear H
         go_wp2_with (first | ((with_reducible refine gate_callee (f := 20) rfl ?_); refine goesL_ (some 25) rfl rfl Tryd.func20 (by kernel_rfl) rfl #[.int .u8 0] rfl (by (try simp only [List.map_toArray, List.map_cons, List.map_nil]); first | done | rfl | (simp only [List.length_drop, List.length_take]; rfl)) ?_; (with_reducible refine (flongref19_Sign.calls 0 t276 _ A18.out).mono ?_); rintro e w' ⟨rfl, ⟨nd, rfl⟩⟩; refine ⟨_, rfl, ?_⟩))
         go_meet
         case rel => exact ⟨_, (x4_1 ++ t276), (by first | rfl | (simp; done) | (simp [*]; done)), H', ⟨by have := HK1.out; first | omega | exact Nat.le_refl _⟩, ⟨by (with_reducible repeat (first | apply Kd.R_alloc | apply Kd.R_drewN | apply Kd.R_drew)); exact HO_3.out⟩, ⟨by repeat (first | (with_reducible first | exact HB.out | apply below_alloc | apply pw_below_drewN | apply below_drew1) | exact HB.out)⟩⟩
        ·rw [if_neg c19] at H
         exact absurd H (by simp)
      case rest =>
       clear HC15
       try clear c1
       try clear q1
       try clear c2
       try clear p2
       try clear q2
       try clear hx2
       try clear c4
       try clear c4b0
       try clear c5
       try clear c5b0
       try clear c6
       try clear c6b0
       try clear c6b1
       try clear p6
       try clear c7
       try clear c7b0
       try clear c8
       try clear c8b0
       try clear c8b1
       try clear c9
       try clear c9b0
       try clear c9b1
       try clear c11
       try clear c11b0
       try clear c11b1
       try clear c11b2
       try clear c13
       try clear q13
       try clear c17
       try clear c17b0
       try clear c17b1
       try clear c19
       try clear c19b0
       try clear c19b1
       try clear c19b2
       try clear hx270_0
       try clear hx270_1
       try clear p2
       try clear p270
       try clear q013
       try clear q13
       try clear q270
       obtain ⟨kq, x4_14, rfl, HA, HJ14, HO_3, HB⟩ := hcut
       cases kq with
       | zero => exact absurd HA.out (by simp [flongref19_Row.j1])
       | succ kj14 =>
        have H := HA.out
        clear HA
        simp only [flongref19_Row.j1] at H
        by_cases c20 : 0 ≤ x6_1
        ·rw [if_pos c20] at H
         have c20b0 : decide (0 ≤ x6_1) = true := decide_eq_true c20
         clear c20
         by_cases c21 : x6_1 < (t260.length : Int)
         ·rw [if_pos c21] at H
          have c21b0 : decide (x6_1 < (t260.length : Int)) = true := decide_eq_true c21
          clear c21
          by_cases c22 : ((rd_T44 t260 x6_1).f1) = 0
          ·rw [if_pos c22] at H
           have c22b0 : (((rd_T44 t260 x6_1).f1) == 0) = true := beq_iff_eq.mpr c22
           have c22b1 : (((rd_T44 t260 x6_1).f1) != 0) = false := bne_eq_false_iff_eq.mpr c22
           clear c22
           have c23b0 := eq_true (of_decide_eq_true (by first | (with_reducible assumption) | assumption) : 0 ≤ x6_1)
           by_cases c24 : x6_1 ≤ (wrap64 (x6_1 + 1))
           ·rw [if_pos c24] at H
            have c24b0 := eq_true c24
            have c24b1 : decide (x6_1 ≤ (wrap64 (x6_1 + 1))) = true := decide_eq_true c24
            by_cases c25 : (wrap64 (x6_1 + 1)) ≤ (t260.length : Int)
            ·rw [if_pos c25] at H
             have c25b0 := eq_true c25
             have c25b1 : decide ((wrap64 (x6_1 + 1)) ≤ (t260.length : Int)) = true := decide_eq_true c25
             obtain ⟨y279, hy279⟩ : ∃ y_ : List (S44), y_ = ((t260.take ((wrap64 (x6_1 + 1)) : Int).toNat).drop (x6_1 : Int).toNat) := ⟨_, rfl⟩
             replace H : ((flongref03_Text.f kj14 y279).bind fun t283 => (if x4_14.size + t283.size ≤ 9223372036854775807 then (flongref19_Row.l0 kj14 t260 (x4_14 ++ t283) ((rd_T44 t260 x6_1).f1) (wrap64 (x6_1 + 1))) else (none))) = some r := by first | (rw [hy279]; with_reducible exact H) | (have H2_ := (Option.bind_some _ _).symm.trans H; rw [hy279]; with_reducible exact H2_) | (have H2_ := (Option.bind_some _ _).symm.trans H; with_reducible exact H2_) | with_reducible exact H | (rw [hy279]; exact H) | exact H
             have Ny279 := Aside0.mk hy279
             clear hy279
             replace H := Option.bind_eq_some_iff.mp H
             obtain ⟨t283, A260, H⟩ := H
             replace H : (if x4_14.size + t283.size ≤ 9223372036854775807 then (flongref19_Row.l0 kj14 t260 (x4_14 ++ t283) ((rd_T44 t260 x6_1).f1) (wrap64 (x6_1 + 1))) else (none)) = some r := H
             have A26 := Aside0.mk A260
             clear A260
             by_cases c27 : x4_14.size + t283.size ≤ 9223372036854775807
             ·rw [if_pos c27] at H
              have c27b0 := eq_true c27
              have c27b1 : decide (x4_14.size + t283.size ≤ 9223372036854775807) = true := decide_eq_true c27
              try have c27b2 : (9223372036854775807 < x4_14.size + t283.size) = False := eq_false (Nat.not_lt.2 c27)
              have H' := Aside0.mk H
              clear H
              have p277 : 0 ≤ (x6_1 : Int) := of_decide_eq_true (by first | (with_reducible assumption) | assumption)
              have q277 : x6_1 < (t260.length : Int) := of_decide_eq_true (by first | (with_reducible assumption) | assumption)
              obtain ⟨ad277, e277, hx277_0, hx277_1⟩ := at_T44 (Kd.R_reads' HO_3.out).2.2 x6_1 p277 q277
              obtain rfl : ad270 = ad277 := (by injection e277)
              replace p277 := eq_true p277
              replace q277 := eq_true q277
              have p278 : 0 ≤ (x6_1 : Int) := of_decide_eq_true (by first | (with_reducible assumption) | assumption)
              have q278 : x6_1 < (t260.length : Int) := of_decide_eq_true (by first | (with_reducible assumption) | assumption)
              obtain ⟨ad278, e278, hx278_0, hx278_1⟩ := at_T44 (Kd.R_reads' HO_3.out).2.2 x6_1 p278 q278
              obtain rfl : ad270 = ad278 := (by injection e278)
              replace p278 := eq_true p278
              replace q278 := eq_true q278
              have q28 : ((wrap64 (x6_1 + 1)) : Int) ≤ ((t260.length : Int) : Int) := of_decide_eq_true (by first | (with_reducible assumption) | assumption)
              obtain ⟨i028, hi028, _, hsz28, _⟩ := info_parts info44
              have hroom28 : t260.length ≤ co16 := (Kd.R_reads' HO_3.out).2.1
              have hC28 : Kd.C k44 _ (some ad270) t260.length t260 := (Kd.R_reads' HO_3.out).2.2
              have ql28 : (x6_1 : Int) ≤ ((wrap64 (x6_1 + 1)) : Int) := of_decide_eq_true (by first | (with_reducible assumption) | assumption)
              have q028 : (0 : Int) ≤ (x6_1 : Int) := of_decide_eq_true (by first | (with_reducible assumption) | assumption)
              have hcut28 := cut_mid (P := Tryd.prog) 33 44 .i64 .i64 Tryd.underlying33 hi028 2 hsz28 (some ad270) t260.length co16 x6_1 (wrap64 (x6_1 + 1)) q028 ql28 q28 hroom28
              have hr28 := Kd.C_mid (lo := (x6_1 : Int).toNat) (hi := ((wrap64 (x6_1 + 1)) : Int).toNat) (c := co16) hC28 (by omega) (by omega) hroom28
              obtain ⟨A28, hA28⟩ : ∃ A1, A1 = (if co16 = (x6_1 : Int).toNat then (some ad270) else ((some ad270) : Option Addr).map (·.add ((x6_1 : Int).toNat * 2))) := ⟨_, rfl⟩
              obtain ⟨c28, hc28⟩ : ∃ c1, c1 = co16 - (x6_1 : Int).toNat := ⟨_, rfl⟩
              have hy28 : y279.length = ((wrap64 (x6_1 + 1)) : Int).toNat - (x6_1 : Int).toNat := (by rw [Ny279.out, List.length_drop, List.length_take] <;> omega)
              rw [show ((t260).take ((wrap64 (x6_1 + 1)) : Int).toNat).drop (x6_1 : Int).toNat = y279 from Ny279.out.symm] at hr28
              replace hr28 : Kd.C k44 _ A28 y279.length y279 := (by rw [hA28]; exact hr28)
              rw [← hy28, ← hA28, ← hc28] at hcut28
              have HR282 := Aside0.mk hr28
              have HC282 := Aside0.mk (show y279.length ≤ c28 from by rw [hy28, hc28]; exact Nat.sub_le_sub_right (Nat.le_trans (by omega) hroom28) _)
              clear hr28 hC28 hroom28 hi028 hsz28 hc28
              have KY28 := Aside0.mk hy28
              have KA28 := Aside0.mk hA28
              clear hy28 hA28
              have KL28 := Aside0.mk (show ((wrap64 (x6_1 + 1)) : Int).toNat ≤ t260.length from by omega)
              have KM28 := Aside0.mk (show (x6_1 : Int).toNat ≤ ((wrap64 (x6_1 + 1)) : Int).toNat from by omega)
              replace q28 := eq_true q28
              go_wp2_with (first | ((with_reducible refine gate_callee (f := 24) rfl ?_); refine goesL_ (some 52) rfl rfl Tryd.func24 (by kernel_rfl) rfl #[.slice A28 y279.length c28] rfl (by (try simp only [List.map_toArray, List.map_cons, List.map_nil]); first | done | rfl | (simp only [List.length_drop, List.length_take]; rfl)) ?_; (with_reducible refine (flongref03_Text.calls kj14 _ _ y279 t283 _ ?side1 ?side2 A26.out).mono ?_); (case side1 => repeat (first | exact (by repeat (first | (with_reducible exact HR282.out) | (with_reducible refine Kd.C_alloc ?_ _) | (with_reducible refine Kd.C_drewN ?_ _) | (with_reducible refine Kd.C_drew ?_) | exact HR282.out)) | (with_reducible refine Kd.C_alloc ?_ _) | (with_reducible refine Kd.C_drewN ?_ _) | (with_reducible refine Kd.C_drew ?_))); (case side2 => exact HC282.out); rintro e w29 ⟨rfl, hb⟩; refine ⟨_, rfl, ?_⟩; have n0_ := Aside0.mk (Kd.R_below (by (with_reducible repeat (first | apply Kd.R_alloc | apply Kd.R_drewN | apply Kd.R_drew)); exact HO_3.out) hb); have n1_ := Aside0.mk (Kd.C_below (by repeat (first | (with_reducible exact HR282.out) | (with_reducible refine Kd.C_alloc ?_ _) | (with_reducible refine Kd.C_drewN ?_ _) | (with_reducible refine Kd.C_drew ?_) | exact HR282.out)) hb); have n2_ := Aside0.mk (below_step (by repeat (first | (with_reducible first | exact HB.out | apply below_alloc | apply pw_below_drewN | apply below_drew1) | exact HB.out)) hb); clear HO_3; clear HR282; clear HB; have HO_3 := n0_; have HR282 := n1_; have HB := n2_; clear n0_ n1_ n2_; (try clear hb); (try clear hb2); (try clear hk); (try clear hi)))
              go_roundg kj14
              case measure => have := HK1.out; have := HJ14.out; omega
              case rel => exact ⟨(x4_14 ++ t283), ((rd_T44 t260 x6_1).f1), (wrap64 (x6_1 + 1)), (by first | rfl | (simp; done) | (simp [*]; done)), (by first | rfl | (simp; done) | (simp [*]; done)), (by first | rfl | (simp; done) | (simp [*]; done)), H', ⟨by have := HK1.out; have := HJ14.out; omega⟩, ⟨by (with_reducible repeat (first | apply Kd.R_alloc | apply Kd.R_drewN | apply Kd.R_drew)); exact HO_3.out⟩, ⟨by repeat (first | (with_reducible first | exact HB.out | apply below_alloc | apply pw_below_drewN | apply below_drew1) | exact HB.out)⟩⟩
             ·rw [if_neg c27] at H
              exact absurd H (by simp)
            ·rw [if_neg c25] at H
             exact absurd H (by simp)
           ·rw [if_neg c24] at H
            exact absurd H (by simp)
          ·rw [if_neg c22] at H
           have c22b0 : (((rd_T44 t260 x6_1).f1) == 0) = false := beq_eq_false_iff_ne.mpr c22
           have c22b1 : (((rd_T44 t260 x6_1).f1) != 0) = true := bne_iff_ne.mpr c22
           replace H := Option.bind_eq_some_iff.mp H
           obtain ⟨t285, A300, H⟩ := H
           replace H : (if x4_14.size + t285.size ≤ 9223372036854775807 then (if x6_1 ≤ (wrap64 (x6_1 + 1)) then (if (wrap64 (x6_1 + 1)) ≤ (t260.length : Int) then ((flongref03_Text.f kj14 ((t260.take ((wrap64 (x6_1 + 1)) : Int).toNat).drop (x6_1 : Int).toNat)).bind fun t291 => (if (x4_14 ++ t285).size + t291.size ≤ 9223372036854775807 then (flongref19_Row.l0 kj14 t260 ((x4_14 ++ t285) ++ t291) ((rd_T44 t260 x6_1).f1) (wrap64 (x6_1 + 1))) else (none))) else (none)) else (none)) else (none)) = some r := H
           have A30 := Aside0.mk A300
           clear A300
           by_cases c31 : x4_14.size + t285.size ≤ 9223372036854775807
           ·rw [if_pos c31] at H
            have c31b0 := eq_true c31
            have c31b1 : decide (x4_14.size + t285.size ≤ 9223372036854775807) = true := decide_eq_true c31
            try have c31b2 : (9223372036854775807 < x4_14.size + t285.size) = False := eq_false (Nat.not_lt.2 c31)
            have c32b0 := eq_true (of_decide_eq_true (by first | (with_reducible assumption) | assumption) : 0 ≤ x6_1)
            by_cases c33 : x6_1 ≤ (wrap64 (x6_1 + 1))
            ·rw [if_pos c33] at H
             have c33b0 := eq_true c33
             have c33b1 : decide (x6_1 ≤ (wrap64 (x6_1 + 1))) = true := decide_eq_true c33
             by_cases c34 : (wrap64 (x6_1 + 1)) ≤ (t260.length : Int)
             ·rw [if_pos c34] at H
              have c34b0 := eq_true c34
              have c34b1 : decide ((wrap64 (x6_1 + 1)) ≤ (t260.length : Int)) = true := decide_eq_true c34
              obtain ⟨y287, hy287⟩ : ∃ y_ : List (S44), y_ = ((t260.take ((wrap64 (x6_1 + 1)) : Int).toNat).drop (x6_1 : Int).toNat) := ⟨_, rfl⟩
              replace H : ((flongref03_Text.f kj14 y287).bind fun t291 => (if (x4_14 ++ t285).size + t291.size ≤ 9223372036854775807 then (flongref19_Row.l0 kj14 t260 ((x4_14 ++ t285) ++ t291) ((rd_T44 t260 x6_1).f1) (wrap64 (x6_1 + 1))) else (none))) = some r := by first | (rw [hy287]; with_reducible exact H) | (have H2_ := (Option.bind_some _ _).symm.trans H; rw [hy287]; with_reducible exact H2_) | (have H2_ := (Option.bind_some _ _).symm.trans H; with_reducible exact H2_) | with_reducible exact H | (rw [hy287]; exact H) | exact H
              have Ny287 := Aside0.mk hy287
              clear hy287
              replace H := Option.bind_eq_some_iff.mp H
              obtain ⟨t291, A350, H⟩ := H
              replace H : (if (x4_14 ++ t285).size + t291.size ≤ 9223372036854775807 then (flongref19_Row.l0 kj14 t260 ((x4_14 ++ t285) ++ t291) ((rd_T44 t260 x6_1).f1) (wrap64 (x6_1 + 1))) else (none)) = some r := H
              have A35 := Aside0.mk A350
              clear A350
              by_cases c36 : (x4_14 ++ t285).size + t291.size ≤ 9223372036854775807
              ·rw [if_pos c36] at H
               have c36b0 := eq_true c36
               have c36b1 : decide ((x4_14 ++ t285).size + t291.size ≤ 9223372036854775807) = true := decide_eq_true c36
               try have c36b2 : (9223372036854775807 < (x4_14 ++ t285).size + t291.size) = False := eq_false (Nat.not_lt.2 c36)
               (try (have c36n := c36; simp only [ByteArray.size_append'] at c36n; have c36b3 := eq_false (Nat.not_lt.2 c36n); have c36b4 := eq_true c36n; clear c36n))
               have H' := Aside0.mk H
               clear H
               have p277 : 0 ≤ (x6_1 : Int) := of_decide_eq_true (by first | (with_reducible assumption) | assumption)
               have q277 : x6_1 < (t260.length : Int) := of_decide_eq_true (by first | (with_reducible assumption) | assumption)
               obtain ⟨ad277, e277, hx277_0, hx277_1⟩ := at_T44 (Kd.R_reads' HO_3.out).2.2 x6_1 p277 q277
               obtain rfl : ad270 = ad277 := (by injection e277)
               replace p277 := eq_true p277
               replace q277 := eq_true q277
               have p284 : 0 ≤ (x6_1 : Int) := of_decide_eq_true (by first | (with_reducible assumption) | assumption)
               have q284 : x6_1 < (t260.length : Int) := of_decide_eq_true (by first | (with_reducible assumption) | assumption)
               obtain ⟨ad284, e284, hx284_0, hx284_1⟩ := at_T44 (Kd.R_reads' HO_3.out).2.2 x6_1 p284 q284
               obtain rfl : ad270 = ad284 := (by injection e284)
               replace p284 := eq_true p284
               replace q284 := eq_true q284
               go_wp2_with (first | ((with_reducible refine gate_callee (f := 20) rfl ?_); refine goesL_ (some 39) rfl rfl Tryd.func20 (by kernel_rfl) rfl #[.int .u8 ((rd_T44 t260 x6_1).f1)] rfl (by (try simp only [List.map_toArray, List.map_cons, List.map_nil]); first | done | rfl | (simp only [List.length_drop, List.length_take]; rfl)) ?_; (with_reducible refine (flongref19_Sign.calls ((rd_T44 t260 x6_1).f1) t285 _ A30.out).mono ?_); rintro e w' ⟨rfl, ⟨nd, rfl⟩⟩; refine ⟨_, rfl, ?_⟩; have p286 : 0 ≤ (x6_1 : Int) := of_decide_eq_true (by first | (with_reducible assumption) | assumption); have q286 : x6_1 < (t260.length : Int) := of_decide_eq_true (by first | (with_reducible assumption) | assumption); obtain ⟨ad286, e286, hx286_0, hx286_1⟩ := at_T44 (Kd.R_reads' HO_3.out).2.2 x6_1 p286 q286; obtain rfl : ad270 = ad286 := (by injection e286); replace p286 := eq_true p286; replace q286 := eq_true q286; have q37 : ((wrap64 (x6_1 + 1)) : Int) ≤ ((t260.length : Int) : Int) := of_decide_eq_true (by first | (with_reducible assumption) | assumption); obtain ⟨i037, hi037, _, hsz37, _⟩ := info_parts info44; have hroom37 : t260.length ≤ co16 := (Kd.R_reads' HO_3.out).2.1; have hC37 : Kd.C k44 _ (some ad270) t260.length t260 := (Kd.R_reads' HO_3.out).2.2; have ql37 : (x6_1 : Int) ≤ ((wrap64 (x6_1 + 1)) : Int) := of_decide_eq_true (by first | (with_reducible assumption) | assumption); have q037 : (0 : Int) ≤ (x6_1 : Int) := of_decide_eq_true (by first | (with_reducible assumption) | assumption); have hcut37 := cut_mid (P := Tryd.prog) 33 44 .i64 .i64 Tryd.underlying33 hi037 2 hsz37 (some ad270) t260.length co16 x6_1 (wrap64 (x6_1 + 1)) q037 ql37 q37 hroom37; have hr37 := Kd.C_mid (lo := (x6_1 : Int).toNat) (hi := ((wrap64 (x6_1 + 1)) : Int).toNat) (c := co16) hC37 (by omega) (by omega) hroom37; obtain ⟨A37, hA37⟩ : ∃ A1, A1 = (if co16 = (x6_1 : Int).toNat then (some ad270) else ((some ad270) : Option Addr).map (·.add ((x6_1 : Int).toNat * 2))) := ⟨_, rfl⟩; obtain ⟨c37, hc37⟩ : ∃ c1, c1 = co16 - (x6_1 : Int).toNat := ⟨_, rfl⟩; have hy37 : y287.length = ((wrap64 (x6_1 + 1)) : Int).toNat - (x6_1 : Int).toNat := (by rw [Ny287.out, List.length_drop, List.length_take] <;> omega); rw [show ((t260).take ((wrap64 (x6_1 + 1)) : Int).toNat).drop (x6_1 : Int).toNat = y287 from Ny287.out.symm] at hr37; replace hr37 : Kd.C k44 _ A37 y287.length y287 := (by rw [hA37]; exact hr37); rw [← hy37, ← hA37, ← hc37] at hcut37; have HR290 := Aside0.mk hr37; have HC290 := Aside0.mk (show y287.length ≤ c37 from by rw [hy37, hc37]; exact Nat.sub_le_sub_right (Nat.le_trans (by omega) hroom37) _); clear hr37 hC37 hroom37 hi037 hsz37 hc37; have KY37 := Aside0.mk hy37; have KA37 := Aside0.mk hA37; clear hy37 hA37; have KL37 := Aside0.mk (show ((wrap64 (x6_1 + 1)) : Int).toNat ≤ t260.length from by omega); have KM37 := Aside0.mk (show (x6_1 : Int).toNat ≤ ((wrap64 (x6_1 + 1)) : Int).toNat from by omega); replace q37 := eq_true q37) | ((with_reducible refine gate_callee (f := 24) rfl ?_); refine goesL_ (some 52) rfl rfl Tryd.func24 (by kernel_rfl) rfl #[.slice A37 y287.length c37] rfl (by (try simp only [List.map_toArray, List.map_cons, List.map_nil]); first | done | rfl | (simp only [List.length_drop, List.length_take]; rfl)) ?_; (with_reducible refine (flongref03_Text.calls kj14 _ _ y287 t291 _ ?side1 ?side2 A35.out).mono ?_); (case side1 => repeat (first | exact (by repeat (first | (with_reducible exact HR290.out) | (with_reducible refine Kd.C_alloc ?_ _) | (with_reducible refine Kd.C_drewN ?_ _) | (with_reducible refine Kd.C_drew ?_) | exact HR290.out)) | (with_reducible refine Kd.C_alloc ?_ _) | (with_reducible refine Kd.C_drewN ?_ _) | (with_reducible refine Kd.C_drew ?_))); (case side2 => exact HC290.out); rintro e w38 ⟨rfl, hb⟩; refine ⟨_, rfl, ?_⟩; have n0_ := Aside0.mk (Kd.R_below (by (with_reducible repeat (first | apply Kd.R_alloc | apply Kd.R_drewN | apply Kd.R_drew)); exact HO_3.out) hb); have n1_ := Aside0.mk (Kd.C_below (by repeat (first | (with_reducible exact HR290.out) | (with_reducible refine Kd.C_alloc ?_ _) | (with_reducible refine Kd.C_drewN ?_ _) | (with_reducible refine Kd.C_drew ?_) | exact HR290.out)) hb); have n2_ := Aside0.mk (below_step (by repeat (first | (with_reducible first | exact HB.out | apply below_alloc | apply pw_below_drewN | apply below_drew1) | exact HB.out)) hb); clear HO_3; clear HR290; clear HB; have HO_3 := n0_; have HR290 := n1_; have HB := n2_; clear n0_ n1_ n2_; (try clear hb); (try clear hb2); (try clear hk); (try clear hi)))
               go_roundg kj14
               case measure => have := HK1.out; have := HJ14.out; omega
               case rel => exact ⟨((x4_14 ++ t285) ++ t291), ((rd_T44 t260 x6_1).f1), (wrap64 (x6_1 + 1)), (by first | rfl | (simp; done) | (simp [*]; done)), (by first | rfl | (simp; done) | (simp [*]; done)), (by first | rfl | (simp; done) | (simp [*]; done)), H', ⟨by have := HK1.out; have := HJ14.out; omega⟩, ⟨by (with_reducible repeat (first | apply Kd.R_alloc | apply Kd.R_drewN | apply Kd.R_drew)); exact HO_3.out⟩, ⟨by repeat (first | (with_reducible first | exact HB.out | apply below_alloc | apply pw_below_drewN | apply below_drew1) | exact HB.out)⟩⟩
              ·rw [if_neg c36] at H
               exact absurd H (by simp)
             ·rw [if_neg c34] at H
              exact absurd H (by simp)
            ·rw [if_neg c33] at H
             exact absurd H (by simp)
           ·rw [if_neg c31] at H
            exact absurd H (by simp)
         ·rw [if_neg c21] at H
          exact absurd H (by simp)
        ·rw [if_neg c20] at H
         exact absurd H (by simp)
    ·rw [if_neg c5] at H
     exact absurd H (by simp)
   ·rw [if_neg c4] at H
    have c4b0 : decide (x6_1 < (t260.length : Int)) = false := decide_eq_false c4
    clear c4
    by_cases c39 : x5_1 = 0
    ·rw [if_pos c39] at H
     have c39b0 : (x5_1 == 0) = true := beq_iff_eq.mpr c39
     have c39b1 : (x5_1 != 0) = false := bne_eq_false_iff_eq.mpr c39
     clear c39
     replace H := Option.bind_eq_some_iff.mp H
     obtain ⟨t263, A400, H⟩ := H
     replace H : (some t263) = some r := H
     have A40 := Aside0.mk A400
     clear A400
     obtain rfl := Option.some.inj H
     obtain ⟨Ao41, co41, eo41⟩ := Kd.R_slice HO_3.out
     subst eo41
     go_wp2_with (first | ((with_reducible refine gate_convert (src := 9) (dst := 22) rfl ?_); refine convL_ _ rfl rfl x4_1 rfl rfl ?_; (with_reducible refine (conv_bytes.calls x4_1 t263 _ A40.out).mono ?_); rintro e w42 ⟨v264, rfl, ho0, hb⟩; refine ⟨_, rfl, ?_⟩; have n0_ := Aside0.mk (Kd.R_below (by (with_reducible repeat (first | apply Kd.R_alloc | apply Kd.R_drewN | apply Kd.R_drew)); exact HO_3.out) hb); have n1_ := Aside0.mk (Kd.V_lower (Kd.V_mono (ok' := fun k_ => (w.heap.size ≤ k_) ∧ some k_ ≠ (.slice Ao41 t260.length co41 : Value).ownBlock) ho0 (fun k_ hk_ => ⟨(Nat.le_trans (below_size (by repeat (first | (with_reducible first | exact HB.out | apply below_alloc | apply pw_below_drewN | apply below_drew1) | exact HB.out))) hk_), (Kd.fresh' (Kd.R_lt (by (with_reducible repeat (first | apply Kd.R_alloc | apply Kd.R_drewN | apply Kd.R_drew)); exact HO_3.out)) k_ hk_)⟩)) (below_size (by repeat (first | (with_reducible first | exact HB.out | apply below_alloc | apply pw_below_drewN | apply below_drew1) | exact HB.out)))); have n2_ := Aside0.mk (below_step (by repeat (first | (with_reducible first | exact HB.out | apply below_alloc | apply pw_below_drewN | apply below_drew1) | exact HB.out)) hb); clear HO_3; clear HB; have HO_3 := n0_; have HO265 := n1_; have HB := n2_; clear n0_ n1_ n2_; (try clear hb); (try clear hb2); (try clear hk); (try clear hi); (try clear ho0)))
     go_ret
     exact ⟨_, by first | rfl | (simp [errW_none, errW_some] <;> rfl) | (simp [*, errW_none, errW_some] <;> rfl), by (with_reducible repeat (first | apply Kd.V_alloc | apply Kd.V_drewN | apply Kd.V_drew)); exact Kd.V_mono HO265.out (fun _ hk => hk.1), by repeat (first | (with_reducible first | exact HB.out | apply below_alloc | apply pw_below_drewN | apply below_drew1) | exact HB.out)⟩
    ·rw [if_neg c39] at H
     have c39b0 : (x5_1 == 0) = false := beq_eq_false_iff_ne.mpr c39
     have c39b1 : (x5_1 != 0) = true := bne_iff_ne.mpr c39
     replace H := Option.bind_eq_some_iff.mp H
     obtain ⟨t266, A430, H⟩ := H
     replace H : (if x4_1.size + t266.size ≤ 9223372036854775807 then ((conv_bytes.f (x4_1 ++ t266)).bind fun t267 => (some t267)) else (none)) = some r := H
     have A43 := Aside0.mk A430
     clear A430
     by_cases c44 : x4_1.size + t266.size ≤ 9223372036854775807
     ·rw [if_pos c44] at H
      have c44b0 := eq_true c44
      have c44b1 : decide (x4_1.size + t266.size ≤ 9223372036854775807) = true := decide_eq_true c44
      try have c44b2 : (9223372036854775807 < x4_1.size + t266.size) = False := eq_false (Nat.not_lt.2 c44)
      replace H := Option.bind_eq_some_iff.mp H
      obtain ⟨t267, A450, H⟩ := H
      replace H : (some t267) = some r := H
      have A45 := Aside0.mk A450
      clear A450
      obtain rfl := Option.some.inj H
      obtain ⟨Ao46, co46, eo46⟩ := Kd.R_slice HO_3.out
      subst eo46
      go_wp2_with (first | ((with_reducible refine gate_callee (f := 20) rfl ?_); refine goesL_ (some 57) rfl rfl Tryd.func20 (by kernel_rfl) rfl #[.int .u8 0] rfl (by (try simp only [List.map_toArray, List.map_cons, List.map_nil]); first | done | rfl | (simp only [List.length_drop, List.length_take]; rfl)) ?_; (with_reducible refine (flongref19_Sign.calls 0 t266 _ A43.out).mono ?_); rintro e w' ⟨rfl, ⟨nd, rfl⟩⟩; refine ⟨_, rfl, ?_⟩) | ((with_reducible refine gate_convert (src := 9) (dst := 22) rfl ?_); refine convL_ _ rfl rfl (x4_1 ++ t266) rfl rfl ?_; (with_reducible refine (conv_bytes.calls (x4_1 ++ t266) t267 _ A45.out).mono ?_); rintro e w47 ⟨v268, rfl, ho0, hb⟩; refine ⟨_, rfl, ?_⟩; have n0_ := Aside0.mk (Kd.R_below (by (with_reducible repeat (first | apply Kd.R_alloc | apply Kd.R_drewN | apply Kd.R_drew)); exact HO_3.out) hb); have n1_ := Aside0.mk (Kd.V_lower (Kd.V_mono (ok' := fun k_ => (w.heap.size ≤ k_) ∧ some k_ ≠ (.slice Ao46 t260.length co46 : Value).ownBlock) ho0 (fun k_ hk_ => ⟨(Nat.le_trans (below_size (by repeat (first | (with_reducible first | exact HB.out | apply below_alloc | apply pw_below_drewN | apply below_drew1) | exact HB.out))) hk_), (Kd.fresh' (Kd.R_lt (by (with_reducible repeat (first | apply Kd.R_alloc | apply Kd.R_drewN | apply Kd.R_drew)); exact HO_3.out)) k_ hk_)⟩)) (below_size (by repeat (first | (with_reducible first | exact HB.out | apply below_alloc | apply pw_below_drewN | apply below_drew1) | exact HB.out)))); have n2_ := Aside0.mk (below_step (by repeat (first | (with_reducible first | exact HB.out | apply below_alloc | apply pw_below_drewN | apply below_drew1) | exact HB.out)) hb); clear HO_3; clear HB; have HO_3 := n0_; have HO269 := n1_; have HB := n2_; clear n0_ n1_ n2_; (try clear hb); (try clear hb2); (try clear hk); (try clear hi); (try clear ho0)))
      go_ret
      exact ⟨_, by first | rfl | (simp [errW_none, errW_some] <;> rfl) | (simp [*, errW_none, errW_some] <;> rfl), by (with_reducible repeat (first | apply Kd.V_alloc | apply Kd.V_drewN | apply Kd.V_drew)); exact Kd.V_mono HO269.out (fun _ hk => hk.1), by repeat (first | (with_reducible first | exact HB.out | apply below_alloc | apply pw_below_drewN | apply below_drew1) | exact HB.out)⟩
     ·rw [if_neg c44] at H
      exact absurd H (by simp)

-- NOT PRINTED: function 82 (utf8_RuneCountInString)

-- NOT PRINTED: function 87 (utf8_decodeRuneInStringSlow)

-- NOT PRINTED: function 83 (utf8_DecodeRuneInString)

-- NOT PRINTED: function 73 (strings_explode)

-- NOT PRINTED: function 94 (bytealg_IndexByteString)

-- NOT PRINTED: function 88 (stringslite_IndexByte)

-- NOT PRINTED: function 89 (bytealg_IndexString)

-- NOT PRINTED: function 85 (stringslite_Index)

-- NOT PRINTED: function 75 (strings_Index)

-- NOT PRINTED: function 84 (bytealg_CountString)

-- NOT PRINTED: function 74 (strings_Count)

-- NOT PRINTED: function 62 (strings_genSplit)

end Go.Proofs.YtdjepocklmlnbaaDoor.X
