-- Written by this session's xprint.py (a variant of the kit's printer). Not trusted: Lean checks it.
import Derived.Test.YtdjepocklmlnbaaDoorX0
import Derived.Test.YtdjepocklmlnbaaDoorX2
import Derived.Test.YtdjepocklmlnbaaDoorX3
import Derived.Test.YtdjepocklmlnbaaDoorX5
import Derived.Test.YtdjepocklmlnbaaDoorX6
import Derived.Test.YtdjepocklmlnbaaDoorX7
import Derived.Test.YtdjepocklmlnbaaDoorHandA
import Derived.Test.YtdjepocklmlnbaaDoorHandW
namespace Go.Proofs.YtdjepocklmlnbaaDoor.X
open Go.Proofs.YtdjepocklmlnbaaDoor.Hand
open Go.RowKit Go.Proofs.YtdjepocklmlnbaaDoorW.PrintWords Go.Proofs.YtdjepocklmlnbaaDoorW.PrintLast Go.Proofs.YtdjepocklmlnbaaDoorW.PrintMore
attribute [local go_sem] max2_int min2_int max_two min_two max_three min_three max_four min_four   -- for this text's walks alone
set_option linter.unusedVariables false
set_option maxHeartbeats 8000000
set_option maxRecDepth 100000
set_option linter.unusedSimpArgs false

/-! ### flonglaw19_AnsiSafe: function 5 -/
mutual
def flonglaw19_AnsiSafe.l0 : Nat → List (S35) → List Int → Int → Int → Option (Bool)
 | 0, _, _, _, _ => none
 | k + 1, x0, x3, x4, x5 => if x5 < (x3.length : Int) then (if 0 ≤ x5 then (if (rd x3 x5) = 27 then (if x5 ≤ (x3.length : Int) then ((ansi_Signs.f (x3.drop (x5 : Int).toNat)).bind fun bt344 => (if bt344.2.2 = true then (flonglaw19_AnsiSafe.l0 k x0 x3 (wrap64 (x4 + 1)) (wrap64 (x5 + 1))) else (some false))) else (none)) else (if (rd x3 x5) < 32 then (if (rd x3 x5) = 10 then (if (rd x3 x5) = 127 then (some false) else (flonglaw19_AnsiSafe.l0 k x0 x3 x4 (wrap64 (x5 + 1)))) else (some false)) else (if (rd x3 x5) = 127 then (some false) else (flonglaw19_AnsiSafe.l0 k x0 x3 x4 (wrap64 (x5 + 1)))))) else (none)) else ((flongref17_Rows.f k x0).bind fun t351 => (flonglaw19_AnsiSafe.l1 k x4 t351 0))
def flonglaw19_AnsiSafe.l1 : Nat → Int → List (List (S44)) → Int → Option (Bool)
 | 0, _, _, _ => none
 | k + 1, x4, x9, x10 => if x10 < (x9.length : Int) then (if 0 ≤ x10 then ((flongref03_Runs.f k (rd_L5 x9 x10)).bind fun t356 => (flonglaw19_AnsiSafe.l2 k x4 x9 x10 t356 0)) else (none)) else (if x4 = 0 then ((flonglaw19_known.f k).bind fun t354 => (some t354)) else (some false))
def flonglaw19_AnsiSafe.l2 : Nat → Int → List (List (S44)) → Int → List (List (S44)) → Int → Option (Bool)
 | 0, _, _, _, _, _ => none
 | k + 1, x4, x9, x10, x11, x12 => if x12 < (x11.length : Int) then (if 0 ≤ x12 then (if 0 < ((rd_L5 x11 x12).length : Int) then (if ((rd_T44 (rd_L5 x11 x12) 0).f1) = 0 then (flonglaw19_AnsiSafe.l2 k x4 x9 x10 x11 (wrap64 (x12 + 1))) else (flonglaw19_AnsiSafe.l2 k (wrap64 (x4 - 2)) x9 x10 x11 (wrap64 (x12 + 1)))) else (none)) else (none)) else (flonglaw19_AnsiSafe.l1 k x4 x9 (wrap64 (x10 + 1)))
end
def flonglaw19_AnsiSafe.f (k : Nat) (l0 : List (S35)) : Option (Bool) := (flongref17_Long.f k l0).bind fun t334 => (if t334 = true then ((flonglaw19_known.f k).bind fun t335 => (some t335)) else ((ansi_Write.f k l0).bind fun t336 => (flonglaw19_AnsiSafe.l0 k l0 t336 0 0)))
theorem flonglaw19_AnsiSafe.mono_l : ∀ k, (∀ y0 y1 y2 y3, LeO (flonglaw19_AnsiSafe.l0 k y0 y1 y2 y3) (flonglaw19_AnsiSafe.l0 (k + 1) y0 y1 y2 y3)) ∧ (∀ y0 y1 y2, LeO (flonglaw19_AnsiSafe.l1 k y0 y1 y2) (flonglaw19_AnsiSafe.l1 (k + 1) y0 y1 y2)) ∧ (∀ y0 y1 y2 y3 y4, LeO (flonglaw19_AnsiSafe.l2 k y0 y1 y2 y3 y4) (flonglaw19_AnsiSafe.l2 (k + 1) y0 y1 y2 y3 y4))
 | 0 => ⟨fun _ _ _ _ r h => by simp [flonglaw19_AnsiSafe.l0] at h, fun _ _ _ r h => by simp [flonglaw19_AnsiSafe.l1] at h, fun _ _ _ _ _ r h => by simp [flonglaw19_AnsiSafe.l2] at h⟩
 | k + 1 => by
  obtain ⟨ih0, ih1, ih2⟩ := flonglaw19_AnsiSafe.mono_l k
  refine ⟨?_, ?_, ?_⟩
  ·intro y0 y1 y2 y3
   unfold flonglaw19_AnsiSafe.l0
   repeat' first
   | (with_reducible exact ih0 _ _ _ _)
   | (with_reducible exact ih1 _ _ _)
   | (with_reducible exact ih2 _ _ _ _ _)
   | (with_reducible exact ansi_Write.mono _ _)
   | (with_reducible exact flonglaw19_known.mono _)
   | (with_reducible exact flongref03_Runs.mono _ _)
   | (with_reducible exact flongref17_Long.mono _ _)
   | (with_reducible exact flongref17_Rows.mono _ _)
   | (with_reducible exact LeO.refl _)
   | (with_reducible exact LeO.none _)
   | (with_reducible refine LeO.ite ?_ ?_)
   | (with_reducible refine LeO.bind ?_ (fun _ => ?_))
  ·intro y0 y1 y2
   unfold flonglaw19_AnsiSafe.l1
   repeat' first
   | (with_reducible exact ih0 _ _ _ _)
   | (with_reducible exact ih1 _ _ _)
   | (with_reducible exact ih2 _ _ _ _ _)
   | (with_reducible exact ansi_Write.mono _ _)
   | (with_reducible exact flonglaw19_known.mono _)
   | (with_reducible exact flongref03_Runs.mono _ _)
   | (with_reducible exact flongref17_Long.mono _ _)
   | (with_reducible exact flongref17_Rows.mono _ _)
   | (with_reducible exact LeO.refl _)
   | (with_reducible exact LeO.none _)
   | (with_reducible refine LeO.ite ?_ ?_)
   | (with_reducible refine LeO.bind ?_ (fun _ => ?_))
  ·intro y0 y1 y2 y3 y4
   unfold flonglaw19_AnsiSafe.l2
   repeat' first
   | (with_reducible exact ih0 _ _ _ _)
   | (with_reducible exact ih1 _ _ _)
   | (with_reducible exact ih2 _ _ _ _ _)
   | (with_reducible exact ansi_Write.mono _ _)
   | (with_reducible exact flonglaw19_known.mono _)
   | (with_reducible exact flongref03_Runs.mono _ _)
   | (with_reducible exact flongref17_Long.mono _ _)
   | (with_reducible exact flongref17_Rows.mono _ _)
   | (with_reducible exact LeO.refl _)
   | (with_reducible exact LeO.none _)
   | (with_reducible refine LeO.ite ?_ ?_)
   | (with_reducible refine LeO.bind ?_ (fun _ => ?_))
theorem flonglaw19_AnsiSafe.mono : ∀ a0 k, LeO (flonglaw19_AnsiSafe.f k a0) (flonglaw19_AnsiSafe.f (k + 1) a0) := by
 intro a0 k
 obtain ⟨ih0, ih1, ih2⟩ := flonglaw19_AnsiSafe.mono_l k
 unfold flonglaw19_AnsiSafe.f
 repeat' first
   | (with_reducible exact ih0 _ _ _ _)
   | (with_reducible exact ih1 _ _ _)
   | (with_reducible exact ih2 _ _ _ _ _)
   | (with_reducible exact ansi_Write.mono _ _)
   | (with_reducible exact flonglaw19_known.mono _)
   | (with_reducible exact flongref03_Runs.mono _ _)
   | (with_reducible exact flongref17_Long.mono _ _)
   | (with_reducible exact flongref17_Rows.mono _ _)
   | (with_reducible exact LeO.refl _)
   | (with_reducible exact LeO.none _)
   | (with_reducible refine LeO.ite ?_ ?_)
   | (with_reducible refine LeO.bind ?_ (fun _ => ?_))
theorem flonglaw19_AnsiSafe.calls (k : Nat) (A0 : Option Addr) (c0 : Nat) (l0 : List (S35)) (r : Bool) (w : World) (hr0 : Kd.C k35 w A0 l0.length l0) (hc0 : l0.length ≤ c0) (hG : GOK [0,1,2] w) (h : flonglaw19_AnsiSafe.f k l0 = some r) :
  Calls Tryd.prog 5 #[.slice A0 l0.length c0] w fun e w' => e = .returned (.bool r) ∧ Below w.heap.size w w' := by
 have HG := Aside0.mk hG
 clear hG
 have HR0 := Aside0.mk hr0
 have HC0 := Aside0.mk hc0
 clear hr0 hc0
 have HB := Aside0.mk (Below.refl w.heap.size w)
 have H : ((flongref17_Long.f k l0).bind fun t334 => (if t334 = true then ((flonglaw19_known.f k).bind fun t335 => (some t335)) else ((ansi_Write.f k l0).bind fun t336 => (flonglaw19_AnsiSafe.l0 k l0 t336 0 0)))) = some r := h
 clear h
 replace H := Option.bind_eq_some_iff.mp H
 obtain ⟨t334, A20, H⟩ := H
 replace H : (if t334 = true then ((flonglaw19_known.f k).bind fun t335 => (some t335)) else ((ansi_Write.f k l0).bind fun t336 => (flonglaw19_AnsiSafe.l0 k l0 t336 0 0))) = some r := H
 have A2 := Aside0.mk A20
 clear A20
 by_cases c3 : t334 = true
 ·subst c3
  have H1 : ((flonglaw19_known.f k).bind fun t335 => (some t335)) = some r := by rw [if_pos rfl] at H; exact H
  clear H
  have H := H1
  clear H1
  replace H := Option.bind_eq_some_iff.mp H
  obtain ⟨t335, A40, H⟩ := H
  replace H : (some t335) = some r := H
  have A4 := Aside0.mk A40
  clear A40
  obtain rfl := Option.some.inj H
  go_enter Tryd.func5, Tryd.ntmps5
  go_wp2_with (first | ((with_reducible refine gate_callee (f := 15) rfl ?_); refine goesL_ (some 14) rfl rfl Tryd.func15 (by kernel_rfl) rfl #[.slice A0 l0.length c0] rfl (by (try simp only [List.map_toArray, List.map_cons, List.map_nil]); first | done | rfl | (simp only [List.length_drop, List.length_take]; rfl)) ?_; (with_reducible refine (flongref17_Long.calls k _ _ l0 true _ ?side1 ?side2 A2.out).mono ?_); (case side1 => repeat (first | exact HR0.out | (with_reducible refine Kd.C_alloc ?_ _) | (with_reducible refine Kd.C_drewN ?_ _) | (with_reducible refine Kd.C_drew ?_))); (case side2 => exact HC0.out); rintro e w' ⟨rfl, ⟨nd, rfl⟩⟩; refine ⟨_, rfl, ?_⟩) | ((with_reducible refine gate_callee (f := 10) rfl ?_); refine goesL_ (some 15) rfl rfl Tryd.func10 (by kernel_rfl) rfl #[] rfl (by (try simp only [List.map_toArray, List.map_cons, List.map_nil]); first | done | rfl | (simp only [List.length_drop, List.length_take]; rfl)) ?_; (with_reducible refine (flonglaw19_known.calls k  t335 _ ?side1 A4.out).mono ?_); (case side1 => exact GOK.of_below (GOK.sub HG.out rfl) (by repeat (first | (with_reducible first | exact HB.out | apply below_alloc | apply pw_below_drewN | apply below_drew1) | exact HB.out))); rintro e w5 ⟨rfl, hb⟩; refine ⟨_, rfl, ?_⟩; have n0_ := Aside0.mk (below_step (by repeat (first | (with_reducible first | exact HB.out | apply below_alloc | apply pw_below_drewN | apply below_drew1) | exact HB.out)) hb); clear HB; have HB := n0_; clear n0_; (try clear hb); (try clear hb2); (try clear hk); (try clear hi)))
  go_ret
  exact ⟨by first | rfl | (simp [errW_none, errW_some] <;> rfl) | (simp [*, errW_none, errW_some] <;> rfl), by repeat (first | (with_reducible first | exact HB.out | apply below_alloc | apply pw_below_drewN | apply below_drew1) | exact HB.out)⟩
 ·replace c3 := Bool.eq_false_iff.mpr c3
  subst c3
  have H1 : ((ansi_Write.f k l0).bind fun t336 => (flonglaw19_AnsiSafe.l0 k l0 t336 0 0)) = some r := by rw [if_neg (show ¬ (false = true) by decide)] at H; exact H
  clear H
  have H := H1
  clear H1
  replace H := Option.bind_eq_some_iff.mp H
  obtain ⟨t336, A60, H⟩ := H
  replace H : (flonglaw19_AnsiSafe.l0 k l0 t336 0 0) = some r := H
  have A6 := Aside0.mk A60
  clear A60
  have H' := Aside0.mk H
  clear H
  go_enter Tryd.func5, Tryd.ntmps5
  go_wp2_with (first | ((with_reducible refine gate_callee (f := 15) rfl ?_); refine goesL_ (some 14) rfl rfl Tryd.func15 (by kernel_rfl) rfl #[.slice A0 l0.length c0] rfl (by (try simp only [List.map_toArray, List.map_cons, List.map_nil]); first | done | rfl | (simp only [List.length_drop, List.length_take]; rfl)) ?_; (with_reducible refine (flongref17_Long.calls k _ _ l0 false _ ?side1 ?side2 A2.out).mono ?_); (case side1 => repeat (first | exact HR0.out | (with_reducible refine Kd.C_alloc ?_ _) | (with_reducible refine Kd.C_drewN ?_ _) | (with_reducible refine Kd.C_drew ?_))); (case side2 => exact HC0.out); rintro e w' ⟨rfl, ⟨nd, rfl⟩⟩; refine ⟨_, rfl, ?_⟩) | ((with_reducible refine gate_callee (f := 18) rfl ?_); refine goesL_ (some 17) rfl rfl Tryd.func18 (by kernel_rfl) rfl #[.slice A0 l0.length c0] rfl (by (try simp only [List.map_toArray, List.map_cons, List.map_nil]); first | done | rfl | (simp only [List.length_drop, List.length_take]; rfl)) ?_; (with_reducible refine (ansi_Write.calls k _ _ l0 t336 _ ?side1 ?side2 ?side3 A6.out).mono ?_); (case side1 => repeat (first | exact HR0.out | (with_reducible refine Kd.C_alloc ?_ _) | (with_reducible refine Kd.C_drewN ?_ _) | (with_reducible refine Kd.C_drew ?_))); (case side2 => exact HC0.out); (case side3 => exact GOK.of_below (GOK.sub HG.out rfl) (by repeat (first | (with_reducible first | exact HB.out | apply below_alloc | apply pw_below_drewN | apply below_drew1) | exact HB.out))); rintro e w7 ⟨v337, rfl, ho0, hb⟩; refine ⟨_, rfl, ?_⟩; have n0_ := Aside0.mk (Kd.R_lower ho0 (below_size (by repeat (first | (with_reducible first | exact HB.out | apply below_alloc | apply pw_below_drewN | apply below_drew1) | exact HB.out)))); have n1_ := Aside0.mk (below_step (by repeat (first | (with_reducible first | exact HB.out | apply below_alloc | apply pw_below_drewN | apply below_drew1) | exact HB.out)) hb); clear HB; have HO338 := n0_; have HB := n1_; clear n0_ n1_; (try clear hb); (try clear hb2); (try clear hk); (try clear hi); (try clear ho0)))
  go_loopg [4, 5] k (fun kq v4 v5 w' => ∃ (x4_1 : Int) (x5_1 : Int), v4 = .int .i64 x4_1 ∧ v5 = .int .i64 x5_1 ∧ Aside0 (flonglaw19_AnsiSafe.l0 kq l0 t336 x4_1 x5_1 = some r) ∧ Aside0 (kq ≤ k) ∧ Aside0 (Kd.R (Kd.int .u8) 5 w' w.heap.size (fun _ => True) v337 t336) ∧ Aside0 (Below w.heap.size w w'))
  case atStart => exact ⟨(0), (0), (by first | rfl | (simp; done) | (simp [*]; done)), (by first | rfl | (simp; done) | (simp [*]; done)), H', ⟨Nat.le_refl _⟩, ⟨by (with_reducible repeat (first | apply Kd.R_alloc | apply Kd.R_drewN | apply Kd.R_drew)); exact HO338.out⟩, ⟨by repeat (first | (with_reducible first | exact HB.out | apply below_alloc | apply pw_below_drewN | apply below_drew1) | exact HB.out)⟩⟩
  case round =>
   clear H'
   try clear c1
   try clear p2
   try clear c3
   try clear c5
   obtain ⟨x4_1, x5_1, rfl, rfl, HA, HK1, HO_3, HB⟩ := hrel
   cases gk with
   | zero => exact absurd HA.out (by simp [flonglaw19_AnsiSafe.l0])
   | succ k1 =>
    have H := HA.out
    clear HA
    simp only [flonglaw19_AnsiSafe.l0] at H
    by_cases c8 : x5_1 < (t336.length : Int)
    ·rw [if_pos c8] at H
     have c8b0 : decide (x5_1 < (t336.length : Int)) = true := decide_eq_true c8
     clear c8
     by_cases c9 : 0 ≤ x5_1
     ·rw [if_pos c9] at H
      have c9b0 : decide (0 ≤ x5_1) = true := decide_eq_true c9
      clear c9
      by_cases c10 : (rd t336 x5_1) = 27
      ·rw [if_pos c10] at H
       have c10b0 : ((rd t336 x5_1) == 27) = true := beq_iff_eq.mpr c10
       have c10b1 : ((rd t336 x5_1) != 27) = false := bne_eq_false_iff_eq.mpr c10
       clear c10
       have c11b0 := eq_true (of_decide_eq_true (by first | (with_reducible assumption) | assumption) : 0 ≤ x5_1)
       by_cases c12 : x5_1 ≤ (t336.length : Int)
       ·rw [if_pos c12] at H
        have c12b0 := eq_true c12
        have c12b1 : decide (x5_1 ≤ (t336.length : Int)) = true := decide_eq_true c12
        clear c12
        obtain ⟨y340, hy340⟩ : ∃ y_ : List Int, y_ = (t336.drop (x5_1 : Int).toNat) := ⟨_, rfl⟩
        replace H : ((ansi_Signs.f y340).bind fun bt344 => (if bt344.2.2 = true then (flonglaw19_AnsiSafe.l0 k1 l0 t336 (wrap64 (x4_1 + 1)) (wrap64 (x5_1 + 1))) else (some false))) = some r := by first | (rw [hy340]; with_reducible exact H) | (have H2_ := (Option.bind_some _ _).symm.trans H; rw [hy340]; with_reducible exact H2_) | (have H2_ := (Option.bind_some _ _).symm.trans H; with_reducible exact H2_) | with_reducible exact H | (rw [hy340]; exact H) | exact H
        have Ny340 := Aside0.mk hy340
        clear hy340
        replace H := Option.bind_eq_some_iff.mp H
        obtain ⟨⟨t344, t345, t346⟩, A130, H⟩ := H
        replace H : (if t346 = true then (flonglaw19_AnsiSafe.l0 k1 l0 t336 (wrap64 (x4_1 + 1)) (wrap64 (x5_1 + 1))) else (some false)) = some r := H
        have A13 := Aside0.mk A130
        clear A130
        by_cases c14 : t346 = true
        ·subst c14
         have H1 : (flonglaw19_AnsiSafe.l0 k1 l0 t336 (wrap64 (x4_1 + 1)) (wrap64 (x5_1 + 1))) = some r := by rw [if_pos rfl] at H; exact H
         clear H
         have H := H1
         clear H1
         have H' := Aside0.mk H
         clear H
         obtain ⟨Ao15, co15, eo15⟩ := Kd.R_slice HO_3.out
         subst eo15
         have p339 : 0 ≤ (x5_1 : Int) := of_decide_eq_true (by first | (with_reducible assumption) | assumption)
         have q339 : x5_1 < (t336.length : Int) := of_decide_eq_true (by first | (with_reducible assumption) | assumption)
         obtain ⟨ad339, e339, hx339_0⟩ := Kd.at_int (Kd.R_reads' HO_3.out).2.2 x5_1 p339 q339
         cases e339
         replace p339 := eq_true p339
         replace q339 := eq_true q339
         have q16 : (x5_1 : Int) ≤ ((t336.length : Int) : Int) := of_decide_eq_true (by first | (with_reducible assumption) | assumption)
         obtain ⟨i016, hi016, _, hsz16, _⟩ := info_parts info5
         have hroom16 : t336.length ≤ co15 := (Kd.R_reads' HO_3.out).2.1
         have hC16 : Kd.C (Kd.int .u8) _ (some ad339) t336.length t336 := (Kd.R_reads' HO_3.out).2.2
         have q016 : (0 : Int) ≤ (x5_1 : Int) := of_decide_eq_true (by first | (with_reducible assumption) | assumption)
         have hcut16 := cut_from (P := Tryd.prog) 22 5 .i64 Tryd.underlying22 hi016 1 hsz16 (some ad339) t336.length co15 x5_1 q016 q16
         have hr16 := Kd.C_drop (m := (x5_1 : Int).toNat) (c := co15) hC16 (by omega) hroom16
         obtain ⟨A16, hA16⟩ : ∃ A1, A1 = (if co15 = (x5_1 : Int).toNat then (some ad339) else ((some ad339) : Option Addr).map (·.add ((x5_1 : Int).toNat * 1))) := ⟨_, rfl⟩
         obtain ⟨c16, hc16⟩ : ∃ c1, c1 = co15 - (x5_1 : Int).toNat := ⟨_, rfl⟩
         have hy16 : y340.length = t336.length - (x5_1 : Int).toNat := (by rw [Ny340.out, List.length_drop] <;> omega)
         rw [show (t336).drop (x5_1 : Int).toNat = y340 from Ny340.out.symm] at hr16
         replace hr16 : Kd.C (Kd.int .u8) _ A16 y340.length y340 := (by rw [hA16]; exact hr16)
         rw [← hy16, ← hA16, ← hc16] at hcut16
         have HR343 := Aside0.mk hr16
         have HC343 := Aside0.mk (show y340.length ≤ c16 from by rw [hy16, hc16]; exact Nat.sub_le_sub_right hroom16 _)
         clear hr16 hC16 hroom16 hi016 hsz16 hc16
         have KY16 := Aside0.mk hy16
         have KA16 := Aside0.mk hA16
         clear hy16 hA16
         have KL16 := Aside0.mk (show (x5_1 : Int).toNat ≤ t336.length from by omega)
         replace q16 := eq_true q16
         go_wp2_with (first | ((with_reducible refine gate_callee (f := 12) rfl ?_); refine goesL_ (some 33) rfl rfl Tryd.func12 (by kernel_rfl) rfl #[.slice A16 y340.length c16] rfl (by (try simp only [List.map_toArray, List.map_cons, List.map_nil]); first | done | rfl | (simp only [List.length_drop, List.length_take]; rfl)) ?_; (with_reducible refine (ansi_Signs.calls _ _ y340 t344 t345 true _ ?side1 ?side2 ?side3 A13.out).mono ?_); (case side1 => repeat (first | exact (by repeat (first | (with_reducible exact HR343.out) | (with_reducible refine Kd.C_alloc ?_ _) | (with_reducible refine Kd.C_drewN ?_ _) | (with_reducible refine Kd.C_drew ?_) | exact HR343.out)) | (with_reducible refine Kd.C_alloc ?_ _) | (with_reducible refine Kd.C_drewN ?_ _) | (with_reducible refine Kd.C_drew ?_))); (case side2 => exact HC343.out); (case side3 => exact GOK.of_below (GOK.sub HG.out rfl) (by repeat (first | (with_reducible first | exact HB.out | apply below_alloc | apply pw_below_drewN | apply below_drew1) | exact HB.out))); rintro e w' ⟨rfl, ⟨nd, rfl⟩⟩; refine ⟨_, rfl, ?_⟩))
         go_roundg k1
         case measure => have := HK1.out; omega
         case rel => exact ⟨(wrap64 (x4_1 + 1)), (wrap64 (x5_1 + 1)), (by first | rfl | (simp; done) | (simp [*]; done)), (by first | rfl | (simp; done) | (simp [*]; done)), H', ⟨by have := HK1.out; omega⟩, ⟨by (with_reducible repeat (first | apply Kd.R_alloc | apply Kd.R_drewN | apply Kd.R_drew)); exact HO_3.out⟩, ⟨by repeat (first | (with_reducible first | exact HB.out | apply below_alloc | apply pw_below_drewN | apply below_drew1) | exact HB.out)⟩⟩
        ·replace c14 := Bool.eq_false_iff.mpr c14
         subst c14
         have H1 : (some false) = some r := by rw [if_neg (show ¬ (false = true) by decide)] at H; exact H
         clear H
         have H := H1
         clear H1
         obtain rfl := Option.some.inj H
         obtain ⟨Ao17, co17, eo17⟩ := Kd.R_slice HO_3.out
         subst eo17
         have p339 : 0 ≤ (x5_1 : Int) := of_decide_eq_true (by first | (with_reducible assumption) | assumption)
         have q339 : x5_1 < (t336.length : Int) := of_decide_eq_true (by first | (with_reducible assumption) | assumption)
         obtain ⟨ad339, e339, hx339_0⟩ := Kd.at_int (Kd.R_reads' HO_3.out).2.2 x5_1 p339 q339
         cases e339
         replace p339 := eq_true p339
         replace q339 := eq_true q339
         have q18 : (x5_1 : Int) ≤ ((t336.length : Int) : Int) := of_decide_eq_true (by first | (with_reducible assumption) | assumption)
         obtain ⟨i018, hi018, _, hsz18, _⟩ := info_parts info5
         have hroom18 : t336.length ≤ co17 := (Kd.R_reads' HO_3.out).2.1
         have hC18 : Kd.C (Kd.int .u8) _ (some ad339) t336.length t336 := (Kd.R_reads' HO_3.out).2.2
         have q018 : (0 : Int) ≤ (x5_1 : Int) := of_decide_eq_true (by first | (with_reducible assumption) | assumption)
         have hcut18 := cut_from (P := Tryd.prog) 22 5 .i64 Tryd.underlying22 hi018 1 hsz18 (some ad339) t336.length co17 x5_1 q018 q18
         have hr18 := Kd.C_drop (m := (x5_1 : Int).toNat) (c := co17) hC18 (by omega) hroom18
         obtain ⟨A18, hA18⟩ : ∃ A1, A1 = (if co17 = (x5_1 : Int).toNat then (some ad339) else ((some ad339) : Option Addr).map (·.add ((x5_1 : Int).toNat * 1))) := ⟨_, rfl⟩
         obtain ⟨c18, hc18⟩ : ∃ c1, c1 = co17 - (x5_1 : Int).toNat := ⟨_, rfl⟩
         have hy18 : y340.length = t336.length - (x5_1 : Int).toNat := (by rw [Ny340.out, List.length_drop] <;> omega)
         rw [show (t336).drop (x5_1 : Int).toNat = y340 from Ny340.out.symm] at hr18
         replace hr18 : Kd.C (Kd.int .u8) _ A18 y340.length y340 := (by rw [hA18]; exact hr18)
         rw [← hy18, ← hA18, ← hc18] at hcut18
         have HR343 := Aside0.mk hr18
         have HC343 := Aside0.mk (show y340.length ≤ c18 from by rw [hy18, hc18]; exact Nat.sub_le_sub_right hroom18 _)
         clear hr18 hC18 hroom18 hi018 hsz18 hc18
         have KY18 := Aside0.mk hy18
         have KA18 := Aside0.mk hA18
         clear hy18 hA18
         have KL18 := Aside0.mk (show (x5_1 : Int).toNat ≤ t336.length from by omega)
         replace q18 := eq_true q18
         go_wp2_with (first | ((with_reducible refine gate_callee (f := 12) rfl ?_); refine goesL_ (some 33) rfl rfl Tryd.func12 (by kernel_rfl) rfl #[.slice A18 y340.length c18] rfl (by (try simp only [List.map_toArray, List.map_cons, List.map_nil]); first | done | rfl | (simp only [List.length_drop, List.length_take]; rfl)) ?_; (with_reducible refine (ansi_Signs.calls _ _ y340 t344 t345 false _ ?side1 ?side2 ?side3 A13.out).mono ?_); (case side1 => repeat (first | exact (by repeat (first | (with_reducible exact HR343.out) | (with_reducible refine Kd.C_alloc ?_ _) | (with_reducible refine Kd.C_drewN ?_ _) | (with_reducible refine Kd.C_drew ?_) | exact HR343.out)) | (with_reducible refine Kd.C_alloc ?_ _) | (with_reducible refine Kd.C_drewN ?_ _) | (with_reducible refine Kd.C_drew ?_))); (case side2 => exact HC343.out); (case side3 => exact GOK.of_below (GOK.sub HG.out rfl) (by repeat (first | (with_reducible first | exact HB.out | apply below_alloc | apply pw_below_drewN | apply below_drew1) | exact HB.out))); rintro e w' ⟨rfl, ⟨nd, rfl⟩⟩; refine ⟨_, rfl, ?_⟩))
         go_ret
         exact ⟨by first | rfl | (simp [errW_none, errW_some] <;> rfl) | (simp [*, errW_none, errW_some] <;> rfl), by repeat (first | (with_reducible first | exact HB.out | apply below_alloc | apply pw_below_drewN | apply below_drew1) | exact HB.out)⟩
       ·rw [if_neg c12] at H
        exact absurd H (by simp)
      ·rw [if_neg c10] at H
       have c10b0 : ((rd t336 x5_1) == 27) = false := beq_eq_false_iff_ne.mpr c10
       have c10b1 : ((rd t336 x5_1) != 27) = true := bne_iff_ne.mpr c10
       by_cases c19 : (rd t336 x5_1) < 32
       ·rw [if_pos c19] at H
        have c19b0 : decide ((rd t336 x5_1) < 32) = true := decide_eq_true c19
        clear c19
        by_cases c20 : (rd t336 x5_1) = 10
        ·rw [if_pos c20] at H
         have c20b0 : ((rd t336 x5_1) == 10) = true := beq_iff_eq.mpr c20
         have c20b1 : ((rd t336 x5_1) != 10) = false := bne_eq_false_iff_eq.mpr c20
         clear c20
         by_cases c21 : (rd t336 x5_1) = 127
         ·rw [if_pos c21] at H
          have c21b0 : ((rd t336 x5_1) == 127) = true := beq_iff_eq.mpr c21
          have c21b1 : ((rd t336 x5_1) != 127) = false := bne_eq_false_iff_eq.mpr c21
          clear c21
          obtain rfl := Option.some.inj H
          obtain ⟨Ao22, co22, eo22⟩ := Kd.R_slice HO_3.out
          subst eo22
          have p339 : 0 ≤ (x5_1 : Int) := of_decide_eq_true (by first | (with_reducible assumption) | assumption)
          have q339 : x5_1 < (t336.length : Int) := of_decide_eq_true (by first | (with_reducible assumption) | assumption)
          obtain ⟨ad339, e339, hx339_0⟩ := Kd.at_int (Kd.R_reads' HO_3.out).2.2 x5_1 p339 q339
          cases e339
          replace p339 := eq_true p339
          replace q339 := eq_true q339
          have p347 : 0 ≤ (x5_1 : Int) := of_decide_eq_true (by first | (with_reducible assumption) | assumption)
          have q347 : x5_1 < (t336.length : Int) := of_decide_eq_true (by first | (with_reducible assumption) | assumption)
          obtain ⟨ad347, e347, hx347_0⟩ := Kd.at_int (Kd.R_reads' HO_3.out).2.2 x5_1 p347 q347
          obtain rfl : ad339 = ad347 := (by injection e347)
          replace p347 := eq_true p347
          replace q347 := eq_true q347
          have p348 : 0 ≤ (x5_1 : Int) := of_decide_eq_true (by first | (with_reducible assumption) | assumption)
          have q348 : x5_1 < (t336.length : Int) := of_decide_eq_true (by first | (with_reducible assumption) | assumption)
          obtain ⟨ad348, e348, hx348_0⟩ := Kd.at_int (Kd.R_reads' HO_3.out).2.2 x5_1 p348 q348
          obtain rfl : ad339 = ad348 := (by injection e348)
          replace p348 := eq_true p348
          replace q348 := eq_true q348
          have p349 : 0 ≤ (x5_1 : Int) := of_decide_eq_true (by first | (with_reducible assumption) | assumption)
          have q349 : x5_1 < (t336.length : Int) := of_decide_eq_true (by first | (with_reducible assumption) | assumption)
          obtain ⟨ad349, e349, hx349_0⟩ := Kd.at_int (Kd.R_reads' HO_3.out).2.2 x5_1 p349 q349
          obtain rfl : ad339 = ad349 := (by injection e349)
          replace p349 := eq_true p349
          replace q349 := eq_true q349
          go_wp2
          go_ret
          exact ⟨by first | rfl | (simp [errW_none, errW_some] <;> rfl) | (simp [*, errW_none, errW_some] <;> rfl), by repeat (first | (with_reducible first | exact HB.out | apply below_alloc | apply pw_below_drewN | apply below_drew1) | exact HB.out)⟩
         ·rw [if_neg c21] at H
          have c21b0 : ((rd t336 x5_1) == 127) = false := beq_eq_false_iff_ne.mpr c21
          have c21b1 : ((rd t336 x5_1) != 127) = true := bne_iff_ne.mpr c21
          have H' := Aside0.mk H
          clear H
          obtain ⟨Ao23, co23, eo23⟩ := Kd.R_slice HO_3.out
          subst eo23
          have p339 : 0 ≤ (x5_1 : Int) := of_decide_eq_true (by first | (with_reducible assumption) | assumption)
          have q339 : x5_1 < (t336.length : Int) := of_decide_eq_true (by first | (with_reducible assumption) | assumption)
          obtain ⟨ad339, e339, hx339_0⟩ := Kd.at_int (Kd.R_reads' HO_3.out).2.2 x5_1 p339 q339
          cases e339
          replace p339 := eq_true p339
          replace q339 := eq_true q339
          have p347 : 0 ≤ (x5_1 : Int) := of_decide_eq_true (by first | (with_reducible assumption) | assumption)
          have q347 : x5_1 < (t336.length : Int) := of_decide_eq_true (by first | (with_reducible assumption) | assumption)
          obtain ⟨ad347, e347, hx347_0⟩ := Kd.at_int (Kd.R_reads' HO_3.out).2.2 x5_1 p347 q347
          obtain rfl : ad339 = ad347 := (by injection e347)
          replace p347 := eq_true p347
          replace q347 := eq_true q347
          have p348 : 0 ≤ (x5_1 : Int) := of_decide_eq_true (by first | (with_reducible assumption) | assumption)
          have q348 : x5_1 < (t336.length : Int) := of_decide_eq_true (by first | (with_reducible assumption) | assumption)
          obtain ⟨ad348, e348, hx348_0⟩ := Kd.at_int (Kd.R_reads' HO_3.out).2.2 x5_1 p348 q348
          obtain rfl : ad339 = ad348 := (by injection e348)
          replace p348 := eq_true p348
          replace q348 := eq_true q348
          have p349 : 0 ≤ (x5_1 : Int) := of_decide_eq_true (by first | (with_reducible assumption) | assumption)
          have q349 : x5_1 < (t336.length : Int) := of_decide_eq_true (by first | (with_reducible assumption) | assumption)
          obtain ⟨ad349, e349, hx349_0⟩ := Kd.at_int (Kd.R_reads' HO_3.out).2.2 x5_1 p349 q349
          obtain rfl : ad339 = ad349 := (by injection e349)
          replace p349 := eq_true p349
          replace q349 := eq_true q349
          go_wp2
          go_roundg k1
          case measure => have := HK1.out; omega
          case rel => exact ⟨(x4_1), (wrap64 (x5_1 + 1)), (by first | rfl | (simp; done) | (simp [*]; done)), (by first | rfl | (simp; done) | (simp [*]; done)), H', ⟨by have := HK1.out; omega⟩, ⟨by (with_reducible repeat (first | apply Kd.R_alloc | apply Kd.R_drewN | apply Kd.R_drew)); exact HO_3.out⟩, ⟨by repeat (first | (with_reducible first | exact HB.out | apply below_alloc | apply pw_below_drewN | apply below_drew1) | exact HB.out)⟩⟩
        ·rw [if_neg c20] at H
         have c20b0 : ((rd t336 x5_1) == 10) = false := beq_eq_false_iff_ne.mpr c20
         have c20b1 : ((rd t336 x5_1) != 10) = true := bne_iff_ne.mpr c20
         obtain rfl := Option.some.inj H
         obtain ⟨Ao24, co24, eo24⟩ := Kd.R_slice HO_3.out
         subst eo24
         have p339 : 0 ≤ (x5_1 : Int) := of_decide_eq_true (by first | (with_reducible assumption) | assumption)
         have q339 : x5_1 < (t336.length : Int) := of_decide_eq_true (by first | (with_reducible assumption) | assumption)
         obtain ⟨ad339, e339, hx339_0⟩ := Kd.at_int (Kd.R_reads' HO_3.out).2.2 x5_1 p339 q339
         cases e339
         replace p339 := eq_true p339
         replace q339 := eq_true q339
         have p347 : 0 ≤ (x5_1 : Int) := of_decide_eq_true (by first | (with_reducible assumption) | assumption)
         have q347 : x5_1 < (t336.length : Int) := of_decide_eq_true (by first | (with_reducible assumption) | assumption)
         obtain ⟨ad347, e347, hx347_0⟩ := Kd.at_int (Kd.R_reads' HO_3.out).2.2 x5_1 p347 q347
         obtain rfl : ad339 = ad347 := (by injection e347)
         replace p347 := eq_true p347
         replace q347 := eq_true q347
         have p348 : 0 ≤ (x5_1 : Int) := of_decide_eq_true (by first | (with_reducible assumption) | assumption)
         have q348 : x5_1 < (t336.length : Int) := of_decide_eq_true (by first | (with_reducible assumption) | assumption)
         obtain ⟨ad348, e348, hx348_0⟩ := Kd.at_int (Kd.R_reads' HO_3.out).2.2 x5_1 p348 q348
         obtain rfl : ad339 = ad348 := (by injection e348)
         replace p348 := eq_true p348
         replace q348 := eq_true q348
         go_wp2
         go_ret
         exact ⟨by first | rfl | (simp [errW_none, errW_some] <;> rfl) | (simp [*, errW_none, errW_some] <;> rfl), by repeat (first | (with_reducible first | exact HB.out | apply below_alloc | apply pw_below_drewN | apply below_drew1) | exact HB.out)⟩
       ·rw [if_neg c19] at H
        have c19b0 : decide ((rd t336 x5_1) < 32) = false := decide_eq_false c19
        clear c19
        by_cases c25 : (rd t336 x5_1) = 127
        ·rw [if_pos c25] at H
         have c25b0 : ((rd t336 x5_1) == 127) = true := beq_iff_eq.mpr c25
         have c25b1 : ((rd t336 x5_1) != 127) = false := bne_eq_false_iff_eq.mpr c25
         clear c25
         obtain rfl := Option.some.inj H
         obtain ⟨Ao26, co26, eo26⟩ := Kd.R_slice HO_3.out
         subst eo26
         have p339 : 0 ≤ (x5_1 : Int) := of_decide_eq_true (by first | (with_reducible assumption) | assumption)
         have q339 : x5_1 < (t336.length : Int) := of_decide_eq_true (by first | (with_reducible assumption) | assumption)
         obtain ⟨ad339, e339, hx339_0⟩ := Kd.at_int (Kd.R_reads' HO_3.out).2.2 x5_1 p339 q339
         cases e339
         replace p339 := eq_true p339
         replace q339 := eq_true q339
         have p347 : 0 ≤ (x5_1 : Int) := of_decide_eq_true (by first | (with_reducible assumption) | assumption)
         have q347 : x5_1 < (t336.length : Int) := of_decide_eq_true (by first | (with_reducible assumption) | assumption)
         obtain ⟨ad347, e347, hx347_0⟩ := Kd.at_int (Kd.R_reads' HO_3.out).2.2 x5_1 p347 q347
         obtain rfl : ad339 = ad347 := (by injection e347)
         replace p347 := eq_true p347
         replace q347 := eq_true q347
         have p350 : 0 ≤ (x5_1 : Int) := of_decide_eq_true (by first | (with_reducible assumption) | assumption)
         have q350 : x5_1 < (t336.length : Int) := of_decide_eq_true (by first | (with_reducible assumption) | assumption)
         obtain ⟨ad350, e350, hx350_0⟩ := Kd.at_int (Kd.R_reads' HO_3.out).2.2 x5_1 p350 q350
         obtain rfl : ad339 = ad350 := (by injection e350)
         replace p350 := eq_true p350
         replace q350 := eq_true q350
         go_wp2
         go_ret
         exact ⟨by first | rfl | (simp [errW_none, errW_some] <;> rfl) | (simp [*, errW_none, errW_some] <;> rfl), by repeat (first | (with_reducible first | exact HB.out | apply below_alloc | apply pw_below_drewN | apply below_drew1) | exact HB.out)⟩
        ·rw [if_neg c25] at H
         have c25b0 : ((rd t336 x5_1) == 127) = false := beq_eq_false_iff_ne.mpr c25
         have c25b1 : ((rd t336 x5_1) != 127) = true := bne_iff_ne.mpr c25
         have H' := Aside0.mk H
         clear H
         obtain ⟨Ao27, co27, eo27⟩ := Kd.R_slice HO_3.out
         subst eo27
         have p339 : 0 ≤ (x5_1 : Int) := of_decide_eq_true (by first | (with_reducible assumption) | assumption)
         have q339 : x5_1 < (t336.length : Int) := of_decide_eq_true (by first | (with_reducible assumption) | assumption)
         obtain ⟨ad339, e339, hx339_0⟩ := Kd.at_int (Kd.R_reads' HO_3.out).2.2 x5_1 p339 q339
         cases e339
         replace p339 := eq_true p339
         replace q339 := eq_true q339
         have p347 : 0 ≤ (x5_1 : Int) := of_decide_eq_true (by first | (with_reducible assumption) | assumption)
         have q347 : x5_1 < (t336.length : Int) := of_decide_eq_true (by first | (with_reducible assumption) | assumption)
         obtain ⟨ad347, e347, hx347_0⟩ := Kd.at_int (Kd.R_reads' HO_3.out).2.2 x5_1 p347 q347
         obtain rfl : ad339 = ad347 := (by injection e347)
         replace p347 := eq_true p347
         replace q347 := eq_true q347
         have p350 : 0 ≤ (x5_1 : Int) := of_decide_eq_true (by first | (with_reducible assumption) | assumption)
         have q350 : x5_1 < (t336.length : Int) := of_decide_eq_true (by first | (with_reducible assumption) | assumption)
         obtain ⟨ad350, e350, hx350_0⟩ := Kd.at_int (Kd.R_reads' HO_3.out).2.2 x5_1 p350 q350
         obtain rfl : ad339 = ad350 := (by injection e350)
         replace p350 := eq_true p350
         replace q350 := eq_true q350
         go_wp2
         go_roundg k1
         case measure => have := HK1.out; omega
         case rel => exact ⟨(x4_1), (wrap64 (x5_1 + 1)), (by first | rfl | (simp; done) | (simp [*]; done)), (by first | rfl | (simp; done) | (simp [*]; done)), H', ⟨by have := HK1.out; omega⟩, ⟨by (with_reducible repeat (first | apply Kd.R_alloc | apply Kd.R_drewN | apply Kd.R_drew)); exact HO_3.out⟩, ⟨by repeat (first | (with_reducible first | exact HB.out | apply below_alloc | apply pw_below_drewN | apply below_drew1) | exact HB.out)⟩⟩
     ·rw [if_neg c9] at H
      exact absurd H (by simp)
    ·rw [if_neg c8] at H
     have c8b0 : decide (x5_1 < (t336.length : Int)) = false := decide_eq_false c8
     clear c8
     replace H := Option.bind_eq_some_iff.mp H
     obtain ⟨t351, A280, H⟩ := H
     replace H : (flonglaw19_AnsiSafe.l1 k1 x4_1 t351 0) = some r := H
     have A28 := Aside0.mk A280
     clear A280
     have H' := Aside0.mk H
     clear H
     obtain ⟨Ao29, co29, eo29⟩ := Kd.R_slice HO_3.out
     subst eo29
     go_wp2_with (first | ((with_reducible refine gate_callee (f := 21) rfl ?_); refine goesL_ (some 61) rfl rfl Tryd.func21 (by kernel_rfl) rfl #[.slice A0 l0.length c0] rfl (by (try simp only [List.map_toArray, List.map_cons, List.map_nil]); first | done | rfl | (simp only [List.length_drop, List.length_take]; rfl)) ?_; (with_reducible refine (flongref17_Rows.calls k1 _ _ l0 t351 _ ?side1 ?side2 A28.out).mono ?_); (case side1 => repeat (first | exact (Kd.C_below HR0.out HB.out) | (with_reducible refine Kd.C_alloc ?_ _) | (with_reducible refine Kd.C_drewN ?_ _) | (with_reducible refine Kd.C_drew ?_))); (case side2 => exact HC0.out); rintro e w30 ⟨v352, rfl, ho0, hb⟩; refine ⟨_, rfl, ?_⟩; have n0_ := Aside0.mk (Kd.R_below (by (with_reducible repeat (first | apply Kd.R_alloc | apply Kd.R_drewN | apply Kd.R_drew)); exact HO_3.out) hb); have n1_ := Aside0.mk (Kd.S_lower ho0 (below_size (by repeat (first | (with_reducible first | exact HB.out | apply below_alloc | apply pw_below_drewN | apply below_drew1) | exact HB.out)))); have n2_ := Aside0.mk (below_step (by repeat (first | (with_reducible first | exact HB.out | apply below_alloc | apply pw_below_drewN | apply below_drew1) | exact HB.out)) hb); clear HO_3; clear HB; have HO_3 := n0_; have HO353 := n1_; have HB := n2_; clear n0_ n1_ n2_; (try clear hb); (try clear hb2); (try clear hk); (try clear hi); (try clear ho0)))
     go_loopg [4, 10] k1 (fun kq v4 v10 w' => ∃ (x4_2 : Int) (x10_2 : Int), v4 = .int .i64 x4_2 ∧ v10 = .int .i64 x10_2 ∧ Aside0 (flonglaw19_AnsiSafe.l1 kq x4_2 t351 x10_2 = some r) ∧ Aside0 (kq ≤ k1) ∧ Aside0 (Kd.S (Kd.slice 44 k44) 33 w' w.heap.size (fun _ => True) v352 t351) ∧ Aside0 (Below w.heap.size w w'))
     case atStart => exact ⟨(x4_1), (0), (by first | rfl | (simp; done) | (simp [*]; done)), (by first | rfl | (simp; done) | (simp [*]; done)), H', ⟨Nat.le_refl _⟩, ⟨by (with_reducible repeat (first | apply Kd.S_alloc | apply Kd.S_drewN | apply Kd.S_drew)); exact HO353.out⟩, ⟨by repeat (first | (with_reducible first | exact HB.out | apply below_alloc | apply pw_below_drewN | apply below_drew1) | exact HB.out)⟩⟩
     case round =>
      clear H'
      try clear c1
      try clear q1
      try clear c2
      try clear p2
      try clear c3
      try clear p3
      try clear q3
      try clear hx3
      try clear c5
      try clear p6
      try clear c8
      try clear c8b0
      try clear c9
      try clear c9b0
      try clear c10
      try clear c10b0
      try clear c10b1
      try clear c11
      try clear c11b0
      try clear c12
      try clear c12b0
      try clear c12b1
      try clear c14
      try clear c15
      try clear c16
      try clear q16
      try clear c18
      try clear q18
      try clear c19
      try clear c19b0
      try clear c20
      try clear c20b0
      try clear c20b1
      try clear c21
      try clear c21b0
      try clear c21b1
      try clear c25
      try clear c25b0
      try clear c25b1
      try clear hx339_0
      try clear hx347_0
      try clear hx348_0
      try clear hx349_0
      try clear hx350_0
      try clear p2
      try clear p339
      try clear p347
      try clear p348
      try clear p349
      try clear p350
      try clear q016
      try clear q018
      try clear q16
      try clear q18
      try clear q339
      try clear q347
      try clear q348
      try clear q349
      try clear q350
      obtain ⟨x4_2, x10_2, rfl, rfl, HA, HK2, HO_9, HB⟩ := hrel
      cases gk with
      | zero => exact absurd HA.out (by simp [flonglaw19_AnsiSafe.l1])
      | succ k2 =>
       have H := HA.out
       clear HA
       simp only [flonglaw19_AnsiSafe.l1] at H
       by_cases c31 : x10_2 < (t351.length : Int)
       ·rw [if_pos c31] at H
        have c31b0 : decide (x10_2 < (t351.length : Int)) = true := decide_eq_true c31
        clear c31
        by_cases c32 : 0 ≤ x10_2
        ·rw [if_pos c32] at H
         have c32b0 : decide (0 ≤ x10_2) = true := decide_eq_true c32
         clear c32
         replace H := Option.bind_eq_some_iff.mp H
         obtain ⟨t356, A330, H⟩ := H
         replace H : (flonglaw19_AnsiSafe.l2 k2 x4_2 t351 x10_2 t356 0) = some r := H
         have A33 := Aside0.mk A330
         clear A330
         have H' := Aside0.mk H
         clear H
         obtain ⟨Ao34, co34, eo34⟩ := Kd.S_slice HO_9.out
         subst eo34
         have p355 : 0 ≤ (x10_2 : Int) := of_decide_eq_true (by first | (with_reducible assumption) | assumption)
         have q355 : x10_2 < (t351.length : Int) := of_decide_eq_true (by first | (with_reducible assumption) | assumption)
         obtain ⟨ad355, A355_0, c355_0, e355, hx355_0, hl355_0, hi355_0⟩ := at_L5 (Kd.S_reads' HO_9.out).2.2 x10_2 p355 q355
         cases e355
         obtain ⟨ce355, hce355, hMe355, hcc355⟩ := Kd.S_get HO_9.out [] x10_2 p355 (by first | exact q355 | exact of_decide_eq_true (by first | (with_reducible assumption) | assumption) | (have e_ := (Kd.S_reads' HO_9.out).1; omega))
         obtain ⟨ve355_0, rfl, ge355_0⟩ := hMe355
         have hv355_0 := hcc355 0 _ rfl
         rw [Nat.add_zero, show ((Kd.slice 44 k44)).sz = 1 from rfl, Nat.mul_one] at hv355_0
         replace hv355_0 := Option.some.inj (hv355_0.symm.trans hx355_0)
         rw [hv355_0] at ge355_0
         have HL355_0 := Aside0.mk (show Kd.R k44 44 _ _ _ _ (rd_L5 t351 x10_2) from ge355_0)
         clear hv355_0 ge355_0
         clear hcc355 hce355
         have HR355_0 := Aside0.mk hi355_0
         have HC355_0 := Aside0.mk hl355_0
         clear hi355_0 hl355_0
         replace p355 := eq_true p355
         replace q355 := eq_true q355
         go_wp2_with (first | ((with_reducible refine gate_callee (f := 22) rfl ?_); refine goesL_ (some 72) rfl rfl Tryd.func22 (by kernel_rfl) rfl #[.slice A355_0 (rd_L5 t351 x10_2).length c355_0] rfl (by (try simp only [List.map_toArray, List.map_cons, List.map_nil]); first | done | rfl | (simp only [List.length_drop, List.length_take]; rfl)) ?_; (with_reducible refine (flongref03_Runs.calls k2 _ _ (rd_L5 t351 x10_2) t356 _ ?side1 ?side2 A33.out).mono ?_); (case side1 => repeat (first | exact (by repeat (first | (with_reducible exact HR355_0.out) | (with_reducible refine Kd.C_alloc ?_ _) | (with_reducible refine Kd.C_drewN ?_ _) | (with_reducible refine Kd.C_drew ?_) | exact HR355_0.out)) | (with_reducible refine Kd.C_alloc ?_ _) | (with_reducible refine Kd.C_drewN ?_ _) | (with_reducible refine Kd.C_drew ?_))); (case side2 => exact HC355_0.out); rintro e w35 ⟨v357, rfl, ho0, hb⟩; refine ⟨_, rfl, ?_⟩; have n0_ := Aside0.mk (Kd.S_elder' (by (with_reducible repeat (first | apply Kd.S_alloc | apply Kd.S_drewN | apply Kd.S_drew)); exact HO_9.out) (Kd.S_base ho0) hb); have n1_ := Aside0.mk (Kd.R_below (by (with_reducible repeat (first | apply Kd.R_alloc | apply Kd.R_drewN | apply Kd.R_drew)); exact HL355_0.out) hb); have n2_ := Aside0.mk (Kd.S_lower (Kd.S_new' (Kd.S_new' ho0 (Kd.S_lt (by (with_reducible repeat (first | apply Kd.S_alloc | apply Kd.S_drewN | apply Kd.S_drew)); exact HO_9.out))) (Kd.R_lt (by (with_reducible repeat (first | apply Kd.R_alloc | apply Kd.R_drewN | apply Kd.R_drew)); exact HL355_0.out))) (below_size (by repeat (first | (with_reducible first | exact HB.out | apply below_alloc | apply pw_below_drewN | apply below_drew1) | exact HB.out)))); have n3_ := Aside0.mk (Kd.C_below (by repeat (first | (with_reducible exact HR355_0.out) | (with_reducible refine Kd.C_alloc ?_ _) | (with_reducible refine Kd.C_drewN ?_ _) | (with_reducible refine Kd.C_drew ?_) | exact HR355_0.out)) hb); have n4_ := Aside0.mk (below_step (by repeat (first | (with_reducible first | exact HB.out | apply below_alloc | apply pw_below_drewN | apply below_drew1) | exact HB.out)) hb); clear HO_9; clear HL355_0; clear HR355_0; clear HB; have HO_9 := n0_; have HL355_0 := n1_; have HO358 := n2_; have HR355_0 := n3_; have HB := n4_; clear n0_ n1_ n2_ n3_ n4_; (try clear hb); (try clear hb2); (try clear hk); (try clear hi); (try clear ho0)))
         go_loopg [4, 12] k2 (fun kq v4 v12 w' => ∃ (x4_3 : Int) (x12_3 : Int), v4 = .int .i64 x4_3 ∧ v12 = .int .i64 x12_3 ∧ Aside0 (flonglaw19_AnsiSafe.l2 kq x4_3 t351 x10_2 t356 x12_3 = some r) ∧ Aside0 (kq ≤ k2) ∧ Aside0 (Kd.S (Kd.slice 44 k44) 33 w' w.heap.size (fun k_ => some k_ ≠ (v357 : Value).ownBlock) (.slice (some ad355) t351.length co34) t351) ∧ Aside0 (Kd.S (Kd.slice 44 k44) 33 w' w.heap.size (fun k_ => some k_ ≠ ((.slice (some ad355) t351.length co34) : Value).ownBlock) v357 t356) ∧ Aside0 (Kd.C k44 w' A355_0 (rd_L5 t351 x10_2).length (rd_L5 t351 x10_2)) ∧ Aside0 (Below w.heap.size w w'))
         case atStart => exact ⟨(x4_2), (0), (by first | rfl | (simp; done) | (simp [*]; done)), (by first | rfl | (simp; done) | (simp [*]; done)), H', ⟨Nat.le_refl _⟩, ⟨by (with_reducible repeat (first | apply Kd.S_alloc | apply Kd.S_drewN | apply Kd.S_drew)); exact Kd.S_mono HO_9.out (fun _ hk => hk.2)⟩, ⟨by (with_reducible repeat (first | apply Kd.S_alloc | apply Kd.S_drewN | apply Kd.S_drew)); exact Kd.S_mono HO358.out (fun _ hk => hk.1.2)⟩, ⟨by repeat (first | (with_reducible exact HR355_0.out) | (with_reducible refine Kd.C_alloc ?_ _) | (with_reducible refine Kd.C_drewN ?_ _) | (with_reducible refine Kd.C_drew ?_) | exact HR355_0.out)⟩, ⟨by repeat (first | (with_reducible first | exact HB.out | apply below_alloc | apply pw_below_drewN | apply below_drew1) | exact HB.out)⟩⟩
         case round =>
          clear H'
          try clear c1
          try clear q1
          try clear c2
          try clear p2
          try clear c3
          try clear p3
          try clear q3
          try clear hx3
          try clear c5
          try clear p6
          try clear c8
          try clear c8b0
          try clear c9
          try clear c9b0
          try clear c10
          try clear c10b0
          try clear c10b1
          try clear c11
          try clear c11b0
          try clear c12
          try clear c12b0
          try clear c12b1
          try clear c14
          try clear c15
          try clear c16
          try clear q16
          try clear c18
          try clear q18
          try clear c19
          try clear c19b0
          try clear c20
          try clear c20b0
          try clear c20b1
          try clear c21
          try clear c21b0
          try clear c21b1
          try clear c22
          try clear c25
          try clear c25b0
          try clear c25b1
          try clear c31
          try clear c31b0
          try clear c32
          try clear c32b0
          try clear p33
          try clear q33
          try clear hx33
          try clear p34
          try clear q34
          try clear hx34
          try clear c35
          try clear p35
          try clear q35
          try clear hx35
          try clear hx339_0
          try clear hx347_0
          try clear hx348_0
          try clear hx349_0
          try clear hx350_0
          try clear hx355_0
          try clear p2
          try clear p3
          try clear p339
          try clear p347
          try clear p348
          try clear p349
          try clear p350
          try clear p355
          try clear p6
          try clear q016
          try clear q018
          try clear q1
          try clear q16
          try clear q18
          try clear q3
          try clear q339
          try clear q347
          try clear q348
          try clear q349
          try clear q350
          try clear q355
          obtain ⟨x4_3, x12_3, rfl, rfl, HA, HK3, HO_9, HO_11, HR355_0, HB⟩ := hrel
          cases gk with
          | zero => exact absurd HA.out (by simp [flonglaw19_AnsiSafe.l2])
          | succ k3 =>
           have H := HA.out
           clear HA
           simp only [flonglaw19_AnsiSafe.l2] at H
           by_cases c36 : x12_3 < (t356.length : Int)
           ·rw [if_pos c36] at H
            have c36b0 : decide (x12_3 < (t356.length : Int)) = true := decide_eq_true c36
            clear c36
            by_cases c37 : 0 ≤ x12_3
            ·rw [if_pos c37] at H
             have c37b0 : decide (0 ≤ x12_3) = true := decide_eq_true c37
             clear c37
             by_cases c38 : 0 < ((rd_L5 t356 x12_3).length : Int)
             ·rw [if_pos c38] at H
              have c38b0 : decide (0 < ((rd_L5 t356 x12_3).length : Int)) = true := decide_eq_true c38
              have c38b1 : decide (0 < (rd_L5 t356 x12_3).length) = true := decide_eq_true (by omega)
              clear c38
              by_cases c39 : ((rd_T44 (rd_L5 t356 x12_3) 0).f1) = 0
              ·rw [if_pos c39] at H
               have c39b0 : (((rd_T44 (rd_L5 t356 x12_3) 0).f1) == 0) = true := beq_iff_eq.mpr c39
               have c39b1 : (((rd_T44 (rd_L5 t356 x12_3) 0).f1) != 0) = false := bne_eq_false_iff_eq.mpr c39
               clear c39
               have H' := Aside0.mk H
               clear H
               obtain ⟨Ao40, co40, eo40⟩ := Kd.S_slice HO_11.out
               subst eo40
               have p359 : 0 ≤ (x12_3 : Int) := of_decide_eq_true (by first | (with_reducible assumption) | assumption)
               have q359 : x12_3 < (t356.length : Int) := of_decide_eq_true (by first | (with_reducible assumption) | assumption)
               obtain ⟨ad359, A359_0, c359_0, e359, hx359_0, hl359_0, hi359_0⟩ := at_L5 (Kd.S_reads' HO_11.out).2.2 x12_3 p359 q359
               cases e359
               obtain ⟨ce359, hce359, hMe359, hcc359⟩ := Kd.S_get HO_11.out [] x12_3 p359 (by first | exact q359 | exact of_decide_eq_true (by first | (with_reducible assumption) | assumption) | (have e_ := (Kd.S_reads' HO_11.out).1; omega))
               obtain ⟨ve359_0, rfl, ge359_0⟩ := hMe359
               have hv359_0 := hcc359 0 _ rfl
               rw [Nat.add_zero, show ((Kd.slice 44 k44)).sz = 1 from rfl, Nat.mul_one] at hv359_0
               replace hv359_0 := Option.some.inj (hv359_0.symm.trans hx359_0)
               rw [hv359_0] at ge359_0
               have HL359_0 := Aside0.mk (show Kd.R k44 44 _ _ _ _ (rd_L5 t356 x12_3) from ge359_0)
               clear hv359_0 ge359_0
               clear hcc359 hce359
               have HR359_0 := Aside0.mk hi359_0
               have HC359_0 := Aside0.mk hl359_0
               clear hi359_0 hl359_0
               replace p359 := eq_true p359
               replace q359 := eq_true q359
               have p360 : 0 ≤ (0 : Int) := (by omega)
               have q360 : 0 < ((rd_L5 t356 x12_3).length : Int) := of_decide_eq_true (by first | (with_reducible assumption) | assumption)
               obtain ⟨ad360, e360, hx360_0, hx360_1⟩ := at_T44 (by repeat (first | (with_reducible exact HR359_0.out) | (with_reducible refine Kd.C_alloc ?_ _) | (with_reducible refine Kd.C_drewN ?_ _) | (with_reducible refine Kd.C_drew ?_) | exact HR359_0.out)) 0 p360 q360
               cases e360
               have qi360 : (0 < (rd_L5 t356 x12_3).length) = True := eq_true (by omega)
               (try rw [show ((0 : Int)).toNat = 0 from rfl] at hx360_0)
               (try rw [show 0 * 2 = 0 from rfl] at hx360_0)
               (try rw [Addr.add_zero'] at hx360_0)
               (try rw [show ((0 : Int)).toNat = 0 from rfl] at hx360_1)
               (try rw [show 0 * 2 = 0 from rfl] at hx360_1)
               (try rw [Addr.add_zero'] at hx360_1)
               replace p360 := eq_true p360
               replace q360 := eq_true q360
               go_wp2
               go_roundg k3
               case measure => have := HK1.out; have := HK2.out; have := HK3.out; omega
               case rel => exact ⟨(x4_3), (wrap64 (x12_3 + 1)), (by first | rfl | (simp; done) | (simp [*]; done)), (by first | rfl | (simp; done) | (simp [*]; done)), H', ⟨by have := HK1.out; have := HK2.out; have := HK3.out; omega⟩, ⟨by (with_reducible repeat (first | apply Kd.S_alloc | apply Kd.S_drewN | apply Kd.S_drew)); exact HO_9.out⟩, ⟨by (with_reducible repeat (first | apply Kd.S_alloc | apply Kd.S_drewN | apply Kd.S_drew)); exact HO_11.out⟩, ⟨by repeat (first | (with_reducible exact HR355_0.out) | (with_reducible refine Kd.C_alloc ?_ _) | (with_reducible refine Kd.C_drewN ?_ _) | (with_reducible refine Kd.C_drew ?_) | exact HR355_0.out)⟩, ⟨by repeat (first | (with_reducible first | exact HB.out | apply below_alloc | apply pw_below_drewN | apply below_drew1) | exact HB.out)⟩⟩
              ·rw [if_neg c39] at H
               have c39b0 : (((rd_T44 (rd_L5 t356 x12_3) 0).f1) == 0) = false := beq_eq_false_iff_ne.mpr c39
               have c39b1 : (((rd_T44 (rd_L5 t356 x12_3) 0).f1) != 0) = true := bne_iff_ne.mpr c39
               have H' := Aside0.mk H
               clear H
               obtain ⟨Ao41, co41, eo41⟩ := Kd.S_slice HO_11.out
               subst eo41
               have p359 : 0 ≤ (x12_3 : Int) := of_decide_eq_true (by first | (with_reducible assumption) | assumption)
               have q359 : x12_3 < (t356.length : Int) := of_decide_eq_true (by first | (with_reducible assumption) | assumption)
               obtain ⟨ad359, A359_0, c359_0, e359, hx359_0, hl359_0, hi359_0⟩ := at_L5 (Kd.S_reads' HO_11.out).2.2 x12_3 p359 q359
               cases e359
               obtain ⟨ce359, hce359, hMe359, hcc359⟩ := Kd.S_get HO_11.out [] x12_3 p359 (by first | exact q359 | exact of_decide_eq_true (by first | (with_reducible assumption) | assumption) | (have e_ := (Kd.S_reads' HO_11.out).1; omega))
               obtain ⟨ve359_0, rfl, ge359_0⟩ := hMe359
               have hv359_0 := hcc359 0 _ rfl
               rw [Nat.add_zero, show ((Kd.slice 44 k44)).sz = 1 from rfl, Nat.mul_one] at hv359_0
               replace hv359_0 := Option.some.inj (hv359_0.symm.trans hx359_0)
               rw [hv359_0] at ge359_0
               have HL359_0 := Aside0.mk (show Kd.R k44 44 _ _ _ _ (rd_L5 t356 x12_3) from ge359_0)
               clear hv359_0 ge359_0
               clear hcc359 hce359
               have HR359_0 := Aside0.mk hi359_0
               have HC359_0 := Aside0.mk hl359_0
               clear hi359_0 hl359_0
               replace p359 := eq_true p359
               replace q359 := eq_true q359
               have p360 : 0 ≤ (0 : Int) := (by omega)
               have q360 : 0 < ((rd_L5 t356 x12_3).length : Int) := of_decide_eq_true (by first | (with_reducible assumption) | assumption)
               obtain ⟨ad360, e360, hx360_0, hx360_1⟩ := at_T44 (by repeat (first | (with_reducible exact HR359_0.out) | (with_reducible refine Kd.C_alloc ?_ _) | (with_reducible refine Kd.C_drewN ?_ _) | (with_reducible refine Kd.C_drew ?_) | exact HR359_0.out)) 0 p360 q360
               cases e360
               have qi360 : (0 < (rd_L5 t356 x12_3).length) = True := eq_true (by omega)
               (try rw [show ((0 : Int)).toNat = 0 from rfl] at hx360_0)
               (try rw [show 0 * 2 = 0 from rfl] at hx360_0)
               (try rw [Addr.add_zero'] at hx360_0)
               (try rw [show ((0 : Int)).toNat = 0 from rfl] at hx360_1)
               (try rw [show 0 * 2 = 0 from rfl] at hx360_1)
               (try rw [Addr.add_zero'] at hx360_1)
               replace p360 := eq_true p360
               replace q360 := eq_true q360
               go_wp2
               go_roundg k3
               case measure => have := HK1.out; have := HK2.out; have := HK3.out; omega
               case rel => exact ⟨(wrap64 (x4_3 - 2)), (wrap64 (x12_3 + 1)), (by first | rfl | (simp; done) | (simp [*]; done)), (by first | rfl | (simp; done) | (simp [*]; done)), H', ⟨by have := HK1.out; have := HK2.out; have := HK3.out; omega⟩, ⟨by (with_reducible repeat (first | apply Kd.S_alloc | apply Kd.S_drewN | apply Kd.S_drew)); exact HO_9.out⟩, ⟨by (with_reducible repeat (first | apply Kd.S_alloc | apply Kd.S_drewN | apply Kd.S_drew)); exact HO_11.out⟩, ⟨by repeat (first | (with_reducible exact HR355_0.out) | (with_reducible refine Kd.C_alloc ?_ _) | (with_reducible refine Kd.C_drewN ?_ _) | (with_reducible refine Kd.C_drew ?_) | exact HR355_0.out)⟩, ⟨by repeat (first | (with_reducible first | exact HB.out | apply below_alloc | apply pw_below_drewN | apply below_drew1) | exact HB.out)⟩⟩
             ·rw [if_neg c38] at H
              exact absurd H (by simp)
            ·rw [if_neg c37] at H
             exact absurd H (by simp)
           ·rw [if_neg c36] at H
            have c36b0 : decide (x12_3 < (t356.length : Int)) = false := decide_eq_false c36
            clear c36
            have H' := Aside0.mk H
            clear H
            obtain ⟨Ao42, co42, eo42⟩ := Kd.S_slice HO_11.out
            subst eo42
            go_wp2
            go_roundg k3
            case measure => have := HK1.out; have := HK2.out; have := HK3.out; omega
            case rel => exact ⟨(x4_3), (wrap64 (x10_2 + 1)), (by first | rfl | (simp; done) | (simp [*]; done)), (by first | rfl | (simp; done) | (simp [*]; done)), H', ⟨by have := HK1.out; have := HK2.out; have := HK3.out; omega⟩, ⟨by (with_reducible repeat (first | apply Kd.S_alloc | apply Kd.S_drewN | apply Kd.S_drew)); exact Kd.S_mono HO_9.out (fun _ hk => trivial)⟩, ⟨by repeat (first | (with_reducible first | exact HB.out | apply below_alloc | apply pw_below_drewN | apply below_drew1) | exact HB.out)⟩⟩
        ·rw [if_neg c32] at H
         exact absurd H (by simp)
       ·rw [if_neg c31] at H
        have c31b0 : decide (x10_2 < (t351.length : Int)) = false := decide_eq_false c31
        clear c31
        by_cases c43 : x4_2 = 0
        ·rw [if_pos c43] at H
         have c43b0 : (x4_2 == 0) = true := beq_iff_eq.mpr c43
         have c43b1 : (x4_2 != 0) = false := bne_eq_false_iff_eq.mpr c43
         clear c43
         replace H := Option.bind_eq_some_iff.mp H
         obtain ⟨t354, A440, H⟩ := H
         replace H : (some t354) = some r := H
         have A44 := Aside0.mk A440
         clear A440
         obtain rfl := Option.some.inj H
         obtain ⟨Ao45, co45, eo45⟩ := Kd.S_slice HO_9.out
         subst eo45
         go_wp2_with (first | (go_at_call 10; (with_reducible refine (flonglaw19_known.calls k2  t354 _ ?side1 A44.out).mono ?_); (case side1 => exact GOK.of_below (GOK.sub HG.out rfl) (by repeat (first | (with_reducible first | exact HB.out | apply below_alloc | apply pw_below_drewN | apply below_drew1) | exact HB.out))); rintro e w46 ⟨rfl, hb⟩; have n0_ := Aside0.mk (Kd.S_below (by (with_reducible repeat (first | apply Kd.S_alloc | apply Kd.S_drewN | apply Kd.S_drew)); exact HO_9.out) hb); have n1_ := Aside0.mk (below_step (by repeat (first | (with_reducible first | exact HB.out | apply below_alloc | apply pw_below_drewN | apply below_drew1) | exact HB.out)) hb); clear HO_9; clear HB; have HO_9 := n0_; have HB := n1_; clear n0_ n1_; (try clear hb); (try clear hb2); (try clear hk); (try clear hi)))
         go_ret
         exact ⟨by first | rfl | (simp [errW_none, errW_some] <;> rfl) | (simp [*, errW_none, errW_some] <;> rfl), by repeat (first | (with_reducible first | exact HB.out | apply below_alloc | apply pw_below_drewN | apply below_drew1) | exact HB.out)⟩
        ·rw [if_neg c43] at H
         have c43b0 : (x4_2 == 0) = false := beq_eq_false_iff_ne.mpr c43
         have c43b1 : (x4_2 != 0) = true := bne_iff_ne.mpr c43
         obtain rfl := Option.some.inj H
         obtain ⟨Ao47, co47, eo47⟩ := Kd.S_slice HO_9.out
         subst eo47
         go_wp2
         go_ret
         exact ⟨by first | rfl | (simp [errW_none, errW_some] <;> rfl) | (simp [*, errW_none, errW_some] <;> rfl), by repeat (first | (with_reducible first | exact HB.out | apply below_alloc | apply pw_below_drewN | apply below_drew1) | exact HB.out)⟩

end Go.Proofs.YtdjepocklmlnbaaDoor.X
