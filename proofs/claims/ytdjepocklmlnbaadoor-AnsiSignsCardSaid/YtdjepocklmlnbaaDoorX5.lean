-- Written by this session's xprint.py (a variant of the kit's printer). Not trusted: Lean checks it.
import Derived.Test.YtdjepocklmlnbaaDoorX0
import Derived.Test.YtdjepocklmlnbaaDoorSlim
import Derived.WalkMore
import Derived.Test.YtdjepocklmlnbaaDoorHandA
import Derived.Test.YtdjepocklmlnbaaDoorHandW
namespace Go.Proofs.YtdjepocklmlnbaaDoor.X
open Go.Proofs.YtdjepocklmlnbaaDoor.Hand
open Go.RowKit Go.Proofs.YtdjepocklmlnbaaDoorW.PrintWords Go.Proofs.YtdjepocklmlnbaaDoorW.PrintLast Go.Proofs.YtdjepocklmlnbaaDoorW.PrintMore
attribute [local go_sem] max2_int min2_int max_two min_two max_three min_three max_four min_four   -- for this text's walks alone
set_option linter.unusedVariables false
set_option maxHeartbeats 8000000
set_option maxRecDepth 100000
set_option linter.unusedSimpArgs false

/-! ### ansi_Strip: function 14 -/
def ansi_Strip.l0 : Nat → List Int → List Int → Option (List Int)
 | 0, _, _ => none
 | k + 1, x0, x3 => if (x0.length : Int) > 0 then ((ansi_Signs.f x0).bind fun bt173 => (if bt173.2.2 = true then (if 0 ≤ bt173.2.1 then (if bt173.2.1 ≤ (x0.length : Int) then (ansi_Strip.l0 k (x0.drop (bt173.2.1 : Int).toNat) x3) else (none)) else (none)) else (if 0 < (x0.length : Int) then (if x3.length < 140737488355328 then (if 1 ≤ (x0.length : Int) then (ansi_Strip.l0 k (x0.drop 1) (x3 ++ [rd x0 0])) else (none)) else (none)) else (none)))) else (some x3)
def ansi_Strip.f (k : Nat) (l0 : List Int) : Option (List Int) := ansi_Strip.l0 k l0 ([] : List Int)
theorem ansi_Strip.mono_l : ∀ k, (∀ y0 y1, LeO (ansi_Strip.l0 k y0 y1) (ansi_Strip.l0 (k + 1) y0 y1))
 | 0 => fun _ _ r h => by simp [ansi_Strip.l0] at h
 | k + 1 => by
  have ih0 := ansi_Strip.mono_l k
  ·intro y0 y1
   unfold ansi_Strip.l0
   repeat' first
   | (with_reducible exact ih0 _ _)
   | (with_reducible exact LeO.refl _)
   | (with_reducible exact LeO.none _)
   | (with_reducible refine LeO.ite ?_ ?_)
   | (with_reducible refine LeO.bind ?_ (fun _ => ?_))
theorem ansi_Strip.mono : ∀ a0 k, LeO (ansi_Strip.f k a0) (ansi_Strip.f (k + 1) a0) := by
 intro a0 k
 have ih0 := ansi_Strip.mono_l k
 unfold ansi_Strip.f
 repeat' first
   | (with_reducible exact ih0 _ _)
   | (with_reducible exact LeO.refl _)
   | (with_reducible exact LeO.none _)
   | (with_reducible refine LeO.ite ?_ ?_)
   | (with_reducible refine LeO.bind ?_ (fun _ => ?_))
def ansi_Strip.T6 : Bool × List (List Nat × List Nat) := (true, [([], []), ([], []), ([1], [1]), ([2], [2]), ([3], [3]), ([0, 4], [0, 4]), ([], []), ([6], [6]), ([5, 5, 0, 1, 2, 3, 4, 5], [0, 5]), ([7, 8, 0, 1, 2, 3, 4, 5, 6, 7, 8], [1, 6, 7])])
def ansi_Strip.B6 : List Nat := [0, 0, 2, 6, 14, 31, 0, 64, 63, 511]
theorem ansi_Strip.tab6 : rtab .any (opsOf Tryd.f14 6) = ansi_Strip.T6 := by kernel_rfl
theorem ansi_Strip.bits6 : waitsOk ansi_Strip.T6.2 ansi_Strip.B6 = true := by kernel_rfl
theorem ansi_Strip.calls (k : Nat) (P0_ : Nat → Prop) (A0 : Option Addr) (c0 : Nat) (l0 : List Int) (r : List Int) (w : World) (hs0 : Kd.V (Kd.int .u8) 5 w w.heap.size (fun k_ => P0_ k_) (.slice A0 l0.length c0) l0) (hG : GOK [2] w) (h : ansi_Strip.f k l0 = some r) :
  Calls Tryd.prog 14 #[.slice A0 l0.length c0] w fun e w' => ∃ v0_ : Value, e = .returned (v0_) ∧ Kd.R (Kd.int .u8) 5 w' w.heap.size (fun k_ => (w.heap.size ≤ k_)) v0_ r ∧ Below w.heap.size w w' := by
 have HG := Aside0.mk hG
 clear hG
 have HO0 := Aside0.mk (show Kd.V (Kd.int .u8) 5 w w.heap.size (fun k_ => (P0_ k_ ∨ w.heap.size ≤ k_)) (.slice A0 l0.length c0) l0 from Kd.V_mono hs0 (fun k_ hk => .inl hk))
 have HB := Aside0.mk (Below.refl w.heap.size w)
 have H : (ansi_Strip.l0 k l0 ([] : List Int)) = some r := h
 clear h
 have H' := Aside0.mk H
 clear H
 go_enter Tryd.func14, Tryd.ntmps14
 go_wp2
 all_goals (try (go_step3; go_wp2))
 all_goals (try (go_step3; go_wp2))
 go_loopg [0, 3] k (fun kq v0 v3 w' => ∃ (x0_1 : List Int) (x3_1 : List Int), Aside0 (ansi_Strip.l0 kq x0_1 x3_1 = some r) ∧ Aside0 (kq ≤ k) ∧ Aside0 (Kd.V (Kd.int .u8) 5 w' w.heap.size (fun k_ => (P0_ k_ ∨ w.heap.size ≤ k_) ∧ some k_ ≠ (v3 : Value).ownBlock) v0 x0_1) ∧ Aside0 (Kd.R (Kd.int .u8) 5 w' w.heap.size (fun k_ => (w.heap.size ≤ k_)) v3 x3_1) ∧ Aside0 (Below w.heap.size w w'))
 case atStart => exact ⟨(l0), (([] : List Int)), H', ⟨Nat.le_refl _⟩, ⟨by (with_reducible repeat (first | apply Kd.V_alloc | apply Kd.V_drewN | apply Kd.V_drew)); exact Kd.V_mono HO0.out (fun _ hk => ⟨hk, (by simp [Value.ownBlock])⟩)⟩, ⟨by first | exact Kd.R_nil _ _ _ _ _ | exact Kd.N_nil _ _ _ _ _ | exact Kd.V_nil _ _ _ _ _ | exact Kd.Q_nil _ _ _ _ _ | exact Kd.S_nil _ _ _ _ _⟩, ⟨bA⟩⟩
 case round =>
  clear H'
  try clear c1
  obtain ⟨x0_1, x3_1, HA, HK1, HO_0, HO_3, HB⟩ := hrel
  cases gk with
  | zero => exact absurd HA.out (by simp [ansi_Strip.l0])
  | succ k1 =>
   have H := HA.out
   clear HA
   simp only [ansi_Strip.l0] at H
   by_cases c2 : (x0_1.length : Int) > 0
   ·rw [if_pos c2] at H
    have c2b0 : decide (0 < (x0_1.length : Int)) = true := decide_eq_true c2
    have c2b1 : decide (0 < x0_1.length) = true := decide_eq_true (by omega)
    clear c2
    replace H := Option.bind_eq_some_iff.mp H
    obtain ⟨⟨t173, t174, t175⟩, A30, H⟩ := H
    replace H : (if t175 = true then (if 0 ≤ t174 then (if t174 ≤ (x0_1.length : Int) then (ansi_Strip.l0 k1 (x0_1.drop (t174 : Int).toNat) x3_1) else (none)) else (none)) else (if 0 < (x0_1.length : Int) then (if x3_1.length < 140737488355328 then (if 1 ≤ (x0_1.length : Int) then (ansi_Strip.l0 k1 (x0_1.drop 1) (x3_1 ++ [rd x0_1 0])) else (none)) else (none)) else (none))) = some r := H
    have A3 := Aside0.mk A30
    clear A30
    by_cases c4 : t175 = true
    ·subst c4
     have H1 : (if 0 ≤ t174 then (if t174 ≤ (x0_1.length : Int) then (ansi_Strip.l0 k1 (x0_1.drop (t174 : Int).toNat) x3_1) else (none)) else (none)) = some r := by rw [if_pos rfl] at H; exact H
     clear H
     have H := H1
     clear H1
     by_cases c5 : 0 ≤ t174
     ·rw [if_pos c5] at H
      have c5b0 := eq_true c5
      have c5b1 : decide (0 ≤ t174) = true := decide_eq_true c5
      clear c5
      by_cases c6 : t174 ≤ (x0_1.length : Int)
      ·rw [if_pos c6] at H
       have c6b0 := eq_true c6
       have c6b1 : decide (t174 ≤ (x0_1.length : Int)) = true := decide_eq_true c6
       clear c6
       obtain ⟨y176, hy176⟩ : ∃ y_ : List Int, y_ = (x0_1.drop (t174 : Int).toNat) := ⟨_, rfl⟩
       replace H : (ansi_Strip.l0 k1 y176 x3_1) = some r := hyA hy176 H
       have Ny176 := Aside0.mk hy176
       clear hy176
       have H' := Aside0.mk H
       clear H
       obtain ⟨Ao7, co7, eo7⟩ := Kd.V_slice HO_0.out
       subst eo7
       go_wp2_with (first | ((with_reducible refine gate_callee (f := 12) rfl ?_); refine goesL_ (some 12) rfl rfl Tryd.func12 (by kernel_rfl) rfl #[.slice Ao7 x0_1.length co7] rfl aP ?_; (with_reducible refine (ansi_Signs.calls _ _ x0_1 t173 t174 true _ ?side1 ?side2 ?side3 A3.out).mono ?_); (case side1 => repeat (first | exact (Kd.V_reads' HO_0.out).2.2 | (with_reducible refine Kd.C_alloc ?_ _) | (with_reducible refine Kd.C_drewN ?_ _) | (with_reducible refine Kd.C_drew ?_))); (case side2 => exact (Kd.V_reads' HO_0.out).2.1); (case side3 => exact GOK.of_below (GOK.sub HG.out rfl) bA); rintro e w' ⟨rfl, ⟨nd, rfl⟩⟩; refine ⟨_, rfl, ?_⟩; have q8 : (t174 : Int) ≤ ((x0_1.length : Int) : Int) := of_decide_eq_true asA; obtain ⟨i08, hi08, _, hsz8, _⟩ := info_parts info5; have hroom8 : x0_1.length ≤ co7 := (Kd.V_reads' HO_0.out).2.1; have hC8 : Kd.F (Kd.int .u8) _ _ Ao7 x0_1.length x0_1 := (Kd.V_at (base := w.heap.size) HO_0.out).2.2; have q08 : (0 : Int) ≤ (t174 : Int) := of_decide_eq_true asA; have hcut8 := cut_from (P := Tryd.prog) 22 5 .i64 Tryd.underlying22 hi08 1 hsz8 Ao7 x0_1.length co7 t174 q08 q8; have hr8 := Kd.F_cut (m := (t174 : Int).toNat) (c := co7) hC8 (by omega) hroom8; obtain ⟨A8, hA8⟩ : ∃ A1, A1 = (if co7 = (t174 : Int).toNat then Ao7 else (Ao7 : Option Addr).map (·.add ((t174 : Int).toNat * 1))) := ⟨_, rfl⟩; obtain ⟨c8, hc8⟩ : ∃ c1, c1 = co7 - (t174 : Int).toNat := ⟨_, rfl⟩; have hy8 : y176.length = x0_1.length - (t174 : Int).toNat := (by rw [Ny176.out, List.length_drop] <;> omega); rw [show (x0_1).drop (t174 : Int).toNat = y176 from Ny176.out.symm] at hr8; replace hr8 : Kd.F (Kd.int .u8) _ _ A8 y176.length y176 := (by rw [hA8]; exact hr8); rw [← hy8, ← hA8, ← hc8] at hcut8; have HO180 := Aside0.mk (show Kd.V (Kd.int .u8) 5 _ w.heap.size _ (.slice A8 y176.length c8) y176 from Kd.V_mk (by rw [hy8, hc8]; exact Nat.sub_le_sub_right hroom8 _) hr8); have HC180 := Aside0.mk (show y176.length ≤ c8 from by rw [hy8, hc8]; exact Nat.sub_le_sub_right hroom8 _); clear hr8 hC8 hroom8 hi08 hsz8 hc8; have KY8 := Aside0.mk hy8; have KA8 := Aside0.mk hA8; clear hy8 hA8; replace q8 := eq_true q8))
       all_goals (try (go_step3; go_wp2_with (first | ((with_reducible refine gate_callee (f := 12) rfl ?_); refine goesL_ (some 12) rfl rfl Tryd.func12 (by kernel_rfl) rfl #[.slice Ao7 x0_1.length co7] rfl aP ?_; (with_reducible refine (ansi_Signs.calls _ _ x0_1 t173 t174 true _ ?side1 ?side2 ?side3 A3.out).mono ?_); (case side1 => repeat (first | exact (Kd.V_reads' HO_0.out).2.2 | (with_reducible refine Kd.C_alloc ?_ _) | (with_reducible refine Kd.C_drewN ?_ _) | (with_reducible refine Kd.C_drew ?_))); (case side2 => exact (Kd.V_reads' HO_0.out).2.1); (case side3 => exact GOK.of_below (GOK.sub HG.out rfl) bA); rintro e w' ⟨rfl, ⟨nd, rfl⟩⟩; refine ⟨_, rfl, ?_⟩; have q8 : (t174 : Int) ≤ ((x0_1.length : Int) : Int) := of_decide_eq_true asA; obtain ⟨i08, hi08, _, hsz8, _⟩ := info_parts info5; have hroom8 : x0_1.length ≤ co7 := (Kd.V_reads' HO_0.out).2.1; have hC8 : Kd.F (Kd.int .u8) _ _ Ao7 x0_1.length x0_1 := (Kd.V_at (base := w.heap.size) HO_0.out).2.2; have q08 : (0 : Int) ≤ (t174 : Int) := of_decide_eq_true asA; have hcut8 := cut_from (P := Tryd.prog) 22 5 .i64 Tryd.underlying22 hi08 1 hsz8 Ao7 x0_1.length co7 t174 q08 q8; have hr8 := Kd.F_cut (m := (t174 : Int).toNat) (c := co7) hC8 (by omega) hroom8; obtain ⟨A8, hA8⟩ : ∃ A1, A1 = (if co7 = (t174 : Int).toNat then Ao7 else (Ao7 : Option Addr).map (·.add ((t174 : Int).toNat * 1))) := ⟨_, rfl⟩; obtain ⟨c8, hc8⟩ : ∃ c1, c1 = co7 - (t174 : Int).toNat := ⟨_, rfl⟩; have hy8 : y176.length = x0_1.length - (t174 : Int).toNat := (by rw [Ny176.out, List.length_drop] <;> omega); rw [show (x0_1).drop (t174 : Int).toNat = y176 from Ny176.out.symm] at hr8; replace hr8 : Kd.F (Kd.int .u8) _ _ A8 y176.length y176 := (by rw [hA8]; exact hr8); rw [← hy8, ← hA8, ← hc8] at hcut8; have HO180 := Aside0.mk (show Kd.V (Kd.int .u8) 5 _ w.heap.size _ (.slice A8 y176.length c8) y176 from Kd.V_mk (by rw [hy8, hc8]; exact Nat.sub_le_sub_right hroom8 _) hr8); have HC180 := Aside0.mk (show y176.length ≤ c8 from by rw [hy8, hc8]; exact Nat.sub_le_sub_right hroom8 _); clear hr8 hC8 hroom8 hi08 hsz8 hc8; have KY8 := Aside0.mk hy8; have KA8 := Aside0.mk hA8; clear hy8 hA8; replace q8 := eq_true q8))))
       all_goals (try (go_step3; go_wp2_with (first | ((with_reducible refine gate_callee (f := 12) rfl ?_); refine goesL_ (some 12) rfl rfl Tryd.func12 (by kernel_rfl) rfl #[.slice Ao7 x0_1.length co7] rfl aP ?_; (with_reducible refine (ansi_Signs.calls _ _ x0_1 t173 t174 true _ ?side1 ?side2 ?side3 A3.out).mono ?_); (case side1 => repeat (first | exact (Kd.V_reads' HO_0.out).2.2 | (with_reducible refine Kd.C_alloc ?_ _) | (with_reducible refine Kd.C_drewN ?_ _) | (with_reducible refine Kd.C_drew ?_))); (case side2 => exact (Kd.V_reads' HO_0.out).2.1); (case side3 => exact GOK.of_below (GOK.sub HG.out rfl) bA); rintro e w' ⟨rfl, ⟨nd, rfl⟩⟩; refine ⟨_, rfl, ?_⟩; have q8 : (t174 : Int) ≤ ((x0_1.length : Int) : Int) := of_decide_eq_true asA; obtain ⟨i08, hi08, _, hsz8, _⟩ := info_parts info5; have hroom8 : x0_1.length ≤ co7 := (Kd.V_reads' HO_0.out).2.1; have hC8 : Kd.F (Kd.int .u8) _ _ Ao7 x0_1.length x0_1 := (Kd.V_at (base := w.heap.size) HO_0.out).2.2; have q08 : (0 : Int) ≤ (t174 : Int) := of_decide_eq_true asA; have hcut8 := cut_from (P := Tryd.prog) 22 5 .i64 Tryd.underlying22 hi08 1 hsz8 Ao7 x0_1.length co7 t174 q08 q8; have hr8 := Kd.F_cut (m := (t174 : Int).toNat) (c := co7) hC8 (by omega) hroom8; obtain ⟨A8, hA8⟩ : ∃ A1, A1 = (if co7 = (t174 : Int).toNat then Ao7 else (Ao7 : Option Addr).map (·.add ((t174 : Int).toNat * 1))) := ⟨_, rfl⟩; obtain ⟨c8, hc8⟩ : ∃ c1, c1 = co7 - (t174 : Int).toNat := ⟨_, rfl⟩; have hy8 : y176.length = x0_1.length - (t174 : Int).toNat := (by rw [Ny176.out, List.length_drop] <;> omega); rw [show (x0_1).drop (t174 : Int).toNat = y176 from Ny176.out.symm] at hr8; replace hr8 : Kd.F (Kd.int .u8) _ _ A8 y176.length y176 := (by rw [hA8]; exact hr8); rw [← hy8, ← hA8, ← hc8] at hcut8; have HO180 := Aside0.mk (show Kd.V (Kd.int .u8) 5 _ w.heap.size _ (.slice A8 y176.length c8) y176 from Kd.V_mk (by rw [hy8, hc8]; exact Nat.sub_le_sub_right hroom8 _) hr8); have HC180 := Aside0.mk (show y176.length ≤ c8 from by rw [hy8, hc8]; exact Nat.sub_le_sub_right hroom8 _); clear hr8 hC8 hroom8 hi08 hsz8 hc8; have KY8 := Aside0.mk hy8; have KA8 := Aside0.mk hA8; clear hy8 hA8; replace q8 := eq_true q8))))
       go_roundg k1
       case measure => have := HK1.out; omega
       case rel => exact ⟨(y176), (x3_1), H', ⟨by have := HK1.out; omega⟩, ⟨kV HO180⟩, ⟨kR HO_3⟩, ⟨bA⟩⟩
      ·rw [if_neg c6] at H
       exact absurd H (by simp)
     ·rw [if_neg c5] at H
      exact absurd H (by simp)
    ·replace c4 := Bool.eq_false_iff.mpr c4
     subst c4
     have H1 : (if 0 < (x0_1.length : Int) then (if x3_1.length < 140737488355328 then (if 1 ≤ (x0_1.length : Int) then (ansi_Strip.l0 k1 (x0_1.drop 1) (x3_1 ++ [rd x0_1 0])) else (none)) else (none)) else (none)) = some r := by rw [if_neg (show ¬ (false = true) by decide)] at H; exact H
     clear H
     have H := H1
     clear H1
     by_cases c9 : 0 < (x0_1.length : Int)
     ·rw [if_pos c9] at H
      have c9b0 : decide (0 < (x0_1.length : Int)) = true := decide_eq_true c9
      have c9b1 : decide (0 < x0_1.length) = true := decide_eq_true (by omega)
      clear c9
      by_cases c10 : x3_1.length < 140737488355328
      ·rw [if_pos c10] at H
       have LMc10 := Aside0.mk c10
       clear c10
       obtain ⟨y182, hy182⟩ : ∃ y_ : List Int, y_ = (x3_1 ++ [rd x0_1 0]) := ⟨_, rfl⟩
       replace H : (if 1 ≤ (x0_1.length : Int) then (ansi_Strip.l0 k1 (x0_1.drop 1) y182) else (none)) = some r := hyA hy182 H
       have Ny182 := Aside0.mk hy182
       clear hy182
       by_cases c11 : 1 ≤ (x0_1.length : Int)
       ·rw [if_pos c11] at H
        have c11b0 := eq_true c11
        have c11b1 : decide (1 ≤ (x0_1.length : Int)) = true := decide_eq_true c11
        clear c11
        obtain ⟨y185, hy185⟩ : ∃ y_ : List Int, y_ = (x0_1.drop 1) := ⟨_, rfl⟩
        replace H : (ansi_Strip.l0 k1 y185 y182) = some r := hyA hy185 H
        have Ny185 := Aside0.mk hy185
        clear hy185
        have H' := Aside0.mk H
        clear H
        obtain ⟨Ao12, co12, eo12⟩ := Kd.V_slice HO_0.out
        subst eo12
        try go_wp2_with (first | ((with_reducible refine gate_callee (f := 12) rfl ?_); refine goesL_ (some 12) rfl rfl Tryd.func12 (by kernel_rfl) rfl #[.slice Ao12 x0_1.length co12] rfl aP ?_; (with_reducible refine (ansi_Signs.calls _ _ x0_1 t173 t174 false _ ?side1 ?side2 ?side3 A3.out).mono ?_); (case side1 => repeat (first | exact (Kd.V_reads' HO_0.out).2.2 | (with_reducible refine Kd.C_alloc ?_ _) | (with_reducible refine Kd.C_drewN ?_ _) | (with_reducible refine Kd.C_drew ?_))); (case side2 => exact (Kd.V_reads' HO_0.out).2.1); (case side3 => exact GOK.of_below (GOK.sub HG.out rfl) bA); rintro e w' ⟨rfl, ⟨nd, rfl⟩⟩; refine ⟨_, rfl, ?_⟩))
        all_goals (try (go_step3; try go_wp2_with (first | ((with_reducible refine gate_callee (f := 12) rfl ?_); refine goesL_ (some 12) rfl rfl Tryd.func12 (by kernel_rfl) rfl #[.slice Ao12 x0_1.length co12] rfl aP ?_; (with_reducible refine (ansi_Signs.calls _ _ x0_1 t173 t174 false _ ?side1 ?side2 ?side3 A3.out).mono ?_); (case side1 => repeat (first | exact (Kd.V_reads' HO_0.out).2.2 | (with_reducible refine Kd.C_alloc ?_ _) | (with_reducible refine Kd.C_drewN ?_ _) | (with_reducible refine Kd.C_drew ?_))); (case side2 => exact (Kd.V_reads' HO_0.out).2.1); (case side3 => exact GOK.of_below (GOK.sub HG.out rfl) bA); rintro e w' ⟨rfl, ⟨nd, rfl⟩⟩; refine ⟨_, rfl, ?_⟩))))
        all_goals (try (go_step3; try go_wp2_with (first | ((with_reducible refine gate_callee (f := 12) rfl ?_); refine goesL_ (some 12) rfl rfl Tryd.func12 (by kernel_rfl) rfl #[.slice Ao12 x0_1.length co12] rfl aP ?_; (with_reducible refine (ansi_Signs.calls _ _ x0_1 t173 t174 false _ ?side1 ?side2 ?side3 A3.out).mono ?_); (case side1 => repeat (first | exact (Kd.V_reads' HO_0.out).2.2 | (with_reducible refine Kd.C_alloc ?_ _) | (with_reducible refine Kd.C_drewN ?_ _) | (with_reducible refine Kd.C_drew ?_))); (case side2 => exact (Kd.V_reads' HO_0.out).2.1); (case side3 => exact GOK.of_below (GOK.sub HG.out rfl) bA); rintro e w' ⟨rfl, ⟨nd, rfl⟩⟩; refine ⟨_, rfl, ?_⟩))))
        (try (rw [drewN_self wr]; generalize hq_ : World.drewN wr _ = wr; have n0_ : Aside0 (Kd.V (Kd.int .u8) 5 wr w.heap.size (fun k_ => (P0_ k_ ∨ w.heap.size ≤ k_) ∧ some k_ ≠ (u3 : Value).ownBlock) (.slice Ao12 x0_1.length co12) x0_1) := ⟨by rw [← hq_]; exact (kV HO_0)⟩; have n1_ : Aside0 (Kd.R (Kd.int .u8) 5 wr w.heap.size (fun k_ => (w.heap.size ≤ k_)) u3 x3_1) := ⟨by rw [← hq_]; exact (kR HO_3)⟩; have n2_ : Aside0 (Below w.heap.size w wr) := ⟨by rw [← hq_]; exact bA⟩; clear HO_0 HO_3 HB hq_; have HO_0 := n0_; have HO_3 := n1_; have HB := n2_; clear n0_ n1_ n2_))
        have n0_ := Aside0.mk (Kd.V_drew HO_0.out)
        have n1_ := Aside0.mk (Kd.R_drew HO_3.out)
        have n2_ := Aside0.mk (below_drew1 HB.out)
        clear HO_0
        clear HO_3
        clear HB
        have HO_0 := n0_
        have HO_3 := n1_
        have HB := n2_
        clear n0_ n1_ n2_
        have p181 : 0 ≤ (0 : Int) := (by omega)
        have q181 : 0 < (x0_1.length : Int) := of_decide_eq_true asA
        obtain ⟨ad181, e181, hx181_0⟩ := Kd.at_int (Kd.V_reads' HO_0.out).2.2 0 p181 q181
        cases e181
        have qi181 : (0 < x0_1.length) = True := eq_true (by omega)
        (try rw [show ((0 : Int)).toNat = 0 from rfl] at hx181_0)
        (try rw [Addr.add_zero'] at hx181_0)
        replace p181 := eq_true p181
        replace q181 := eq_true q181
        have q14 : (1 : Int) ≤ ((x0_1.length : Int) : Int) := of_decide_eq_true asA
        obtain ⟨i014, hi014, _, hsz14, _⟩ := info_parts info5
        have hroom14 : x0_1.length ≤ co12 := (Kd.V_reads' HO_0.out).2.1
        have hC14 : Kd.F (Kd.int .u8) _ _ (some ad181) x0_1.length x0_1 := (Kd.V_at (base := w.heap.size) HO_0.out).2.2
        have hcut14 := cut_from (P := Tryd.prog) 22 5 .i64 Tryd.underlying22 hi014 1 hsz14 (some ad181) x0_1.length co12 1 (by omega) q14
        have hr14 := Kd.F_cut (m := (1 : Int).toNat) (c := co12) hC14 (by omega) hroom14
        obtain ⟨A14, hA14⟩ : ∃ A1, A1 = (if co12 = (1 : Int).toNat then (some ad181) else ((some ad181) : Option Addr).map (·.add ((1 : Int).toNat * 1))) := ⟨_, rfl⟩
        obtain ⟨c14, hc14⟩ : ∃ c1, c1 = co12 - (1 : Int).toNat := ⟨_, rfl⟩
        have hy14 : y185.length = x0_1.length - (1 : Int).toNat := (by rw [Ny185.out, List.length_drop] <;> omega)
        rw [show (x0_1).drop (1 : Int).toNat = y185 from Ny185.out.symm] at hr14
        replace hr14 : Kd.F (Kd.int .u8) _ _ A14 y185.length y185 := (by rw [hA14]; exact hr14)
        rw [← hy14, ← hA14, ← hc14] at hcut14
        have HO189 := Aside0.mk (show Kd.V (Kd.int .u8) 5 _ w.heap.size _ (.slice A14 y185.length c14) y185 from Kd.V_mk (by rw [hy14, hc14]; exact Nat.sub_le_sub_right hroom14 _) hr14)
        have HC189 := Aside0.mk (show y185.length ≤ c14 from by rw [hy14, hc14]; exact Nat.sub_le_sub_right hroom14 _)
        clear hr14 hC14 hroom14 hi014 hsz14 hc14
        have KY14 := Aside0.mk hy14
        have KA14 := Aside0.mk hA14
        clear hy14 hA14
        replace q14 := eq_true q14
        refine start_ (n := 10) (S := fun w' => w'.cell? ad181 = some (.int .u8 (rd x0_1 0))) (ds := [4, 5]) #[false, false, false, false, false, false, false, false, false, false] (by kernel_rfl) rfl rfl (hx181_0) (fun hHeld => ?_); refine with_tabW ansi_Strip.tab6 ansi_Strip.bits6 (fun HT_ HW_ => ?_)
        generalize wr.drew = w13 at HO_0 HO_3 HB HO189 hx181_0 hHeld ⊢
        refine pure_ (i := 0) (N := some 20) (v := ?_) (a' := ?_) #[true, false, false, false, false, false, false, false, false, false] rfl rfl (any_of HT_.out (by kernel_rfl)) (fun _ _ _ h => h) (Or.inl ⟨by rfl, ?_⟩) ?_ ?_
        rotate_left
        ·intro w'
         go_simp
         with_reducible rfl
        rotate_left
        ·simp only [Act.put, List.setIfInBounds_toArray, List.set_cons_zero, List.set_cons_succ, i64_w, i32_w]
         rfl
        refine pure_ (i := 1) (N := some 21) (v := ?_) (a' := ?_) #[true, true, false, false, false, false, false, false, false, false] rfl rfl (any_of HT_.out (by kernel_rfl)) (fun _ _ _ h => h) (Or.inl ⟨by rfl, ?_⟩) ?_ ?_
        rotate_left
        ·intro w'
         go_simp
         with_reducible rfl
        rotate_left
        ·simp only [Act.put, List.setIfInBounds_toArray, List.set_cons_zero, List.set_cons_succ, i64_w, i32_w]
         rfl
        refine pure_ (i := 2) (N := some 22) (v := ?_) (a' := ?_) #[true, true, true, false, false, false, false, false, false, false] rfl rfl (any_of HT_.out (by kernel_rfl)) (fun _ _ _ h => h) (Or.inl ⟨by rfl, ?_⟩) ?_ ?_
        rotate_left
        ·intro w'
         go_simp
         with_reducible rfl
        rotate_left
        ·simp only [Act.put, List.setIfInBounds_toArray, List.set_cons_zero, List.set_cons_succ, i64_w, i32_w]
         rfl
        refine pure_ (i := 6) (N := some 26) (v := ?_) (a' := ?_) #[true, true, true, false, false, false, true, false, false, false] rfl rfl (any_of HT_.out (by kernel_rfl)) (fun _ _ _ h => h) (Or.inl ⟨by rfl, ?_⟩) ?_ ?_
        rotate_left
        ·intro w'
         go_simp
         with_reducible rfl
        rotate_left
        ·simp only [Act.put, List.setIfInBounds_toArray, List.set_cons_zero, List.set_cons_succ, i64_w, i32_w]
         rfl
        refine pure_ (i := 7) (N := some 27) (v := ?_) (a' := ?_) #[true, true, true, false, false, false, true, true, false, false] rfl rfl (any_of HT_.out (by kernel_rfl)) (fun _ _ _ h => h) (Or.inl ⟨by rfl, ?_⟩) ?_ ?_
        rotate_left
        ·intro w'
         go_simp
         with_reducible rfl
        rotate_left
        ·simp only [Act.put, List.setIfInBounds_toArray, List.set_cons_zero, List.set_cons_succ, i64_w, i32_w]
         rfl
        refine take_ (i := 3) (N := some 23) (v := ?_) (a' := ?_) #[true, true, true, true, false, false, true, true, false, false] rfl rfl (take_ofW HT_.out HW_.out (by kernel_rfl)) (fun _ _ _ h => h) (Or.inl ⟨by rfl, ?_⟩) hHeld ?_ ?_
        rotate_left
        ·intro w' s0
         go_simp
         with_reducible rfl
        rotate_left
        ·simp only [Act.put, List.setIfInBounds_toArray, List.set_cons_zero, List.set_cons_succ, i64_w, i32_w]
         rfl
        refine last_ (i := 4) (N := some 24) #[true, true, true, true, true, false, true, true, false, false] rfl rfl (one_of HT_.out (by kernel_rfl)) (by decide) (fun K hK => ?_)
        refine value_ (w1 := ?_) (v := ?_) (by rfl) rfl ?_ ?_
        rotate_left 2
        ·go_simp
         constructor
         ·rfl
         ·rfl
        refine hK.out _ _ ?_
        clear hK K
        refine norm_ (a' := ?_) ?_ ?_
        rotate_left
        ·show Act.put _ (some 24) _ = _
         simp only [Act.put, List.setIfInBounds_toArray, List.set_cons_zero, List.set_cons_succ, i64_w, i32_w]
         rfl
        refine last_ (i := 5) (N := some 25) #[true, true, true, true, true, true, true, true, false, false] rfl rfl (one_of HT_.out (by kernel_rfl)) (by decide) (fun K hK => ?_)
        refine Kd.R_append_step (Kd.int .u8) (w0 := w) w.heap.size (by rfl) (.tmp 20) (.tmp 24) 22 5 (.int .u8 0) 1 rfl Tryd.underlying22 info5 rfl (by decide) (by omega) u3 x3_1 (rd x0_1 0) [.int .u8 (rd x0_1 0)] (fun k_ => (w.heap.size ≤ k_)) (fun _ => False) rfl rfl ?aP (fun _ hk => hk.elim) ?aF ?aO ?aB ?aS ?aL ?_
        (case aP => exact rfl)
        (case aB => exact bA)
        (case aF => exact (fun k_ hk => (Nat.le_trans (below_size bA) hk)))
        (case aO => exact (kR HO_3))
        (case aS => exact (below_size bA))
        (case aL => have := LMc10.out; omega)
        intro v183 w15 ho hb hg hat
        rw [← Ny182.out] at ho
        have n0_ := Aside0.mk (Kd.V_afterv (ok := (fun k_ => (P0_ k_ ∨ w.heap.size ≤ k_))) (kV HO_0) hg hat)
        have n1_ := Aside0.mk (Kd.V_afterv (ok := (fun k_ => (P0_ k_ ∨ w.heap.size ≤ k_))) (kV HO189) hg hat)
        have n2_ := Aside0.mk (hb)
        have n3_ := Aside0.mk (ho)
        clear HO_0
        clear HO189
        clear HB
        clear HO_3
        have HO_0 := n0_
        have HO189 := n1_
        have HB := n2_
        have HO184 := n3_
        clear n0_ n1_ n2_ n3_
        clear ho hb hg hat
        refine hK.out _ _ ?_
        clear hK K
        refine norm_ (a' := ?_) ?_ ?_
        rotate_left
        ·show Act.put _ (some 25) _ = _
         simp only [Act.put, List.setIfInBounds_toArray, List.set_cons_zero, List.set_cons_succ, i64_w, i32_w]
         rfl
        refine pure_ (i := 8) (N := some 3) (v := ?_) (a' := ?_) #[true, true, true, true, true, true, true, true, true, false] rfl rfl (any_of HT_.out (by kernel_rfl)) (fun _ _ _ h => h) (Or.inl ⟨by rfl, ?_⟩) ?_ ?_
        rotate_left
        ·intro w'
         go_simp
         with_reducible rfl
        rotate_left
        ·simp only [Act.put, List.setIfInBounds_toArray, List.set_cons_zero, List.set_cons_succ, i64_w, i32_w]
         rfl
        refine pure_ (i := 9) (N := some 0) (v := ?_) (a' := ?_) #[true, true, true, true, true, true, true, true, true, true] rfl rfl (any_of HT_.out (by kernel_rfl)) (fun _ _ _ h => h) (Or.inl ⟨by rfl, ?_⟩) ?_ ?_
        rotate_left
        ·intro w'
         go_simp
         with_reducible rfl
        rotate_left
        ·simp only [Act.put, List.setIfInBounds_toArray, List.set_cons_zero, List.set_cons_succ, i64_w, i32_w]
         rfl
        refine done_ (done_of HT_.out (by kernel_rfl)) ?_
        try go_wp2
        all_goals (try (go_step3; try go_wp2))
        all_goals (try (go_step3; try go_wp2))
        go_roundg k1
        case measure => have := HK1.out; omega
        case rel => exact ⟨(y185), (y182), H', ⟨by have := HK1.out; omega⟩, ⟨kV HO189⟩, ⟨kR HO184⟩, ⟨bA⟩⟩
       ·rw [if_neg c11] at H
        exact absurd H (by simp)
      ·rw [if_neg c10] at H
       exact absurd H (by simp)
     ·rw [if_neg c9] at H
      exact absurd H (by simp)
   ·rw [if_neg c2] at H
    have c2b0 : decide (0 < (x0_1.length : Int)) = false := decide_eq_false c2
    have c2b1 : decide (0 < x0_1.length) = false := decide_eq_false (by omega)
    clear c2
    obtain rfl := Option.some.inj H
    obtain ⟨Ao16, co16, eo16⟩ := Kd.V_slice HO_0.out
    subst eo16
    go_wp2
    all_goals (try (go_step3; go_wp2))
    all_goals (try (go_step3; go_wp2))
    try rw [Exit.noGoto_ret]
    go_ret
    exact ⟨_, eW, kR HO_3, bA⟩

-- NOT PRINTED: function 3 (flonglaw19_AnsiSigns)

end Go.Proofs.YtdjepocklmlnbaaDoor.X
