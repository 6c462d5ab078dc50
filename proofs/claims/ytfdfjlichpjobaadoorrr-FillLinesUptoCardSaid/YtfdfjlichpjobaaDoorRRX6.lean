-- Written by this session's xprint.py (a variant of the kit's printer). Not trusted: Lean checks it.
import Derived.Test.YtfdfjlichpjobaaDoorRRX0
import Derived.Test.YtfdfjlichpjobaaDoorRRX5
namespace Go.Proofs.YtfdfjlichpjobaaDoorRR.X
open Go.RowKit Go.Proofs.YtfdfjlichpjobaaDoorRRW.PrintWords Go.Proofs.YtfdfjlichpjobaaDoorRRW.PrintLast Go.Proofs.YtfdfjlichpjobaaDoorRRW.PrintMore
attribute [local go_sem] max2_int min2_int max_two min_two max_three min_three max_four min_four   -- for this text's walks alone
set_option linter.unusedVariables false
set_option linter.unusedSimpArgs false

/-! ### flongref02_Decode: function 38 -/
mutual
def flongref02_Decode.l0 : Nat → List Int → List Int → Int → Option (List Int)
 | 0, _, _, _ => none
 | k + 1, x0, x3, x4 => if x4 < (x0.length : Int) then (flongref02_Decode.l1 k x0 x3 x4 0 1) else (some x3)
def flongref02_Decode.l1 : Nat → List Int → List Int → Int → Int → Int → Option (List Int)
 | 0, _, _, _, _, _ => none
 | k + 1, x0, x3, x4, x5, x6 => if x6 ≤ 4 then (if (wrap64 (x4 + x6)) ≤ (x0.length : Int) then (flongref02_Decode.j2 k x0 x3 x4 x5 x6 (x5 == 0)) else (flongref02_Decode.j2 k x0 x3 x4 x5 x6 false)) else (flongref02_Decode.j2 k x0 x3 x4 x5 x6 false)
def flongref02_Decode.j2 : Nat → List Int → List Int → Int → Int → Int → Bool → Option (List Int)
 | 0, _, _, _, _, _, _ => none
 | k + 1, x0, x3, x4, x5, x6, x24 => if x24 = true then (if 0 ≤ x4 then (if x4 ≤ (wrap64 (x4 + x6)) then (if (wrap64 (x4 + x6)) ≤ (x0.length : Int) then ((flongref02_is.f k ((x0.take ((wrap64 (x4 + x6)) : Int).toNat).drop (x4 : Int).toNat)).bind fun t171 => (if t171 = true then (flongref02_Decode.l1 k x0 x3 x4 x6 (wrap64 (x6 + 1))) else (flongref02_Decode.l1 k x0 x3 x4 x5 (wrap64 (x6 + 1))))) else (none)) else (none)) else (none)) else (if x5 = 0 then (if x3.length < 35184372088832 then (flongref02_Decode.l0 k x0 (x3 ++ [65533]) (wrap64 (x4 + 1))) else (none)) else (if 0 ≤ x4 then (if x4 ≤ (wrap64 (x4 + x5)) then (if (wrap64 (x4 + x5)) ≤ (x0.length : Int) then ((flongref02_value.f k ((x0.take ((wrap64 (x4 + x5)) : Int).toNat).drop (x4 : Int).toNat)).bind fun t176 => (if x3.length < 35184372088832 then (flongref02_Decode.l0 k x0 (x3 ++ [wrap32 (t176)]) (wrap64 (x4 + x5))) else (none))) else (none)) else (none)) else (none)))
end
def flongref02_Decode.f (k : Nat) (l0 : List Int) : Option (List Int) := flongref02_Decode.l0 k l0 ([] : List Int) 0
theorem flongref02_Decode.mono_l : ∀ k, (∀ y0 y1 y2, LeO (flongref02_Decode.l0 k y0 y1 y2) (flongref02_Decode.l0 (k + 1) y0 y1 y2)) ∧ (∀ y0 y1 y2 y3 y4, LeO (flongref02_Decode.l1 k y0 y1 y2 y3 y4) (flongref02_Decode.l1 (k + 1) y0 y1 y2 y3 y4)) ∧ (∀ y0 y1 y2 y3 y4 y5, LeO (flongref02_Decode.j2 k y0 y1 y2 y3 y4 y5) (flongref02_Decode.j2 (k + 1) y0 y1 y2 y3 y4 y5))
 | 0 => ⟨fun _ _ _ r h => by simp [flongref02_Decode.l0] at h, fun _ _ _ _ _ r h => by simp [flongref02_Decode.l1] at h, fun _ _ _ _ _ _ r h => by simp [flongref02_Decode.j2] at h⟩
 | k + 1 => by
  obtain ⟨ih0, ih1, ih2⟩ := flongref02_Decode.mono_l k
  refine ⟨?_, ?_, ?_⟩
  ·intro y0 y1 y2
   unfold flongref02_Decode.l0
   repeat' first
   | (with_reducible exact ih0 _ _ _)
   | (with_reducible exact ih1 _ _ _ _ _)
   | (with_reducible exact ih2 _ _ _ _ _ _)
   | (with_reducible exact flongref02_is.mono _ _)
   | (with_reducible exact flongref02_value.mono _ _)
   | (with_reducible exact LeO.refl _)
   | (with_reducible exact LeO.none _)
   | (with_reducible refine LeO.ite ?_ ?_)
   | (with_reducible refine LeO.bind ?_ (fun _ => ?_))
   | exact ih0 _ _ _
   | exact ih1 _ _ _ _ _
   | exact ih2 _ _ _ _ _ _
   | exact flongref02_is.mono _ _
   | exact flongref02_value.mono _ _
   | exact LeO.none _
   | refine LeO.ite ?_ ?_
   | refine LeO.bind ?_ (fun _ => ?_)
  ·intro y0 y1 y2 y3 y4
   unfold flongref02_Decode.l1
   repeat' first
   | (with_reducible exact ih0 _ _ _)
   | (with_reducible exact ih1 _ _ _ _ _)
   | (with_reducible exact ih2 _ _ _ _ _ _)
   | (with_reducible exact flongref02_is.mono _ _)
   | (with_reducible exact flongref02_value.mono _ _)
   | (with_reducible exact LeO.refl _)
   | (with_reducible exact LeO.none _)
   | (with_reducible refine LeO.ite ?_ ?_)
   | (with_reducible refine LeO.bind ?_ (fun _ => ?_))
   | exact ih0 _ _ _
   | exact ih1 _ _ _ _ _
   | exact ih2 _ _ _ _ _ _
   | exact flongref02_is.mono _ _
   | exact flongref02_value.mono _ _
   | exact LeO.none _
   | refine LeO.ite ?_ ?_
   | refine LeO.bind ?_ (fun _ => ?_)
  ·intro y0 y1 y2 y3 y4 y5
   unfold flongref02_Decode.j2
   repeat' first
   | (with_reducible exact ih0 _ _ _)
   | (with_reducible exact ih1 _ _ _ _ _)
   | (with_reducible exact ih2 _ _ _ _ _ _)
   | (with_reducible exact flongref02_is.mono _ _)
   | (with_reducible exact flongref02_value.mono _ _)
   | (with_reducible exact LeO.refl _)
   | (with_reducible exact LeO.none _)
   | (with_reducible refine LeO.ite ?_ ?_)
   | (with_reducible refine LeO.bind ?_ (fun _ => ?_))
   | exact ih0 _ _ _
   | exact ih1 _ _ _ _ _
   | exact ih2 _ _ _ _ _ _
   | exact flongref02_is.mono _ _
   | exact flongref02_value.mono _ _
   | exact LeO.none _
   | refine LeO.ite ?_ ?_
   | refine LeO.bind ?_ (fun _ => ?_)
theorem flongref02_Decode.mono : ∀ a0 k, LeO (flongref02_Decode.f k a0) (flongref02_Decode.f (k + 1) a0) := by
 intro a0 k
 obtain ⟨ih0, ih1, ih2⟩ := flongref02_Decode.mono_l k
 unfold flongref02_Decode.f
 repeat' first
   | (with_reducible exact ih0 _ _ _)
   | (with_reducible exact ih1 _ _ _ _ _)
   | (with_reducible exact ih2 _ _ _ _ _ _)
   | (with_reducible exact flongref02_is.mono _ _)
   | (with_reducible exact flongref02_value.mono _ _)
   | (with_reducible exact LeO.refl _)
   | (with_reducible exact LeO.none _)
   | (with_reducible refine LeO.ite ?_ ?_)
   | (with_reducible refine LeO.bind ?_ (fun _ => ?_))
   | exact ih0 _ _ _
   | exact ih1 _ _ _ _ _
   | exact ih2 _ _ _ _ _ _
   | exact flongref02_is.mono _ _
   | exact flongref02_value.mono _ _
   | exact LeO.none _
   | refine LeO.ite ?_ ?_
   | refine LeO.bind ?_ (fun _ => ?_)
set_option maxHeartbeats 8000000 in
set_option maxRecDepth 100000 in
theorem flongref02_Decode.calls (k : Nat) (A0 : Option Addr) (c0 : Nat) (l0 : List Int) (r : List Int) (w : World) (hr0 : Kd.C (Kd.int .u8) w A0 l0.length l0) (hc0 : l0.length ≤ c0) (h : flongref02_Decode.f k l0 = some r) :
  Calls Tryd.prog 38 #[.slice A0 l0.length c0] w fun e w' => ∃ v0_ : Value, e = .returned (v0_) ∧ Kd.R (Kd.int .i32) 21 w' w.heap.size (fun _ => True) v0_ r ∧ Below w.heap.size w w' := by
 have HR0 := Aside0.mk hr0
 have HC0 := Aside0.mk hc0
 clear hr0 hc0
 have HB := Aside0.mk (Below.refl w.heap.size w)
 have H : (flongref02_Decode.l0 k l0 ([] : List Int) 0) = some r := h
 clear h
 have H' := Aside0.mk H
 clear H
 go_enter Tryd.func38, Tryd.ntmps38
 go_wp2
 go_loopg [3, 4] k (fun kq v3 v4 w' => ∃ (x3_1 : List Int) (x4_1 : Int), v4 = .int .i64 x4_1 ∧ Aside0 (flongref02_Decode.l0 kq l0 x3_1 x4_1 = some r) ∧ Aside0 (kq ≤ k) ∧ Aside0 (Kd.R (Kd.int .i32) 21 w' w.heap.size (fun _ => True) v3 x3_1) ∧ Aside0 (Below w.heap.size w w'))
 case atStart => exact ⟨(([] : List Int)), (0), (by first | rfl | (simp; done) | (simp [*]; done)), H', ⟨Nat.le_refl _⟩, ⟨by first | exact Kd.R_nil _ _ _ _ _ | exact Kd.N_nil _ _ _ _ _ | exact Kd.V_nil _ _ _ _ _ | exact Kd.Q_nil _ _ _ _ _ | exact Kd.S_nil _ _ _ _ _⟩, ⟨by repeat (first | (with_reducible first | exact HB.out | apply below_alloc | apply pw_below_drewN | apply below_drew1) | exact HB.out)⟩⟩
 case round =>
  clear H'
  obtain ⟨x3_1, x4_1, rfl, HA, HK1, HO_3, HB⟩ := hrel
  cases gk with
  | zero => exact absurd HA.out (by simp [flongref02_Decode.l0])
  | succ k1 =>
   have H := HA.out
   clear HA
   simp only [flongref02_Decode.l0] at H
   by_cases c2 : x4_1 < (l0.length : Int)
   ·rw [if_pos c2] at H
    have c2b0 : decide (x4_1 < (l0.length : Int)) = true := decide_eq_true c2
    clear c2
    have H' := Aside0.mk H
    clear H
    go_wp2
    go_loopg [5, 6] k1 (fun kq v5 v6 w' => ∃ (x5_2 : Int) (x6_2 : Int), v5 = .int .i64 x5_2 ∧ v6 = .int .i64 x6_2 ∧ Aside0 (flongref02_Decode.l1 kq l0 x3_1 x4_1 x5_2 x6_2 = some r) ∧ Aside0 (kq ≤ k1) ∧ Aside0 (Kd.R (Kd.int .i32) 21 w' w.heap.size (fun _ => True) u3 x3_1) ∧ Aside0 (Below w.heap.size w w'))
    case atStart => exact ⟨(0), (1), (by first | rfl | (simp; done) | (simp [*]; done)), (by first | rfl | (simp; done) | (simp [*]; done)), H', ⟨Nat.le_refl _⟩, ⟨by (with_reducible repeat (first | apply Kd.R_alloc | apply Kd.R_drewN | apply Kd.R_drew)); exact HO_3.out⟩, ⟨by repeat (first | (with_reducible first | exact HB.out | apply below_alloc | apply pw_below_drewN | apply below_drew1) | exact HB.out)⟩⟩
    case round =>
     clear H'
     try clear c2
     try clear c2b0
     try clear p2
     obtain ⟨x5_2, x6_2, rfl, rfl, HA, HK2, HO_3, HB⟩ := hrel
     cases gk with
     | zero => exact absurd HA.out (by simp [flongref02_Decode.l1])
     | succ k2 =>
      have H := HA.out
      clear HA
      simp only [flongref02_Decode.l1] at H
      have HC3 := Aside0.mk H
      clear H
      go_upto_region 6 with (fail)
      go_cut [24] (fun v24 wc => ∃ (kq : Nat) (x24_2 : Bool), v24 = .bool x24_2 ∧ Aside0 (flongref02_Decode.j2 kq l0 x3_1 x4_1 x5_2 x6_2 x24_2 = some r) ∧ Aside0 (kq ≤ k2) ∧ Aside0 (Kd.R (Kd.int .i32) 21 wc w.heap.size (fun _ => True) u3 x3_1) ∧ Aside0 (Below w.heap.size w wc))
      case first =>
       have H := HC3.out
       clear HC3
       by_cases c4 : x6_2 ≤ 4
       ·rw [if_pos c4] at H
        have c4b0 : decide (x6_2 ≤ 4) = true := decide_eq_true c4
        clear c4
        (first | rw [c4b0] | (simp only [i64_w, i32_w]; rw [c4b0]) | skip)
        by_cases c5 : (wrap64 (x4_1 + x6_2)) ≤ (l0.length : Int)
        ·rw [if_pos c5] at H
         have c5b0 : decide ((wrap64 (x4_1 + x6_2)) ≤ (l0.length : Int)) = true := decide_eq_true c5
         clear c5
         have H' := Aside0.mk H
         clear H
         go_wp2
         go_meet
         case rel => exact ⟨_, ((x5_2 == 0)), (by first | rfl | (simp; done) | (simp [*]; done)), H', ⟨by have := HK1.out; have := HK2.out; first | omega | exact Nat.le_refl _⟩, ⟨by (with_reducible repeat (first | apply Kd.R_alloc | apply Kd.R_drewN | apply Kd.R_drew)); exact HO_3.out⟩, ⟨by repeat (first | (with_reducible first | exact HB.out | apply below_alloc | apply pw_below_drewN | apply below_drew1) | exact HB.out)⟩⟩
        ·rw [if_neg c5] at H
         have c5b0 : decide ((wrap64 (x4_1 + x6_2)) ≤ (l0.length : Int)) = false := decide_eq_false c5
         clear c5
         have H' := Aside0.mk H
         clear H
         go_wp2
         go_meet
         case rel => exact ⟨_, (false), (by first | rfl | (simp; done) | (simp [*]; done)), H', ⟨by have := HK1.out; have := HK2.out; first | omega | exact Nat.le_refl _⟩, ⟨by (with_reducible repeat (first | apply Kd.R_alloc | apply Kd.R_drewN | apply Kd.R_drew)); exact HO_3.out⟩, ⟨by repeat (first | (with_reducible first | exact HB.out | apply below_alloc | apply pw_below_drewN | apply below_drew1) | exact HB.out)⟩⟩
       ·rw [if_neg c4] at H
        have c4b0 : decide (x6_2 ≤ 4) = false := decide_eq_false c4
        clear c4
        (first | rw [c4b0] | (simp only [i64_w, i32_w]; rw [c4b0]) | skip)
        have H' := Aside0.mk H
        clear H
        go_wp2
        go_meet
        case rel => exact ⟨_, (false), (by first | rfl | (simp; done) | (simp [*]; done)), H', ⟨by have := HK1.out; have := HK2.out; first | omega | exact Nat.le_refl _⟩, ⟨by (with_reducible repeat (first | apply Kd.R_alloc | apply Kd.R_drewN | apply Kd.R_drew)); exact HO_3.out⟩, ⟨by repeat (first | (with_reducible first | exact HB.out | apply below_alloc | apply pw_below_drewN | apply below_drew1) | exact HB.out)⟩⟩
      case rest =>
       clear HC3
       try clear c2
       try clear c2b0
       try clear p2
       try clear c3
       try clear c4
       try clear c4b0
       try clear c5
       try clear c5b0
       try clear p2
       obtain ⟨kq, x24_2, rfl, HA, HJ2, HO_3, HB⟩ := hcut
       cases kq with
       | zero => exact absurd HA.out (by simp [flongref02_Decode.j2])
       | succ kj2 =>
        have H := HA.out
        clear HA
        simp only [flongref02_Decode.j2] at H
        by_cases c6 : x24_2 = true
        ·subst c6
         have H1 : (if 0 ≤ x4_1 then (if x4_1 ≤ (wrap64 (x4_1 + x6_2)) then (if (wrap64 (x4_1 + x6_2)) ≤ (l0.length : Int) then ((flongref02_is.f kj2 ((l0.take ((wrap64 (x4_1 + x6_2)) : Int).toNat).drop (x4_1 : Int).toNat)).bind fun t171 => (if t171 = true then (flongref02_Decode.l1 kj2 l0 x3_1 x4_1 x6_2 (wrap64 (x6_2 + 1))) else (flongref02_Decode.l1 kj2 l0 x3_1 x4_1 x5_2 (wrap64 (x6_2 + 1))))) else (none)) else (none)) else (none)) = some r := by rw [if_pos rfl] at H; exact H
         clear H
         have H := H1
         clear H1
         by_cases c7 : 0 ≤ x4_1
         ·rw [if_pos c7] at H
          have c7b0 := eq_true c7
          have c7b1 : decide (0 ≤ x4_1) = true := decide_eq_true c7
          clear c7
          by_cases c8 : x4_1 ≤ (wrap64 (x4_1 + x6_2))
          ·rw [if_pos c8] at H
           have c8b0 := eq_true c8
           have c8b1 : decide (x4_1 ≤ (wrap64 (x4_1 + x6_2))) = true := decide_eq_true c8
           by_cases c9 : (wrap64 (x4_1 + x6_2)) ≤ (l0.length : Int)
           ·rw [if_pos c9] at H
            have c9b0 := eq_true c9
            have c9b1 : decide ((wrap64 (x4_1 + x6_2)) ≤ (l0.length : Int)) = true := decide_eq_true c9
            replace H := Option.bind_eq_some_iff.mp H
            obtain ⟨t171, A100, H⟩ := H
            replace H : (if t171 = true then (flongref02_Decode.l1 kj2 l0 x3_1 x4_1 x6_2 (wrap64 (x6_2 + 1))) else (flongref02_Decode.l1 kj2 l0 x3_1 x4_1 x5_2 (wrap64 (x6_2 + 1)))) = some r := H
            have A10 := Aside0.mk A100
            clear A100
            by_cases c11 : t171 = true
            ·subst c11
             have H1 : (flongref02_Decode.l1 kj2 l0 x3_1 x4_1 x6_2 (wrap64 (x6_2 + 1))) = some r := by rw [if_pos rfl] at H; exact H
             clear H
             have H := H1
             clear H1
             have H' := Aside0.mk H
             clear H
             obtain ⟨i012, hi012, _, hsz12, _⟩ := info_parts info5
             obtain ⟨A12, hcut12, hA12, hC12⟩ := print_mid_of (P := Tryd.prog) (Value.int .u8) 0 57 5 .i64 .i64 Tryd.underlying57 hi012 hsz12 A0 c0 l0 x4_1 (wrap64 (x4_1 + x6_2)) (of_decide_eq_true (by first | (with_reducible assumption) | assumption)) (by first | omega | exact of_decide_eq_true (by first | (with_reducible assumption) | assumption)) (of_decide_eq_true (by first | (with_reducible assumption) | assumption)) HC0.out
             have HR170 := Aside0.mk (Kd.C_of_reads (h1 := fun _ => rfl) (hA12 _ (Kd.reads_of_C HR0.out)))
             have HC170 := Aside0.mk hC12
             clear hA12 hC12 hi012 hsz12
             go_wp2_with (first | ((with_reducible refine gate_callee (f := 44) rfl ?_); refine goesL_ (some 33) rfl rfl Tryd.func44 (by kernel_rfl) rfl #[.slice A12 ((l0.take ((wrap64 (x4_1 + x6_2)) : Int).toNat).drop (x4_1 : Int).toNat).length (c0 - x4_1.toNat)] rfl (by (try simp only [List.map_toArray, List.map_cons, List.map_nil]); first | done | (rw [show ((l0.take ((wrap64 (x4_1 + x6_2)) : Int).toNat).drop (x4_1 : Int).toNat).length = ((wrap64 (x4_1 + x6_2)).toNat - x4_1.toNat) from (by rw [List.length_drop, List.length_take]; have h_ : ((wrap64 (x4_1 + x6_2)) : Int) ≤ (l0.length : Int) := of_decide_eq_true (by first | (with_reducible assumption) | assumption); omega)] <;> rfl) | rfl | (simp only [List.length_drop, List.length_take]; rfl)) ?_; (with_reducible refine (flongref02_is.calls kj2 _ _ ((l0.take ((wrap64 (x4_1 + x6_2)) : Int).toNat).drop (x4_1 : Int).toNat) true _ ?side1 ?side2 A10.out).mono ?_); (case side1 => repeat (first | exact (Kd.C_below HR170.out HB.out) | (with_reducible refine Kd.C_alloc ?_ _) | (with_reducible refine Kd.C_drewN ?_ _) | (with_reducible refine Kd.C_drew ?_))); (case side2 => exact HC170.out); rintro e w13 ⟨rfl, hb⟩; refine ⟨_, rfl, ?_⟩; have n0_ := Aside0.mk (Kd.R_below (by (with_reducible repeat (first | apply Kd.R_alloc | apply Kd.R_drewN | apply Kd.R_drew)); exact HO_3.out) hb); have n1_ := Aside0.mk (below_step (by repeat (first | (with_reducible first | exact HB.out | apply below_alloc | apply pw_below_drewN | apply below_drew1) | exact HB.out)) hb); clear HO_3; clear HB; have HO_3 := n0_; have HB := n1_; clear n0_ n1_; (try clear hb); (try clear hb2); (try clear hk); (try clear hi)))
             go_roundg kj2
             case measure => have := HK1.out; have := HK2.out; have := HJ2.out; omega
             case rel => exact ⟨(x6_2), (wrap64 (x6_2 + 1)), (by first | rfl | (simp; done) | (simp [*]; done)), (by first | rfl | (simp; done) | (simp [*]; done)), H', ⟨by have := HK1.out; have := HK2.out; have := HJ2.out; omega⟩, ⟨by (with_reducible repeat (first | apply Kd.R_alloc | apply Kd.R_drewN | apply Kd.R_drew)); exact HO_3.out⟩, ⟨by repeat (first | (with_reducible first | exact HB.out | apply below_alloc | apply pw_below_drewN | apply below_drew1) | exact HB.out)⟩⟩
            ·replace c11 := Bool.eq_false_iff.mpr c11
             subst c11
             have H1 : (flongref02_Decode.l1 kj2 l0 x3_1 x4_1 x5_2 (wrap64 (x6_2 + 1))) = some r := by rw [if_neg (show ¬ (false = true) by decide)] at H; exact H
             clear H
             have H := H1
             clear H1
             have H' := Aside0.mk H
             clear H
             obtain ⟨i014, hi014, _, hsz14, _⟩ := info_parts info5
             obtain ⟨A14, hcut14, hA14, hC14⟩ := print_mid_of (P := Tryd.prog) (Value.int .u8) 0 57 5 .i64 .i64 Tryd.underlying57 hi014 hsz14 A0 c0 l0 x4_1 (wrap64 (x4_1 + x6_2)) (of_decide_eq_true (by first | (with_reducible assumption) | assumption)) (by first | omega | exact of_decide_eq_true (by first | (with_reducible assumption) | assumption)) (of_decide_eq_true (by first | (with_reducible assumption) | assumption)) HC0.out
             have HR170 := Aside0.mk (Kd.C_of_reads (h1 := fun _ => rfl) (hA14 _ (Kd.reads_of_C HR0.out)))
             have HC170 := Aside0.mk hC14
             clear hA14 hC14 hi014 hsz14
             go_wp2_with (first | ((with_reducible refine gate_callee (f := 44) rfl ?_); refine goesL_ (some 33) rfl rfl Tryd.func44 (by kernel_rfl) rfl #[.slice A14 ((l0.take ((wrap64 (x4_1 + x6_2)) : Int).toNat).drop (x4_1 : Int).toNat).length (c0 - x4_1.toNat)] rfl (by (try simp only [List.map_toArray, List.map_cons, List.map_nil]); first | done | (rw [show ((l0.take ((wrap64 (x4_1 + x6_2)) : Int).toNat).drop (x4_1 : Int).toNat).length = ((wrap64 (x4_1 + x6_2)).toNat - x4_1.toNat) from (by rw [List.length_drop, List.length_take]; have h_ : ((wrap64 (x4_1 + x6_2)) : Int) ≤ (l0.length : Int) := of_decide_eq_true (by first | (with_reducible assumption) | assumption); omega)] <;> rfl) | rfl | (simp only [List.length_drop, List.length_take]; rfl)) ?_; (with_reducible refine (flongref02_is.calls kj2 _ _ ((l0.take ((wrap64 (x4_1 + x6_2)) : Int).toNat).drop (x4_1 : Int).toNat) false _ ?side1 ?side2 A10.out).mono ?_); (case side1 => repeat (first | exact (Kd.C_below HR170.out HB.out) | (with_reducible refine Kd.C_alloc ?_ _) | (with_reducible refine Kd.C_drewN ?_ _) | (with_reducible refine Kd.C_drew ?_))); (case side2 => exact HC170.out); rintro e w15 ⟨rfl, hb⟩; refine ⟨_, rfl, ?_⟩; have n0_ := Aside0.mk (Kd.R_below (by (with_reducible repeat (first | apply Kd.R_alloc | apply Kd.R_drewN | apply Kd.R_drew)); exact HO_3.out) hb); have n1_ := Aside0.mk (below_step (by repeat (first | (with_reducible first | exact HB.out | apply below_alloc | apply pw_below_drewN | apply below_drew1) | exact HB.out)) hb); clear HO_3; clear HB; have HO_3 := n0_; have HB := n1_; clear n0_ n1_; (try clear hb); (try clear hb2); (try clear hk); (try clear hi)))
             go_roundg kj2
             case measure => have := HK1.out; have := HK2.out; have := HJ2.out; omega
             case rel => exact ⟨(x5_2), (wrap64 (x6_2 + 1)), (by first | rfl | (simp; done) | (simp [*]; done)), (by first | rfl | (simp; done) | (simp [*]; done)), H', ⟨by have := HK1.out; have := HK2.out; have := HJ2.out; omega⟩, ⟨by (with_reducible repeat (first | apply Kd.R_alloc | apply Kd.R_drewN | apply Kd.R_drew)); exact HO_3.out⟩, ⟨by repeat (first | (with_reducible first | exact HB.out | apply below_alloc | apply pw_below_drewN | apply below_drew1) | exact HB.out)⟩⟩
           ·rw [if_neg c9] at H
            exact absurd H (by simp)
          ·rw [if_neg c8] at H
           exact absurd H (by simp)
         ·rw [if_neg c7] at H
          exact absurd H (by simp)
        ·replace c6 := Bool.eq_false_iff.mpr c6
         subst c6
         have H1 : (if x5_2 = 0 then (if x3_1.length < 35184372088832 then (flongref02_Decode.l0 kj2 l0 (x3_1 ++ [65533]) (wrap64 (x4_1 + 1))) else (none)) else (if 0 ≤ x4_1 then (if x4_1 ≤ (wrap64 (x4_1 + x5_2)) then (if (wrap64 (x4_1 + x5_2)) ≤ (l0.length : Int) then ((flongref02_value.f kj2 ((l0.take ((wrap64 (x4_1 + x5_2)) : Int).toNat).drop (x4_1 : Int).toNat)).bind fun t176 => (if x3_1.length < 35184372088832 then (flongref02_Decode.l0 kj2 l0 (x3_1 ++ [wrap32 (t176)]) (wrap64 (x4_1 + x5_2))) else (none))) else (none)) else (none)) else (none))) = some r := by rw [if_neg (show ¬ (false = true) by decide)] at H; exact H
         clear H
         have H := H1
         clear H1
         by_cases c16 : x5_2 = 0
         ·rw [if_pos c16] at H
          have c16b0 : (x5_2 == 0) = true := beq_iff_eq.mpr c16
          have c16b1 : (x5_2 != 0) = false := bne_eq_false_iff_eq.mpr c16
          clear c16
          by_cases c17 : x3_1.length < 35184372088832
          ·rw [if_pos c17] at H
           have LMc17 := Aside0.mk c17
           clear c17
           obtain ⟨y172, hy172⟩ : ∃ y_ : List Int, y_ = (x3_1 ++ [65533]) := ⟨_, rfl⟩
           replace H : (flongref02_Decode.l0 kj2 l0 y172 (wrap64 (x4_1 + 1))) = some r := by first | (rw [hy172]; with_reducible exact H) | (have H2_ := (Option.bind_some _ _).symm.trans H; rw [hy172]; with_reducible exact H2_) | (have H2_ := (Option.bind_some _ _).symm.trans H; with_reducible exact H2_) | with_reducible exact H | (rw [hy172]; exact H) | exact H
           have Ny172 := Aside0.mk hy172
           clear hy172
           have H' := Aside0.mk H
           clear H
           go_wp2_with (first | ((with_reducible refine gate_builtin (b := .append) (xs := #[.tmp 37, .tmp 38]) rfl ?_); (try (refine gate_guard (by rfl) ?_; dsimp only)); at_builtin; refine Kd.R_append (Kd.int .i32) (w0 := w) w.heap.size rfl (.tmp 37) (.tmp 38) 55 21 (.int .i32 0) 4 rfl Tryd.underlying55 info21 rfl (by decide) (by omega) u3 x3_1 65533 [.int .i32 65533] (fun _ => True) (fun _ => False) rfl rfl ?aP (fun _ hk => hk.elim) ?aF ?aO ?aB ?aS ?aL ?_; (case aP => exact rfl); (case aB => exact (by repeat (first | (with_reducible first | exact HB.out | apply below_alloc | apply pw_below_drewN | apply below_drew1) | exact HB.out))); (case aF => exact (fun _ _ => trivial)); (case aO => exact (by (with_reducible repeat (first | apply Kd.R_alloc | apply Kd.R_drewN | apply Kd.R_drew)); exact HO_3.out)); (case aS => exact (below_size (by repeat (first | (with_reducible first | exact HB.out | apply below_alloc | apply pw_below_drewN | apply below_drew1) | exact HB.out)))); (case aL => have := LMc17.out; omega); intro v173 w18 ho hb hg hat; rw [← Ny172.out] at ho; have n0_ := Aside0.mk (hb); have n1_ := Aside0.mk (ho); clear HB; clear HO_3; have HB := n0_; have HO174 := n1_; clear n0_ n1_; clear ho hb hg hat))
           go_roundg kj2
           case measure => have := HK1.out; have := HK2.out; have := HJ2.out; omega
           case rel => exact ⟨(y172), (wrap64 (x4_1 + 1)), (by first | rfl | (simp; done) | (simp [*]; done)), H', ⟨by have := HK1.out; have := HK2.out; have := HJ2.out; omega⟩, ⟨by (with_reducible repeat (first | apply Kd.R_alloc | apply Kd.R_drewN | apply Kd.R_drew)); exact HO174.out⟩, ⟨by repeat (first | (with_reducible first | exact HB.out | apply below_alloc | apply pw_below_drewN | apply below_drew1) | exact HB.out)⟩⟩
          ·rw [if_neg c17] at H
           exact absurd H (by simp)
         ·rw [if_neg c16] at H
          have c16b0 : (x5_2 == 0) = false := beq_eq_false_iff_ne.mpr c16
          have c16b1 : (x5_2 != 0) = true := bne_iff_ne.mpr c16
          by_cases c19 : 0 ≤ x4_1
          ·rw [if_pos c19] at H
           have c19b0 := eq_true c19
           have c19b1 : decide (0 ≤ x4_1) = true := decide_eq_true c19
           clear c19
           by_cases c20 : x4_1 ≤ (wrap64 (x4_1 + x5_2))
           ·rw [if_pos c20] at H
            have c20b0 := eq_true c20
            have c20b1 : decide (x4_1 ≤ (wrap64 (x4_1 + x5_2))) = true := decide_eq_true c20
            by_cases c21 : (wrap64 (x4_1 + x5_2)) ≤ (l0.length : Int)
            ·rw [if_pos c21] at H
             have c21b0 := eq_true c21
             have c21b1 : decide ((wrap64 (x4_1 + x5_2)) ≤ (l0.length : Int)) = true := decide_eq_true c21
             replace H := Option.bind_eq_some_iff.mp H
             obtain ⟨t176, A220, H⟩ := H
             replace H : (if x3_1.length < 35184372088832 then (flongref02_Decode.l0 kj2 l0 (x3_1 ++ [wrap32 (t176)]) (wrap64 (x4_1 + x5_2))) else (none)) = some r := H
             have A22 := Aside0.mk A220
             clear A220
             by_cases c23 : x3_1.length < 35184372088832
             ·rw [if_pos c23] at H
              have LMc23 := Aside0.mk c23
              clear c23
              obtain ⟨y177, hy177⟩ : ∃ y_ : List Int, y_ = (x3_1 ++ [wrap32 (t176)]) := ⟨_, rfl⟩
              replace H : (flongref02_Decode.l0 kj2 l0 y177 (wrap64 (x4_1 + x5_2))) = some r := by first | (rw [hy177]; with_reducible exact H) | (have H2_ := (Option.bind_some _ _).symm.trans H; rw [hy177]; with_reducible exact H2_) | (have H2_ := (Option.bind_some _ _).symm.trans H; with_reducible exact H2_) | with_reducible exact H | (rw [hy177]; exact H) | exact H
              have Ny177 := Aside0.mk hy177
              clear hy177
              have H' := Aside0.mk H
              clear H
              obtain ⟨i024, hi024, _, hsz24, _⟩ := info_parts info5
              obtain ⟨A24, hcut24, hA24, hC24⟩ := print_mid_of (P := Tryd.prog) (Value.int .u8) 0 57 5 .i64 .i64 Tryd.underlying57 hi024 hsz24 A0 c0 l0 x4_1 (wrap64 (x4_1 + x5_2)) (of_decide_eq_true (by first | (with_reducible assumption) | assumption)) (by first | omega | exact of_decide_eq_true (by first | (with_reducible assumption) | assumption)) (of_decide_eq_true (by first | (with_reducible assumption) | assumption)) HC0.out
              have HR175 := Aside0.mk (Kd.C_of_reads (h1 := fun _ => rfl) (hA24 _ (Kd.reads_of_C HR0.out)))
              have HC175 := Aside0.mk hC24
              clear hA24 hC24 hi024 hsz24
              go_wp2_with (first | ((with_reducible refine gate_callee (f := 45) rfl ?_); refine goesL_ (some 49) rfl rfl Tryd.func45 (by kernel_rfl) rfl #[.slice A24 ((l0.take ((wrap64 (x4_1 + x5_2)) : Int).toNat).drop (x4_1 : Int).toNat).length (c0 - x4_1.toNat)] rfl (by (try simp only [List.map_toArray, List.map_cons, List.map_nil]); first | done | (rw [show ((l0.take ((wrap64 (x4_1 + x5_2)) : Int).toNat).drop (x4_1 : Int).toNat).length = ((wrap64 (x4_1 + x5_2)).toNat - x4_1.toNat) from (by rw [List.length_drop, List.length_take]; have h_ : ((wrap64 (x4_1 + x5_2)) : Int) ≤ (l0.length : Int) := of_decide_eq_true (by first | (with_reducible assumption) | assumption); omega)] <;> rfl) | rfl | (simp only [List.length_drop, List.length_take]; rfl)) ?_; (with_reducible refine (flongref02_value.calls kj2 _ _ ((l0.take ((wrap64 (x4_1 + x5_2)) : Int).toNat).drop (x4_1 : Int).toNat) t176 _ ?side1 ?side2 A22.out).mono ?_); (case side1 => repeat (first | exact (Kd.C_below HR175.out HB.out) | (with_reducible refine Kd.C_alloc ?_ _) | (with_reducible refine Kd.C_drewN ?_ _) | (with_reducible refine Kd.C_drew ?_))); (case side2 => exact HC175.out); rintro e w' ⟨rfl, ⟨nd, rfl⟩⟩; refine ⟨_, rfl, ?_⟩) | ((with_reducible refine gate_builtin (b := .append) (xs := #[.tmp 42, .tmp 51]) rfl ?_); (try (refine gate_guard (by rfl) ?_; dsimp only)); at_builtin; refine Kd.R_append (Kd.int .i32) (w0 := w) w.heap.size rfl (.tmp 42) (.tmp 51) 55 21 (.int .i32 0) 4 rfl Tryd.underlying55 info21 rfl (by decide) (by omega) u3 x3_1 (wrap32 (t176)) [.int .i32 (wrap32 (t176))] (fun _ => True) (fun _ => False) rfl rfl ?aP (fun _ hk => hk.elim) ?aF ?aO ?aB ?aS ?aL ?_; (case aP => exact rfl); (case aB => exact (by repeat (first | (with_reducible first | exact HB.out | apply below_alloc | apply pw_below_drewN | apply below_drew1) | exact HB.out))); (case aF => exact (fun _ _ => trivial)); (case aO => exact (by (with_reducible repeat (first | apply Kd.R_alloc | apply Kd.R_drewN | apply Kd.R_drew)); exact HO_3.out)); (case aS => exact (below_size (by repeat (first | (with_reducible first | exact HB.out | apply below_alloc | apply pw_below_drewN | apply below_drew1) | exact HB.out)))); (case aL => have := LMc23.out; omega); intro v178 w25 ho hb hg hat; rw [← Ny177.out] at ho; have n0_ := Aside0.mk (hb); have n1_ := Aside0.mk (ho); clear HB; clear HO_3; have HB := n0_; have HO179 := n1_; clear n0_ n1_; clear ho hb hg hat))
              go_roundg kj2
              case measure => have := HK1.out; have := HK2.out; have := HJ2.out; omega
              case rel => exact ⟨(y177), (wrap64 (x4_1 + x5_2)), (by first | rfl | (simp; done) | (simp [*]; done)), H', ⟨by have := HK1.out; have := HK2.out; have := HJ2.out; omega⟩, ⟨by (with_reducible repeat (first | apply Kd.R_alloc | apply Kd.R_drewN | apply Kd.R_drew)); exact HO179.out⟩, ⟨by repeat (first | (with_reducible first | exact HB.out | apply below_alloc | apply pw_below_drewN | apply below_drew1) | exact HB.out)⟩⟩
             ·rw [if_neg c23] at H
              exact absurd H (by simp)
            ·rw [if_neg c21] at H
             exact absurd H (by simp)
           ·rw [if_neg c20] at H
            exact absurd H (by simp)
          ·rw [if_neg c19] at H
           exact absurd H (by simp)
   ·rw [if_neg c2] at H
    have c2b0 : decide (x4_1 < (l0.length : Int)) = false := decide_eq_false c2
    clear c2
    obtain rfl := Option.some.inj H
    go_wp2
    go_ret
    exact ⟨_, by first | rfl | (simp [errW_none, errW_some] <;> rfl) | (simp [*, errW_none, errW_some] <;> rfl), by (with_reducible repeat (first | apply Kd.R_alloc | apply Kd.R_drewN | apply Kd.R_drew)); exact HO_3.out, by repeat (first | (with_reducible first | exact HB.out | apply below_alloc | apply pw_below_drewN | apply below_drew1) | exact HB.out)⟩

end Go.Proofs.YtfdfjlichpjobaaDoorRR.X
