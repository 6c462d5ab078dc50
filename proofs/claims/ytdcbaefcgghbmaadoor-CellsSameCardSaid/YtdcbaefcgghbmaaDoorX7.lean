-- Written by this session's xprint.py (a variant of the kit's printer). Not trusted: Lean checks it.
import Derived.Test.YtdcbaefcgghbmaaDoorX0
import Derived.Test.YtdcbaefcgghbmaaDoorX2
import Derived.Test.YtdcbaefcgghbmaaDoorX4
import Derived.Test.YtdcbaefcgghbmaaDoorX5
import Derived.Test.YtdcbaefcgghbmaaDoorHandA
import Derived.Test.YtdcbaefcgghbmaaDoorHandRuns
namespace Go.Proofs.YtdcbaefcgghbmaaDoor.X
open Go.Proofs.YtdcbaefcgghbmaaDoor.Hand
open Go.RowKit Go.Proofs.YtdcbaefcgghbmaaDoorW.PrintWords Go.Proofs.YtdcbaefcgghbmaaDoorW.PrintLast Go.Proofs.YtdcbaefcgghbmaaDoorW.PrintMore
attribute [local go_sem] max2_int min2_int max_two min_two max_three min_three max_four min_four   -- for this text's walks alone
set_option linter.unusedVariables false
set_option linter.unusedSimpArgs false

/-! ### flonglaw03_CellsSame: function 4 -/
mutual
def flonglaw03_CellsSame.j0 : Nat → List (S28) → List (S28) → Bool → Option (Bool)
  | 0, _, _, _ => none
  | k + 1, x0, x1, x16 => if x16 = true then ((flonglaw03_known.f k).bind fun t206 => (some t206)) else ((cells_Runs.f x0).bind fun t207 => (flonglaw03_CellsSame.l0 k x0 x1 t207 ([] : List (S28)) 0))
def flonglaw03_CellsSame.l0 : Nat → List (S28) → List (S28) → List (List (S28)) → List (S28) → Int → Option (Bool)
  | 0, _, _, _, _, _ => none
  | k + 1, x0, x1, x5, x6, x7 => if x7 < (x5.length : Int) then (if 0 ≤ x7 then (if ((rd_L6 x5 x7).length : Int) = 0 then (flonglaw03_CellsSame.j2 k x0 x1 x5 x6 x7 true) else (if x7 > 0 then (if 0 < ((rd_L6 x5 x7).length : Int) then (if 0 ≤ (wrap64 (x7 - 1)) then (if (wrap64 (x7 - 1)) < (x5.length : Int) then (if 0 < ((rd_L6 x5 (wrap64 (x7 - 1))).length : Int) then (flonglaw03_CellsSame.j2 k x0 x1 x5 x6 x7 (((rd_T28 (rd_L6 x5 x7) 0).f1) == ((rd_T28 (rd_L6 x5 (wrap64 (x7 - 1))) 0).f1))) else (none)) else (none)) else (none)) else (none)) else (flonglaw03_CellsSame.j2 k x0 x1 x5 x6 x7 false))) else (none)) else ((flongref03_Same.f k x6 x0).bind fun t224 => (if t224 = true then ((cells_Same.f k x0 x1).bind fun t225 => ((flongref03_Same.f k x0 x1).bind fun t226 => (if (t225 == t226) = true then ((flonglaw03_known.f k).bind fun t227 => (some t227)) else (some false)))) else (some false)))
def flonglaw03_CellsSame.j2 : Nat → List (S28) → List (S28) → List (List (S28)) → List (S28) → Int → Bool → Option (Bool)
  | 0, _, _, _, _, _, _ => none
  | k + 1, x0, x1, x5, x6, x7, x53 => if x53 = true then (some false) else (flonglaw03_CellsSame.l1 k x0 x1 x5 x6 x7 0)
def flonglaw03_CellsSame.l1 : Nat → List (S28) → List (S28) → List (List (S28)) → List (S28) → Int → Int → Option (Bool)
  | 0, _, _, _, _, _, _ => none
  | k + 1, x0, x1, x5, x6, x7, x8 => if 0 ≤ x7 then (if x7 < (x5.length : Int) then (if x8 < ((rd_L6 x5 x7).length : Int) then (if 0 ≤ x8 then (if 0 < ((rd_L6 x5 x7).length : Int) then (if ((rd_T28 (rd_L6 x5 x7) x8).f1) = ((rd_T28 (rd_L6 x5 x7) 0).f1) then (flonglaw03_CellsSame.l1 k x0 x1 x5 x6 x7 (wrap64 (x8 + 1))) else (some false)) else (none)) else (none)) else (if x6.length + (rd_L6 x5 x7).length < 17592186044416 then (flonglaw03_CellsSame.l0 k x0 x1 x5 (x6 ++ (rd_L6 x5 x7)) (wrap64 (x7 + 1))) else (none))) else (none)) else (none)
end
def flonglaw03_CellsSame.f (k : Nat) (l0 : List (S28)) (l1 : List (S28)) : Option (Bool) := if (l0.length : Int) > 300 then (flonglaw03_CellsSame.j0 k l0 l1 true) else (flonglaw03_CellsSame.j0 k l0 l1 (decide ((l1.length : Int) > 300)))
theorem flonglaw03_CellsSame.mono_l : ∀ k, (∀ y0 y1 y2, LeO (flonglaw03_CellsSame.j0 k y0 y1 y2) (flonglaw03_CellsSame.j0 (k + 1) y0 y1 y2)) ∧ (∀ y0 y1 y2 y3 y4, LeO (flonglaw03_CellsSame.l0 k y0 y1 y2 y3 y4) (flonglaw03_CellsSame.l0 (k + 1) y0 y1 y2 y3 y4)) ∧ (∀ y0 y1 y2 y3 y4 y5, LeO (flonglaw03_CellsSame.j2 k y0 y1 y2 y3 y4 y5) (flonglaw03_CellsSame.j2 (k + 1) y0 y1 y2 y3 y4 y5)) ∧ (∀ y0 y1 y2 y3 y4 y5, LeO (flonglaw03_CellsSame.l1 k y0 y1 y2 y3 y4 y5) (flonglaw03_CellsSame.l1 (k + 1) y0 y1 y2 y3 y4 y5))
  | 0 => ⟨fun _ _ _ r h => by simp [flonglaw03_CellsSame.j0] at h, fun _ _ _ _ _ r h => by simp [flonglaw03_CellsSame.l0] at h, fun _ _ _ _ _ _ r h => by simp [flonglaw03_CellsSame.j2] at h, fun _ _ _ _ _ _ r h => by simp [flonglaw03_CellsSame.l1] at h⟩
  | k + 1 => by
    obtain ⟨ih0, ih1, ih2, ih3⟩ := flonglaw03_CellsSame.mono_l k
    refine ⟨?_, ?_, ?_, ?_⟩
    · intro y0 y1 y2
      unfold flonglaw03_CellsSame.j0
      repeat' first
      | (with_reducible exact ih0 _ _ _)
      | (with_reducible exact ih1 _ _ _ _ _)
      | (with_reducible exact ih2 _ _ _ _ _ _)
      | (with_reducible exact ih3 _ _ _ _ _ _)
      | (with_reducible exact cells_Same.mono _ _ _)
      | (with_reducible exact flonglaw03_known.mono _)
      | (with_reducible exact flongref03_Same.mono _ _ _)
      | (with_reducible exact LeO.refl _)
      | (with_reducible exact LeO.none _)
      | (with_reducible refine LeO.ite ?_ ?_)
      | (with_reducible refine LeO.bind ?_ (fun _ => ?_))
      | exact ih0 _ _ _
      | exact ih1 _ _ _ _ _
      | exact ih2 _ _ _ _ _ _
      | exact ih3 _ _ _ _ _ _
      | exact cells_Same.mono _ _ _
      | exact flonglaw03_known.mono _
      | exact flongref03_Same.mono _ _ _
      | exact LeO.none _
      | refine LeO.ite ?_ ?_
      | refine LeO.bind ?_ (fun _ => ?_)
    · intro y0 y1 y2 y3 y4
      unfold flonglaw03_CellsSame.l0
      repeat' first
      | (with_reducible exact ih0 _ _ _)
      | (with_reducible exact ih1 _ _ _ _ _)
      | (with_reducible exact ih2 _ _ _ _ _ _)
      | (with_reducible exact ih3 _ _ _ _ _ _)
      | (with_reducible exact cells_Same.mono _ _ _)
      | (with_reducible exact flonglaw03_known.mono _)
      | (with_reducible exact flongref03_Same.mono _ _ _)
      | (with_reducible exact LeO.refl _)
      | (with_reducible exact LeO.none _)
      | (with_reducible refine LeO.ite ?_ ?_)
      | (with_reducible refine LeO.bind ?_ (fun _ => ?_))
      | exact ih0 _ _ _
      | exact ih1 _ _ _ _ _
      | exact ih2 _ _ _ _ _ _
      | exact ih3 _ _ _ _ _ _
      | exact cells_Same.mono _ _ _
      | exact flonglaw03_known.mono _
      | exact flongref03_Same.mono _ _ _
      | exact LeO.none _
      | refine LeO.ite ?_ ?_
      | refine LeO.bind ?_ (fun _ => ?_)
    · intro y0 y1 y2 y3 y4 y5
      unfold flonglaw03_CellsSame.j2
      repeat' first
      | (with_reducible exact ih0 _ _ _)
      | (with_reducible exact ih1 _ _ _ _ _)
      | (with_reducible exact ih2 _ _ _ _ _ _)
      | (with_reducible exact ih3 _ _ _ _ _ _)
      | (with_reducible exact cells_Same.mono _ _ _)
      | (with_reducible exact flonglaw03_known.mono _)
      | (with_reducible exact flongref03_Same.mono _ _ _)
      | (with_reducible exact LeO.refl _)
      | (with_reducible exact LeO.none _)
      | (with_reducible refine LeO.ite ?_ ?_)
      | (with_reducible refine LeO.bind ?_ (fun _ => ?_))
      | exact ih0 _ _ _
      | exact ih1 _ _ _ _ _
      | exact ih2 _ _ _ _ _ _
      | exact ih3 _ _ _ _ _ _
      | exact cells_Same.mono _ _ _
      | exact flonglaw03_known.mono _
      | exact flongref03_Same.mono _ _ _
      | exact LeO.none _
      | refine LeO.ite ?_ ?_
      | refine LeO.bind ?_ (fun _ => ?_)
    · intro y0 y1 y2 y3 y4 y5
      unfold flonglaw03_CellsSame.l1
      repeat' first
      | (with_reducible exact ih0 _ _ _)
      | (with_reducible exact ih1 _ _ _ _ _)
      | (with_reducible exact ih2 _ _ _ _ _ _)
      | (with_reducible exact ih3 _ _ _ _ _ _)
      | (with_reducible exact cells_Same.mono _ _ _)
      | (with_reducible exact flonglaw03_known.mono _)
      | (with_reducible exact flongref03_Same.mono _ _ _)
      | (with_reducible exact LeO.refl _)
      | (with_reducible exact LeO.none _)
      | (with_reducible refine LeO.ite ?_ ?_)
      | (with_reducible refine LeO.bind ?_ (fun _ => ?_))
      | exact ih0 _ _ _
      | exact ih1 _ _ _ _ _
      | exact ih2 _ _ _ _ _ _
      | exact ih3 _ _ _ _ _ _
      | exact cells_Same.mono _ _ _
      | exact flonglaw03_known.mono _
      | exact flongref03_Same.mono _ _ _
      | exact LeO.none _
      | refine LeO.ite ?_ ?_
      | refine LeO.bind ?_ (fun _ => ?_)
theorem flonglaw03_CellsSame.mono : ∀ a0 a1 k, LeO (flonglaw03_CellsSame.f k a0 a1) (flonglaw03_CellsSame.f (k + 1) a0 a1) := by
  intro a0 a1 k
  obtain ⟨ih0, ih1, ih2, ih3⟩ := flonglaw03_CellsSame.mono_l k
  unfold flonglaw03_CellsSame.f
  repeat' first
      | (with_reducible exact ih0 _ _ _)
      | (with_reducible exact ih1 _ _ _ _ _)
      | (with_reducible exact ih2 _ _ _ _ _ _)
      | (with_reducible exact ih3 _ _ _ _ _ _)
      | (with_reducible exact cells_Same.mono _ _ _)
      | (with_reducible exact flonglaw03_known.mono _)
      | (with_reducible exact flongref03_Same.mono _ _ _)
      | (with_reducible exact LeO.refl _)
      | (with_reducible exact LeO.none _)
      | (with_reducible refine LeO.ite ?_ ?_)
      | (with_reducible refine LeO.bind ?_ (fun _ => ?_))
      | exact ih0 _ _ _
      | exact ih1 _ _ _ _ _
      | exact ih2 _ _ _ _ _ _
      | exact ih3 _ _ _ _ _ _
      | exact cells_Same.mono _ _ _
      | exact flonglaw03_known.mono _
      | exact flongref03_Same.mono _ _ _
      | exact LeO.none _
      | refine LeO.ite ?_ ?_
      | refine LeO.bind ?_ (fun _ => ?_)
set_option maxHeartbeats 8000000 in
set_option maxRecDepth 100000 in
theorem flonglaw03_CellsSame.calls (k : Nat) (A0 : Option Addr) (c0 : Nat) (l0 : List (S28)) (A1 : Option Addr) (c1 : Nat) (l1 : List (S28)) (r : Bool) (w : World) (hr0 : Kd.C k28 w A0 l0.length l0) (hc0 : l0.length ≤ c0) (hr1 : Kd.C k28 w A1 l1.length l1) (hc1 : l1.length ≤ c1) (hG : GOK [0] w) (h : flonglaw03_CellsSame.f k l0 l1 = some r) :
    Calls Tryd.prog 4 #[.slice A0 l0.length c0, .slice A1 l1.length c1] w fun e w' => e = .returned (.bool r) ∧ Below w.heap.size w w' := by
  have HG := Aside0.mk hG
  clear hG
  have HR0 := Aside0.mk hr0
  have HC0 := Aside0.mk hc0
  clear hr0 hc0
  have HR1 := Aside0.mk hr1
  have HC1 := Aside0.mk hc1
  clear hr1 hc1
  have HB := Aside0.mk (Below.refl w.heap.size w)
  have H : (if (l0.length : Int) > 300 then (flonglaw03_CellsSame.j0 k l0 l1 true) else (flonglaw03_CellsSame.j0 k l0 l1 (decide ((l1.length : Int) > 300)))) = some r := h
  clear h
  have HC3 := Aside0.mk H
  clear H
  go_enter Tryd.func4, Tryd.ntmps4
  go_upto_region 1 with (fail)
  repeat (go_quiet (fail); go_upto_region 1 with (fail))
  go_cut [16] (fun v16 wc => ∃ (kq : Nat) (x16_2 : Bool), v16 = .bool x16_2 ∧ Aside0 (flonglaw03_CellsSame.j0 kq l0 l1 x16_2 = some r) ∧ Aside0 (kq ≤ k) ∧ Aside0 (Below w.heap.size w wc))
  case first =>
    have H := HC3.out
    clear HC3
    by_cases c4 : (l0.length : Int) > 300
    · rw [if_pos c4] at H
      have c4b0 : decide (300 < (l0.length : Int)) = true := decide_eq_true c4
      have c4b1 : decide (300 < l0.length) = true := decide_eq_true (by omega)
      clear c4
      (first | rw [c4b0] | (simp only [i64_w, i32_w]; rw [c4b0]) | skip)
      have H' := Aside0.mk H
      clear H
      go_wp2
      repeat (go_quiet (fail); try go_wp2)
      go_meet
      case rel => exact ⟨_, (true), (by first | rfl | (simp; done) | (simp [*]; done)), H', ⟨by first | omega | exact Nat.le_refl _⟩, ⟨by repeat (first | (with_reducible first | exact HB.out | apply below_alloc | apply pw_below_drewN | apply below_drew1) | exact HB.out)⟩⟩
    · rw [if_neg c4] at H
      have c4b0 : decide (300 < (l0.length : Int)) = false := decide_eq_false c4
      have c4b1 : decide (300 < l0.length) = false := decide_eq_false (by omega)
      clear c4
      (first | rw [c4b0] | (simp only [i64_w, i32_w]; rw [c4b0]) | skip)
      have H' := Aside0.mk H
      clear H
      go_wp2
      repeat (go_quiet (fail); try go_wp2)
      go_meet
      case rel => exact ⟨_, (decide ((l1.length : Int) > 300)), (by first | rfl | (simp; done) | (simp [*]; done)), H', ⟨by first | omega | exact Nat.le_refl _⟩, ⟨by repeat (first | (with_reducible first | exact HB.out | apply below_alloc | apply pw_below_drewN | apply below_drew1) | exact HB.out)⟩⟩
  case rest =>
    clear HC3
    try clear c1
    try clear p2
    try clear c4
    try clear c4b0
    try clear c4b1
    obtain ⟨kq, x16_2, rfl, HA, HJ2, HB⟩ := hcut
    cases kq with
    | zero => exact absurd HA.out (by simp [flonglaw03_CellsSame.j0])
    | succ kj2 =>
      have H := HA.out
      clear HA
      simp only [flonglaw03_CellsSame.j0] at H
      by_cases c5 : x16_2 = true
      · subst c5
        have H1 : ((flonglaw03_known.f kj2).bind fun t206 => (some t206)) = some r := by rw [if_pos rfl] at H; exact H
        clear H
        have H := H1
        clear H1
        replace H := Option.bind_eq_some_iff.mp H
        obtain ⟨t206, A60, H⟩ := H
        replace H : (some t206) = some r := H
        have A6 := Aside0.mk A60
        clear A60
        obtain rfl := Option.some.inj H
        go_wp2_with (first | (go_at_call 10; (with_reducible refine (flonglaw03_known.calls kj2  t206 _ ?side1 A6.out).mono ?_); (case side1 => exact GOK.of_below (GOK.sub HG.out rfl) (by repeat (first | (with_reducible first | exact HB.out | apply below_alloc | apply pw_below_drewN | apply below_drew1) | exact HB.out))); rintro e w7 ⟨rfl, hb⟩; have n0_ := Aside0.mk (below_step (by repeat (first | (with_reducible first | exact HB.out | apply below_alloc | apply pw_below_drewN | apply below_drew1) | exact HB.out)) hb); clear HB; have HB := n0_; clear n0_; (try clear hb); (try clear hb2); (try clear hk); (try clear hi)))
        repeat (go_quiet (first | (go_at_call 10; (with_reducible refine (flonglaw03_known.calls kj2  t206 _ ?side1 A6.out).mono ?_); (case side1 => exact GOK.of_below (GOK.sub HG.out rfl) (by repeat (first | (with_reducible first | exact HB.out | apply below_alloc | apply pw_below_drewN | apply below_drew1) | exact HB.out))); rintro e w7 ⟨rfl, hb⟩; have n0_ := Aside0.mk (below_step (by repeat (first | (with_reducible first | exact HB.out | apply below_alloc | apply pw_below_drewN | apply below_drew1) | exact HB.out)) hb); clear HB; have HB := n0_; clear n0_; (try clear hb); (try clear hb2); (try clear hk); (try clear hi))); try go_wp2_with (first | (go_at_call 10; (with_reducible refine (flonglaw03_known.calls kj2  t206 _ ?side1 A6.out).mono ?_); (case side1 => exact GOK.of_below (GOK.sub HG.out rfl) (by repeat (first | (with_reducible first | exact HB.out | apply below_alloc | apply pw_below_drewN | apply below_drew1) | exact HB.out))); rintro e w7 ⟨rfl, hb⟩; have n0_ := Aside0.mk (below_step (by repeat (first | (with_reducible first | exact HB.out | apply below_alloc | apply pw_below_drewN | apply below_drew1) | exact HB.out)) hb); clear HB; have HB := n0_; clear n0_; (try clear hb); (try clear hb2); (try clear hk); (try clear hi))))
        go_ret
        exact ⟨by first | rfl | (simp [errW_none, errW_some] <;> rfl) | (simp [*, errW_none, errW_some] <;> rfl), by repeat (first | (with_reducible first | exact HB.out | apply below_alloc | apply pw_below_drewN | apply below_drew1) | exact HB.out)⟩
      · replace c5 := Bool.eq_false_iff.mpr c5
        subst c5
        have H1 : ((cells_Runs.f l0).bind fun t207 => (flonglaw03_CellsSame.l0 kj2 l0 l1 t207 ([] : List (S28)) 0)) = some r := by rw [if_neg (show ¬ (false = true) by decide)] at H; exact H
        clear H
        have H := H1
        clear H1
        replace H := Option.bind_eq_some_iff.mp H
        obtain ⟨t207, A80, H⟩ := H
        replace H : (flonglaw03_CellsSame.l0 kj2 l0 l1 t207 ([] : List (S28)) 0) = some r := H
        have A8 := Aside0.mk A80
        clear A80
        have H' := Aside0.mk H
        clear H
        go_wp2_with (first | (go_at_call 16; (with_reducible refine (cells_Runs.calls _ _ l0 t207 _ ?side1 ?side2 A8.out).mono ?_); (case side1 => repeat (first | exact (Kd.C_below HR0.out HB.out) | (with_reducible refine Kd.C_alloc ?_ _) | (with_reducible refine Kd.C_drewN ?_ _) | (with_reducible refine Kd.C_drew ?_))); (case side2 => exact HC0.out); rintro e w9 ⟨v208, rfl, ho0, hb⟩; have n0_ := Aside0.mk (Kd.S_lower ho0 (below_size (by repeat (first | (with_reducible first | exact HB.out | apply below_alloc | apply pw_below_drewN | apply below_drew1) | exact HB.out)))); have n1_ := Aside0.mk (below_step (by repeat (first | (with_reducible first | exact HB.out | apply below_alloc | apply pw_below_drewN | apply below_drew1) | exact HB.out)) hb); clear HB; have HO209 := n0_; have HB := n1_; clear n0_ n1_; (try clear hb); (try clear hb2); (try clear hk); (try clear hi); (try clear ho0)))
        repeat (go_quiet (first | (go_at_call 16; (with_reducible refine (cells_Runs.calls _ _ l0 t207 _ ?side1 ?side2 A8.out).mono ?_); (case side1 => repeat (first | exact (Kd.C_below HR0.out HB.out) | (with_reducible refine Kd.C_alloc ?_ _) | (with_reducible refine Kd.C_drewN ?_ _) | (with_reducible refine Kd.C_drew ?_))); (case side2 => exact HC0.out); rintro e w9 ⟨v208, rfl, ho0, hb⟩; have n0_ := Aside0.mk (Kd.S_lower ho0 (below_size (by repeat (first | (with_reducible first | exact HB.out | apply below_alloc | apply pw_below_drewN | apply below_drew1) | exact HB.out)))); have n1_ := Aside0.mk (below_step (by repeat (first | (with_reducible first | exact HB.out | apply below_alloc | apply pw_below_drewN | apply below_drew1) | exact HB.out)) hb); clear HB; have HO209 := n0_; have HB := n1_; clear n0_ n1_; (try clear hb); (try clear hb2); (try clear hk); (try clear hi); (try clear ho0))); try go_wp2_with (first | (go_at_call 16; (with_reducible refine (cells_Runs.calls _ _ l0 t207 _ ?side1 ?side2 A8.out).mono ?_); (case side1 => repeat (first | exact (Kd.C_below HR0.out HB.out) | (with_reducible refine Kd.C_alloc ?_ _) | (with_reducible refine Kd.C_drewN ?_ _) | (with_reducible refine Kd.C_drew ?_))); (case side2 => exact HC0.out); rintro e w9 ⟨v208, rfl, ho0, hb⟩; have n0_ := Aside0.mk (Kd.S_lower ho0 (below_size (by repeat (first | (with_reducible first | exact HB.out | apply below_alloc | apply pw_below_drewN | apply below_drew1) | exact HB.out)))); have n1_ := Aside0.mk (below_step (by repeat (first | (with_reducible first | exact HB.out | apply below_alloc | apply pw_below_drewN | apply below_drew1) | exact HB.out)) hb); clear HB; have HO209 := n0_; have HB := n1_; clear n0_ n1_; (try clear hb); (try clear hb2); (try clear hk); (try clear hi); (try clear ho0))))
        go_loopg [6, 7] kj2 (fun kq v6 v7 w' => ∃ (x6_2 : List (S28)) (x7_2 : Int), v7 = .int .i64 x7_2 ∧ Aside0 (flonglaw03_CellsSame.l0 kq l0 l1 t207 x6_2 x7_2 = some r) ∧ Aside0 (kq ≤ kj2) ∧ Aside0 (Kd.S (Kd.slice 28 k28) 22 w' w.heap.size (fun k_ => some k_ ≠ (v6 : Value).ownBlock) v208 t207) ∧ Aside0 (Kd.R k28 28 w' w.heap.size (fun _ => True) v6 x6_2) ∧ Aside0 (Below w.heap.size w w'))
        case atStart => exact ⟨(([] : List (S28))), (0), (by first | rfl | (simp; done) | (simp [*]; done)), H', ⟨Nat.le_refl _⟩, ⟨by (with_reducible repeat (first | apply Kd.S_alloc | apply Kd.S_drewN | apply Kd.S_drew)); exact Kd.S_mono HO209.out (fun _ hk => (by simp [Value.ownBlock]))⟩, ⟨by first | exact Kd.R_nil _ _ _ _ _ | exact Kd.N_nil _ _ _ _ _ | exact Kd.V_nil _ _ _ _ _ | exact Kd.Q_nil _ _ _ _ _ | exact Kd.S_nil _ _ _ _ _⟩, ⟨by repeat (first | (with_reducible first | exact HB.out | apply below_alloc | apply pw_below_drewN | apply below_drew1) | exact HB.out)⟩⟩
        case round =>
          clear H'
          try clear c1
          try clear p2
          try clear c4
          try clear c4b0
          try clear c4b1
          try clear c5
          try clear p2
          obtain ⟨x6_2, x7_2, rfl, HA, HK2, HO_5, HO_6, HB⟩ := hrel
          cases gk with
          | zero => exact absurd HA.out (by simp [flonglaw03_CellsSame.l0])
          | succ k2 =>
            have H := HA.out
            clear HA
            simp only [flonglaw03_CellsSame.l0] at H
            by_cases c10 : x7_2 < (t207.length : Int)
            · rw [if_pos c10] at H
              have c10b0 : decide (x7_2 < (t207.length : Int)) = true := decide_eq_true c10
              clear c10
              have HC11 := Aside0.mk H
              clear H
              obtain ⟨Ao12, co12, eo12⟩ := Kd.S_slice HO_5.out
              subst eo12
              go_upto_region 8 with (fail)
              repeat (go_quiet (fail); go_upto_region 8 with (fail))
              go_cut [53] (fun v53 wc => ∃ (kq : Nat) (x53_10 : Bool), v53 = .bool x53_10 ∧ Aside0 (flonglaw03_CellsSame.j2 kq l0 l1 t207 x6_2 x7_2 x53_10 = some r) ∧ Aside0 (kq ≤ k2) ∧ Aside0 (Kd.S (Kd.slice 28 k28) 22 wc w.heap.size (fun k_ => some k_ ≠ (u6 : Value).ownBlock) (.slice Ao12 t207.length co12) t207) ∧ Aside0 (Kd.R k28 28 wc w.heap.size (fun _ => True) u6 x6_2) ∧ Aside0 (Below w.heap.size w wc))
              case first =>
                have H := HC11.out
                clear HC11
                by_cases c13 : 0 ≤ x7_2
                · rw [if_pos c13] at H
                  have c13b0 : decide (0 ≤ x7_2) = true := decide_eq_true c13
                  clear c13
                  (first | rw [c13b0] | (simp only [i64_w, i32_w]; rw [c13b0]) | skip)
                  by_cases c14 : ((rd_L6 t207 x7_2).length : Int) = 0
                  · rw [if_pos c14] at H
                    have c14b0 : (((rd_L6 t207 x7_2).length : Int) == 0) = true := beq_iff_eq.mpr c14
                    have c14b1 : (((rd_L6 t207 x7_2).length : Int) != 0) = false := bne_eq_false_iff_eq.mpr c14
                    clear c14
                    have H' := Aside0.mk H
                    clear H
                    have p210 : 0 ≤ (x7_2 : Int) := of_decide_eq_true (by first | (with_reducible assumption) | assumption)
                    have q210 : x7_2 < (t207.length : Int) := of_decide_eq_true (by first | (with_reducible assumption) | assumption)
                    obtain ⟨ad210, A210_0, c210_0, e210, hx210_0, hl210_0, hi210_0⟩ := at_L6 (Kd.S_reads' HO_5.out).2.2 x7_2 p210 q210
                    cases e210
                    obtain ⟨ce210, hce210, hMe210, hcc210⟩ := Kd.S_get HO_5.out [] x7_2 p210 (by first | exact q210 | exact of_decide_eq_true (by first | (with_reducible assumption) | assumption) | (have e_ := (Kd.S_reads' HO_5.out).1; omega))
                    obtain ⟨ve210_0, rfl, ge210_0⟩ := hMe210
                    have hv210_0 := hcc210 0 _ rfl
                    rw [Nat.add_zero, show ((Kd.slice 28 k28)).sz = 1 from rfl, Nat.mul_one] at hv210_0
                    replace hv210_0 := Option.some.inj (hv210_0.symm.trans hx210_0)
                    rw [hv210_0] at ge210_0
                    have HL210_0 := Aside0.mk (show Kd.R k28 28 _ _ _ _ (rd_L6 t207 x7_2) from ge210_0)
                    clear hv210_0 ge210_0
                    clear hcc210 hce210
                    have HR210_0 := Aside0.mk hi210_0
                    have HC210_0 := Aside0.mk hl210_0
                    clear hi210_0 hl210_0
                    replace p210 := eq_true p210
                    replace q210 := eq_true q210
                    go_wp2
                    repeat (go_quiet (fail); try go_wp2)
                    go_meet
                    case rel => exact ⟨_, (true), (by first | rfl | (simp; done) | (simp [*]; done)), H', ⟨by have := HJ2.out; have := HK2.out; first | omega | exact Nat.le_refl _⟩, ⟨by (with_reducible repeat (first | apply Kd.S_alloc | apply Kd.S_drewN | apply Kd.S_drew)); exact HO_5.out⟩, ⟨by (with_reducible repeat (first | apply Kd.R_alloc | apply Kd.R_drewN | apply Kd.R_drew)); exact HO_6.out⟩, ⟨by repeat (first | (with_reducible first | exact HB.out | apply below_alloc | apply pw_below_drewN | apply below_drew1) | exact HB.out)⟩⟩
                  · rw [if_neg c14] at H
                    have c14b0 : (((rd_L6 t207 x7_2).length : Int) == 0) = false := beq_eq_false_iff_ne.mpr c14
                    have c14b1 : (((rd_L6 t207 x7_2).length : Int) != 0) = true := bne_iff_ne.mpr c14
                    have c14b2 : ¬ ((rd_L6 t207 x7_2) = []) := fun h_ => c14 (by rw [h_]; rfl)
                    by_cases c15 : x7_2 > 0
                    · rw [if_pos c15] at H
                      have c15b0 : decide (0 < x7_2) = true := decide_eq_true c15
                      clear c15
                      by_cases c16 : 0 < ((rd_L6 t207 x7_2).length : Int)
                      · rw [if_pos c16] at H
                        have c16b0 : decide (0 < ((rd_L6 t207 x7_2).length : Int)) = true := decide_eq_true c16
                        have c16b1 : decide (0 < (rd_L6 t207 x7_2).length) = true := decide_eq_true (by omega)
                        clear c16
                        obtain ⟨ji17, hji17⟩ : ∃ j_ : Int, (wrap64 (x7_2 - 1)) = j_ := ⟨_, rfl⟩
                        replace H : (if 0 ≤ (ji17) then (if (ji17) < (t207.length : Int) then (if 0 < ((rd_L6 t207 (ji17)).length : Int) then (flonglaw03_CellsSame.j2 k2 l0 l1 t207 x6_2 x7_2 (((rd_T28 (rd_L6 t207 x7_2) 0).f1) == ((rd_T28 (rd_L6 t207 (ji17)) 0).f1))) else (none)) else (none)) else (none)) = some r := by first | (rw [hji17] at H; exact H) | (simp only [hji17] at H ⊢; exact H)
                        have hji17w : (IntKind.i64.wrap (x7_2 - 1)) = ji17 := (i64_w _).trans hji17
                        by_cases c18 : 0 ≤ (ji17)
                        · rw [if_pos c18] at H
                          have c18b0 : decide (0 ≤ (ji17)) = true := decide_eq_true c18
                          clear c18
                          by_cases c19 : (ji17) < (t207.length : Int)
                          · rw [if_pos c19] at H
                            have c19b0 : decide ((ji17) < (t207.length : Int)) = true := decide_eq_true c19
                            clear c19
                            by_cases c20 : 0 < ((rd_L6 t207 (ji17)).length : Int)
                            · rw [if_pos c20] at H
                              have c20b0 : decide (0 < ((rd_L6 t207 (ji17)).length : Int)) = true := decide_eq_true c20
                              have c20b1 : decide (0 < (rd_L6 t207 (ji17)).length) = true := decide_eq_true (by omega)
                              clear c20
                              have H' := Aside0.mk H
                              clear H
                              have p210 : 0 ≤ (x7_2 : Int) := of_decide_eq_true (by first | (with_reducible assumption) | assumption)
                              have q210 : x7_2 < (t207.length : Int) := of_decide_eq_true (by first | (with_reducible assumption) | assumption)
                              obtain ⟨ad210, A210_0, c210_0, e210, hx210_0, hl210_0, hi210_0⟩ := at_L6 (Kd.S_reads' HO_5.out).2.2 x7_2 p210 q210
                              cases e210
                              obtain ⟨ce210, hce210, hMe210, hcc210⟩ := Kd.S_get HO_5.out [] x7_2 p210 (by first | exact q210 | exact of_decide_eq_true (by first | (with_reducible assumption) | assumption) | (have e_ := (Kd.S_reads' HO_5.out).1; omega))
                              obtain ⟨ve210_0, rfl, ge210_0⟩ := hMe210
                              have hv210_0 := hcc210 0 _ rfl
                              rw [Nat.add_zero, show ((Kd.slice 28 k28)).sz = 1 from rfl, Nat.mul_one] at hv210_0
                              replace hv210_0 := Option.some.inj (hv210_0.symm.trans hx210_0)
                              rw [hv210_0] at ge210_0
                              have HL210_0 := Aside0.mk (show Kd.R k28 28 _ _ _ _ (rd_L6 t207 x7_2) from ge210_0)
                              clear hv210_0 ge210_0
                              clear hcc210 hce210
                              have HR210_0 := Aside0.mk hi210_0
                              have HC210_0 := Aside0.mk hl210_0
                              clear hi210_0 hl210_0
                              replace p210 := eq_true p210
                              replace q210 := eq_true q210
                              have p211 : 0 ≤ (x7_2 : Int) := of_decide_eq_true (by first | (with_reducible assumption) | assumption)
                              have q211 : x7_2 < (t207.length : Int) := of_decide_eq_true (by first | (with_reducible assumption) | assumption)
                              obtain ⟨ad211, A211_0, c211_0, e211, hx211_0, hl211_0, hi211_0⟩ := at_L6 (Kd.S_reads' HO_5.out).2.2 x7_2 p211 q211
                              obtain rfl : ad210 = ad211 := (by injection e211)
                              obtain ⟨ce211, hce211, hMe211, hcc211⟩ := Kd.S_get HO_5.out [] x7_2 p211 (by first | exact q211 | exact of_decide_eq_true (by first | (with_reducible assumption) | assumption) | (have e_ := (Kd.S_reads' HO_5.out).1; omega))
                              obtain ⟨ve211_0, rfl, ge211_0⟩ := hMe211
                              have hv211_0 := hcc211 0 _ rfl
                              rw [Nat.add_zero, show ((Kd.slice 28 k28)).sz = 1 from rfl, Nat.mul_one] at hv211_0
                              replace hv211_0 := Option.some.inj (hv211_0.symm.trans hx211_0)
                              rw [hv211_0] at ge211_0
                              have HL211_0 := Aside0.mk (show Kd.R k28 28 _ _ _ _ (rd_L6 t207 x7_2) from ge211_0)
                              clear hv211_0 ge211_0
                              clear hcc211 hce211
                              have HR211_0 := Aside0.mk hi211_0
                              have HC211_0 := Aside0.mk hl211_0
                              clear hi211_0 hl211_0
                              replace p211 := eq_true p211
                              replace q211 := eq_true q211
                              have ea_ := Option.some.inj (hx210_0.symm.trans hx211_0)
                              injection ea_ with ea_ en_ ec_
                              subst ea_
                              subst ec_
                              clear en_
                              have p212 : 0 ≤ (0 : Int) := (by omega)
                              have q212 : 0 < ((rd_L6 t207 x7_2).length : Int) := of_decide_eq_true (by first | (with_reducible assumption) | assumption)
                              obtain ⟨ad212, e212, hx212_0, hx212_1⟩ := at_T28 (by repeat (first | (with_reducible exact HR211_0.out) | (with_reducible refine Kd.C_alloc ?_ _) | (with_reducible refine Kd.C_drewN ?_ _) | (with_reducible refine Kd.C_drew ?_) | exact HR211_0.out)) 0 p212 q212
                              cases e212
                              have qi212 : (0 < (rd_L6 t207 x7_2).length) = True := eq_true (by omega)
                              (try rw [show ((0 : Int)).toNat = 0 from rfl] at hx212_0)
                              (try rw [show 0 * 2 = 0 from rfl] at hx212_0)
                              (try rw [Addr.add_zero'] at hx212_0)
                              (try rw [show ((0 : Int)).toNat = 0 from rfl] at hx212_1)
                              (try rw [show 0 * 2 = 0 from rfl] at hx212_1)
                              (try rw [Addr.add_zero'] at hx212_1)
                              replace p212 := eq_true p212
                              replace q212 := eq_true q212
                              have p213 : 0 ≤ ((ji17) : Int) := of_decide_eq_true (by first | (with_reducible assumption) | assumption)
                              have q213 : (ji17) < (t207.length : Int) := of_decide_eq_true (by first | (with_reducible assumption) | assumption)
                              obtain ⟨ad213, A213_0, c213_0, e213, hx213_0, hl213_0, hi213_0⟩ := at_L6 (Kd.S_reads' HO_5.out).2.2 (ji17) p213 q213
                              obtain rfl : ad210 = ad213 := (by injection e213)
                              obtain ⟨ce213, hce213, hMe213, hcc213⟩ := Kd.S_get HO_5.out [] (ji17) p213 (by first | exact q213 | exact of_decide_eq_true (by first | (with_reducible assumption) | assumption) | (have e_ := (Kd.S_reads' HO_5.out).1; omega))
                              obtain ⟨ve213_0, rfl, ge213_0⟩ := hMe213
                              have hv213_0 := hcc213 0 _ rfl
                              rw [Nat.add_zero, show ((Kd.slice 28 k28)).sz = 1 from rfl, Nat.mul_one] at hv213_0
                              replace hv213_0 := Option.some.inj (hv213_0.symm.trans hx213_0)
                              rw [hv213_0] at ge213_0
                              have HL213_0 := Aside0.mk (show Kd.R k28 28 _ _ _ _ (rd_L6 t207 (ji17)) from ge213_0)
                              clear hv213_0 ge213_0
                              clear hcc213 hce213
                              have HR213_0 := Aside0.mk hi213_0
                              have HC213_0 := Aside0.mk hl213_0
                              clear hi213_0 hl213_0
                              replace p213 := eq_true p213
                              replace q213 := eq_true q213
                              have p214 : 0 ≤ (0 : Int) := (by omega)
                              have q214 : 0 < ((rd_L6 t207 (ji17)).length : Int) := of_decide_eq_true (by first | (with_reducible assumption) | assumption)
                              obtain ⟨ad214, e214, hx214_0, hx214_1⟩ := at_T28 (by repeat (first | (with_reducible exact HR213_0.out) | (with_reducible refine Kd.C_alloc ?_ _) | (with_reducible refine Kd.C_drewN ?_ _) | (with_reducible refine Kd.C_drew ?_) | exact HR213_0.out)) 0 p214 q214
                              cases e214
                              have qi214 : (0 < (rd_L6 t207 (ji17)).length) = True := eq_true (by omega)
                              (try rw [show ((0 : Int)).toNat = 0 from rfl] at hx214_0)
                              (try rw [show 0 * 2 = 0 from rfl] at hx214_0)
                              (try rw [Addr.add_zero'] at hx214_0)
                              (try rw [show ((0 : Int)).toNat = 0 from rfl] at hx214_1)
                              (try rw [show 0 * 2 = 0 from rfl] at hx214_1)
                              (try rw [Addr.add_zero'] at hx214_1)
                              replace p214 := eq_true p214
                              replace q214 := eq_true q214
                              go_wp2
                              repeat (go_quiet (fail); try go_wp2)
                              go_meet
                              case rel => exact ⟨_, ((((rd_T28 (rd_L6 t207 x7_2) 0).f1) == ((rd_T28 (rd_L6 t207 (ji17)) 0).f1))), (by first | rfl | (simp; done) | (simp only [← hji17] <;> (first | rfl | simp)) | (simp [*]; done)), H', ⟨by have := HJ2.out; have := HK2.out; first | omega | exact Nat.le_refl _⟩, ⟨by (with_reducible repeat (first | apply Kd.S_alloc | apply Kd.S_drewN | apply Kd.S_drew)); exact HO_5.out⟩, ⟨by (with_reducible repeat (first | apply Kd.R_alloc | apply Kd.R_drewN | apply Kd.R_drew)); exact HO_6.out⟩, ⟨by repeat (first | (with_reducible first | exact HB.out | apply below_alloc | apply pw_below_drewN | apply below_drew1) | exact HB.out)⟩⟩
                            · rw [if_neg c20] at H
                              exact absurd H (by simp)
                          · rw [if_neg c19] at H
                            exact absurd H (by simp)
                        · rw [if_neg c18] at H
                          exact absurd H (by simp)
                      · rw [if_neg c16] at H
                        exact absurd H (by simp)
                    · rw [if_neg c15] at H
                      have c15b0 : decide (0 < x7_2) = false := decide_eq_false c15
                      clear c15
                      have H' := Aside0.mk H
                      clear H
                      have p210 : 0 ≤ (x7_2 : Int) := of_decide_eq_true (by first | (with_reducible assumption) | assumption)
                      have q210 : x7_2 < (t207.length : Int) := of_decide_eq_true (by first | (with_reducible assumption) | assumption)
                      obtain ⟨ad210, A210_0, c210_0, e210, hx210_0, hl210_0, hi210_0⟩ := at_L6 (Kd.S_reads' HO_5.out).2.2 x7_2 p210 q210
                      cases e210
                      obtain ⟨ce210, hce210, hMe210, hcc210⟩ := Kd.S_get HO_5.out [] x7_2 p210 (by first | exact q210 | exact of_decide_eq_true (by first | (with_reducible assumption) | assumption) | (have e_ := (Kd.S_reads' HO_5.out).1; omega))
                      obtain ⟨ve210_0, rfl, ge210_0⟩ := hMe210
                      have hv210_0 := hcc210 0 _ rfl
                      rw [Nat.add_zero, show ((Kd.slice 28 k28)).sz = 1 from rfl, Nat.mul_one] at hv210_0
                      replace hv210_0 := Option.some.inj (hv210_0.symm.trans hx210_0)
                      rw [hv210_0] at ge210_0
                      have HL210_0 := Aside0.mk (show Kd.R k28 28 _ _ _ _ (rd_L6 t207 x7_2) from ge210_0)
                      clear hv210_0 ge210_0
                      clear hcc210 hce210
                      have HR210_0 := Aside0.mk hi210_0
                      have HC210_0 := Aside0.mk hl210_0
                      clear hi210_0 hl210_0
                      replace p210 := eq_true p210
                      replace q210 := eq_true q210
                      go_wp2
                      repeat (go_quiet (fail); try go_wp2)
                      go_meet
                      case rel => exact ⟨_, (false), (by first | rfl | (simp; done) | (simp [*]; done)), H', ⟨by have := HJ2.out; have := HK2.out; first | omega | exact Nat.le_refl _⟩, ⟨by (with_reducible repeat (first | apply Kd.S_alloc | apply Kd.S_drewN | apply Kd.S_drew)); exact HO_5.out⟩, ⟨by (with_reducible repeat (first | apply Kd.R_alloc | apply Kd.R_drewN | apply Kd.R_drew)); exact HO_6.out⟩, ⟨by repeat (first | (with_reducible first | exact HB.out | apply below_alloc | apply pw_below_drewN | apply below_drew1) | exact HB.out)⟩⟩
                · rw [if_neg c13] at H
                  exact absurd H (by simp)
              case rest =>
                clear HC11
                try clear c1
                try clear c2
                try clear p2
                try clear q2
                try clear hx2
                try clear qi2
                try clear c4
                try clear c4b0
                try clear c4b1
                try clear c5
                try clear p6
                try clear c10
                try clear c10b0
                try clear c13
                try clear c13b0
                try clear c14
                try clear c14b0
                try clear c14b1
                try clear c14b2
                try clear c15
                try clear c15b0
                try clear c16
                try clear c16b0
                try clear c16b1
                try clear c18
                try clear c18b0
                try clear c19
                try clear c19b0
                try clear c20
                try clear c20b0
                try clear c20b1
                try clear hx210_0
                try clear hx211_0
                try clear hx212_0
                try clear hx212_1
                try clear hx213_0
                try clear hx214_0
                try clear hx214_1
                try clear p2
                try clear p210
                try clear p211
                try clear p212
                try clear p213
                try clear p214
                try clear q210
                try clear q211
                try clear q212
                try clear q213
                try clear q214
                obtain ⟨kq, x53_10, rfl, HA, HJ10, HO_5, HO_6, HB⟩ := hcut
                cases kq with
                | zero => exact absurd HA.out (by simp [flonglaw03_CellsSame.j2])
                | succ kj10 =>
                  have H := HA.out
                  clear HA
                  simp only [flonglaw03_CellsSame.j2] at H
                  by_cases c21 : x53_10 = true
                  · subst c21
                    have H1 : (some false) = some r := by rw [if_pos rfl] at H; exact H
                    clear H
                    have H := H1
                    clear H1
                    obtain rfl := Option.some.inj H
                    go_wp2
                    repeat (go_quiet (fail); try go_wp2)
                    go_ret
                    exact ⟨by first | rfl | (simp [errW_none, errW_some] <;> rfl) | (simp [*, errW_none, errW_some] <;> rfl), by repeat (first | (with_reducible first | exact HB.out | apply below_alloc | apply pw_below_drewN | apply below_drew1) | exact HB.out)⟩
                  · replace c21 := Bool.eq_false_iff.mpr c21
                    subst c21
                    have H1 : (flonglaw03_CellsSame.l1 kj10 l0 l1 t207 x6_2 x7_2 0) = some r := by rw [if_neg (show ¬ (false = true) by decide)] at H; exact H
                    clear H
                    have H := H1
                    clear H1
                    have H' := Aside0.mk H
                    clear H
                    go_wp2
                    repeat (go_quiet (fail); try go_wp2)
                    go_loopg [8] kj10 (fun kq v8 w' => ∃ (x8_4 : Int), v8 = .int .i64 x8_4 ∧ Aside0 (flonglaw03_CellsSame.l1 kq l0 l1 t207 x6_2 x7_2 x8_4 = some r) ∧ Aside0 (kq ≤ kj10) ∧ Aside0 (Kd.S (Kd.slice 28 k28) 22 w' w.heap.size (fun k_ => some k_ ≠ (u6 : Value).ownBlock) (.slice Ao12 t207.length co12) t207) ∧ Aside0 (Kd.R k28 28 w' w.heap.size (fun _ => True) u6 x6_2) ∧ Aside0 (Below w.heap.size w w'))
                    case atStart => exact ⟨(0), (by first | rfl | (simp; done) | (simp [*]; done)), H', ⟨Nat.le_refl _⟩, ⟨by (with_reducible repeat (first | apply Kd.S_alloc | apply Kd.S_drewN | apply Kd.S_drew)); exact HO_5.out⟩, ⟨by (with_reducible repeat (first | apply Kd.R_alloc | apply Kd.R_drewN | apply Kd.R_drew)); exact HO_6.out⟩, ⟨by repeat (first | (with_reducible first | exact HB.out | apply below_alloc | apply pw_below_drewN | apply below_drew1) | exact HB.out)⟩⟩
                    case round =>
                      clear H'
                      try clear c1
                      try clear c2
                      try clear p2
                      try clear q2
                      try clear hx2
                      try clear qi2
                      try clear c4
                      try clear c4b0
                      try clear c4b1
                      try clear c5
                      try clear p6
                      try clear c10
                      try clear c10b0
                      try clear c13
                      try clear c13b0
                      try clear c14
                      try clear c14b0
                      try clear c14b1
                      try clear c14b2
                      try clear c15
                      try clear c15b0
                      try clear c16
                      try clear c16b0
                      try clear c16b1
                      try clear c18
                      try clear c18b0
                      try clear c19
                      try clear c19b0
                      try clear c20
                      try clear c20b0
                      try clear c20b1
                      try clear c21
                      try clear p21
                      try clear q21
                      try clear hx21
                      try clear qi21
                      try clear hx210_0
                      try clear hx211_0
                      try clear hx212_0
                      try clear hx212_1
                      try clear hx213_0
                      try clear hx214_0
                      try clear hx214_1
                      try clear p2
                      try clear p210
                      try clear p211
                      try clear p212
                      try clear p213
                      try clear p214
                      try clear p6
                      try clear q2
                      try clear q210
                      try clear q211
                      try clear q212
                      try clear q213
                      try clear q214
                      obtain ⟨x8_4, rfl, HA, HK4, HO_5, HO_6, HB⟩ := hrel
                      cases gk with
                      | zero => exact absurd HA.out (by simp [flonglaw03_CellsSame.l1])
                      | succ k4 =>
                        have H := HA.out
                        clear HA
                        simp only [flonglaw03_CellsSame.l1] at H
                        by_cases c22 : 0 ≤ x7_2
                        · rw [if_pos c22] at H
                          have c22b0 : decide (0 ≤ x7_2) = true := decide_eq_true c22
                          clear c22
                          by_cases c23 : x7_2 < (t207.length : Int)
                          · rw [if_pos c23] at H
                            have c23b0 : decide (x7_2 < (t207.length : Int)) = true := decide_eq_true c23
                            clear c23
                            by_cases c24 : x8_4 < ((rd_L6 t207 x7_2).length : Int)
                            · rw [if_pos c24] at H
                              have c24b0 : decide (x8_4 < ((rd_L6 t207 x7_2).length : Int)) = true := decide_eq_true c24
                              clear c24
                              by_cases c25 : 0 ≤ x8_4
                              · rw [if_pos c25] at H
                                have c25b0 : decide (0 ≤ x8_4) = true := decide_eq_true c25
                                clear c25
                                by_cases c26 : 0 < ((rd_L6 t207 x7_2).length : Int)
                                · rw [if_pos c26] at H
                                  have c26b0 : decide (0 < ((rd_L6 t207 x7_2).length : Int)) = true := decide_eq_true c26
                                  have c26b1 : decide (0 < (rd_L6 t207 x7_2).length) = true := decide_eq_true (by omega)
                                  clear c26
                                  by_cases c27 : ((rd_T28 (rd_L6 t207 x7_2) x8_4).f1) = ((rd_T28 (rd_L6 t207 x7_2) 0).f1)
                                  · rw [if_pos c27] at H
                                    have c27b0 : (((rd_T28 (rd_L6 t207 x7_2) x8_4).f1) == ((rd_T28 (rd_L6 t207 x7_2) 0).f1)) = true := beq_iff_eq.mpr c27
                                    have c27b1 : (((rd_T28 (rd_L6 t207 x7_2) x8_4).f1) != ((rd_T28 (rd_L6 t207 x7_2) 0).f1)) = false := bne_eq_false_iff_eq.mpr c27
                                    clear c27
                                    have H' := Aside0.mk H
                                    clear H
                                    have p215 : 0 ≤ (x7_2 : Int) := of_decide_eq_true (by first | (with_reducible assumption) | assumption)
                                    have q215 : x7_2 < (t207.length : Int) := of_decide_eq_true (by first | (with_reducible assumption) | assumption)
                                    obtain ⟨ad215, A215_0, c215_0, e215, hx215_0, hl215_0, hi215_0⟩ := at_L6 (Kd.S_reads' HO_5.out).2.2 x7_2 p215 q215
                                    cases e215
                                    obtain ⟨ce215, hce215, hMe215, hcc215⟩ := Kd.S_get HO_5.out [] x7_2 p215 (by first | exact q215 | exact of_decide_eq_true (by first | (with_reducible assumption) | assumption) | (have e_ := (Kd.S_reads' HO_5.out).1; omega))
                                    obtain ⟨ve215_0, rfl, ge215_0⟩ := hMe215
                                    have hv215_0 := hcc215 0 _ rfl
                                    rw [Nat.add_zero, show ((Kd.slice 28 k28)).sz = 1 from rfl, Nat.mul_one] at hv215_0
                                    replace hv215_0 := Option.some.inj (hv215_0.symm.trans hx215_0)
                                    rw [hv215_0] at ge215_0
                                    have HL215_0 := Aside0.mk (show Kd.R k28 28 _ _ _ _ (rd_L6 t207 x7_2) from ge215_0)
                                    clear hv215_0 ge215_0
                                    clear hcc215 hce215
                                    have HR215_0 := Aside0.mk hi215_0
                                    have HC215_0 := Aside0.mk hl215_0
                                    clear hi215_0 hl215_0
                                    replace p215 := eq_true p215
                                    replace q215 := eq_true q215
                                    have p216 : 0 ≤ (x7_2 : Int) := of_decide_eq_true (by first | (with_reducible assumption) | assumption)
                                    have q216 : x7_2 < (t207.length : Int) := of_decide_eq_true (by first | (with_reducible assumption) | assumption)
                                    obtain ⟨ad216, A216_0, c216_0, e216, hx216_0, hl216_0, hi216_0⟩ := at_L6 (Kd.S_reads' HO_5.out).2.2 x7_2 p216 q216
                                    obtain rfl : ad215 = ad216 := (by injection e216)
                                    obtain ⟨ce216, hce216, hMe216, hcc216⟩ := Kd.S_get HO_5.out [] x7_2 p216 (by first | exact q216 | exact of_decide_eq_true (by first | (with_reducible assumption) | assumption) | (have e_ := (Kd.S_reads' HO_5.out).1; omega))
                                    obtain ⟨ve216_0, rfl, ge216_0⟩ := hMe216
                                    have hv216_0 := hcc216 0 _ rfl
                                    rw [Nat.add_zero, show ((Kd.slice 28 k28)).sz = 1 from rfl, Nat.mul_one] at hv216_0
                                    replace hv216_0 := Option.some.inj (hv216_0.symm.trans hx216_0)
                                    rw [hv216_0] at ge216_0
                                    have HL216_0 := Aside0.mk (show Kd.R k28 28 _ _ _ _ (rd_L6 t207 x7_2) from ge216_0)
                                    clear hv216_0 ge216_0
                                    clear hcc216 hce216
                                    have HR216_0 := Aside0.mk hi216_0
                                    have HC216_0 := Aside0.mk hl216_0
                                    clear hi216_0 hl216_0
                                    replace p216 := eq_true p216
                                    replace q216 := eq_true q216
                                    have ea_ := Option.some.inj (hx215_0.symm.trans hx216_0)
                                    injection ea_ with ea_ en_ ec_
                                    subst ea_
                                    subst ec_
                                    clear en_
                                    have p217 : 0 ≤ (x8_4 : Int) := of_decide_eq_true (by first | (with_reducible assumption) | assumption)
                                    have q217 : x8_4 < ((rd_L6 t207 x7_2).length : Int) := of_decide_eq_true (by first | (with_reducible assumption) | assumption)
                                    obtain ⟨ad217, e217, hx217_0, hx217_1⟩ := at_T28 (by repeat (first | (with_reducible exact HR216_0.out) | (with_reducible refine Kd.C_alloc ?_ _) | (with_reducible refine Kd.C_drewN ?_ _) | (with_reducible refine Kd.C_drew ?_) | exact HR216_0.out)) x8_4 p217 q217
                                    cases e217
                                    replace p217 := eq_true p217
                                    replace q217 := eq_true q217
                                    have p218 : 0 ≤ (x7_2 : Int) := of_decide_eq_true (by first | (with_reducible assumption) | assumption)
                                    have q218 : x7_2 < (t207.length : Int) := of_decide_eq_true (by first | (with_reducible assumption) | assumption)
                                    obtain ⟨ad218, A218_0, c218_0, e218, hx218_0, hl218_0, hi218_0⟩ := at_L6 (Kd.S_reads' HO_5.out).2.2 x7_2 p218 q218
                                    obtain rfl : ad215 = ad218 := (by injection e218)
                                    obtain ⟨ce218, hce218, hMe218, hcc218⟩ := Kd.S_get HO_5.out [] x7_2 p218 (by first | exact q218 | exact of_decide_eq_true (by first | (with_reducible assumption) | assumption) | (have e_ := (Kd.S_reads' HO_5.out).1; omega))
                                    obtain ⟨ve218_0, rfl, ge218_0⟩ := hMe218
                                    have hv218_0 := hcc218 0 _ rfl
                                    rw [Nat.add_zero, show ((Kd.slice 28 k28)).sz = 1 from rfl, Nat.mul_one] at hv218_0
                                    replace hv218_0 := Option.some.inj (hv218_0.symm.trans hx218_0)
                                    rw [hv218_0] at ge218_0
                                    have HL218_0 := Aside0.mk (show Kd.R k28 28 _ _ _ _ (rd_L6 t207 x7_2) from ge218_0)
                                    clear hv218_0 ge218_0
                                    clear hcc218 hce218
                                    have HR218_0 := Aside0.mk hi218_0
                                    have HC218_0 := Aside0.mk hl218_0
                                    clear hi218_0 hl218_0
                                    replace p218 := eq_true p218
                                    replace q218 := eq_true q218
                                    have ea_ := Option.some.inj (hx215_0.symm.trans hx218_0)
                                    injection ea_ with ea_ en_ ec_
                                    subst ea_
                                    subst ec_
                                    clear en_
                                    have p219 : 0 ≤ (0 : Int) := (by omega)
                                    have q219 : 0 < ((rd_L6 t207 x7_2).length : Int) := of_decide_eq_true (by first | (with_reducible assumption) | assumption)
                                    obtain ⟨ad219, e219, hx219_0, hx219_1⟩ := at_T28 (by repeat (first | (with_reducible exact HR218_0.out) | (with_reducible refine Kd.C_alloc ?_ _) | (with_reducible refine Kd.C_drewN ?_ _) | (with_reducible refine Kd.C_drew ?_) | exact HR218_0.out)) 0 p219 q219
                                    cases e219
                                    have qi219 : (0 < (rd_L6 t207 x7_2).length) = True := eq_true (by omega)
                                    (try rw [show ((0 : Int)).toNat = 0 from rfl] at hx219_0)
                                    (try rw [show 0 * 2 = 0 from rfl] at hx219_0)
                                    (try rw [Addr.add_zero'] at hx219_0)
                                    (try rw [show ((0 : Int)).toNat = 0 from rfl] at hx219_1)
                                    (try rw [show 0 * 2 = 0 from rfl] at hx219_1)
                                    (try rw [Addr.add_zero'] at hx219_1)
                                    replace p219 := eq_true p219
                                    replace q219 := eq_true q219
                                    go_wp2
                                    repeat (go_quiet (fail); try go_wp2)
                                    go_roundg k4
                                    case measure => have := HJ2.out; have := HK2.out; have := HJ10.out; have := HK4.out; omega
                                    case rel => exact ⟨(wrap64 (x8_4 + 1)), (by first | rfl | (simp; done) | (simp [*]; done)), H', ⟨by have := HJ2.out; have := HK2.out; have := HJ10.out; have := HK4.out; omega⟩, ⟨by (with_reducible repeat (first | apply Kd.S_alloc | apply Kd.S_drewN | apply Kd.S_drew)); exact HO_5.out⟩, ⟨by (with_reducible repeat (first | apply Kd.R_alloc | apply Kd.R_drewN | apply Kd.R_drew)); exact HO_6.out⟩, ⟨by repeat (first | (with_reducible first | exact HB.out | apply below_alloc | apply pw_below_drewN | apply below_drew1) | exact HB.out)⟩⟩
                                  · rw [if_neg c27] at H
                                    have c27b0 : (((rd_T28 (rd_L6 t207 x7_2) x8_4).f1) == ((rd_T28 (rd_L6 t207 x7_2) 0).f1)) = false := beq_eq_false_iff_ne.mpr c27
                                    have c27b1 : (((rd_T28 (rd_L6 t207 x7_2) x8_4).f1) != ((rd_T28 (rd_L6 t207 x7_2) 0).f1)) = true := bne_iff_ne.mpr c27
                                    obtain rfl := Option.some.inj H
                                    have p215 : 0 ≤ (x7_2 : Int) := of_decide_eq_true (by first | (with_reducible assumption) | assumption)
                                    have q215 : x7_2 < (t207.length : Int) := of_decide_eq_true (by first | (with_reducible assumption) | assumption)
                                    obtain ⟨ad215, A215_0, c215_0, e215, hx215_0, hl215_0, hi215_0⟩ := at_L6 (Kd.S_reads' HO_5.out).2.2 x7_2 p215 q215
                                    cases e215
                                    obtain ⟨ce215, hce215, hMe215, hcc215⟩ := Kd.S_get HO_5.out [] x7_2 p215 (by first | exact q215 | exact of_decide_eq_true (by first | (with_reducible assumption) | assumption) | (have e_ := (Kd.S_reads' HO_5.out).1; omega))
                                    obtain ⟨ve215_0, rfl, ge215_0⟩ := hMe215
                                    have hv215_0 := hcc215 0 _ rfl
                                    rw [Nat.add_zero, show ((Kd.slice 28 k28)).sz = 1 from rfl, Nat.mul_one] at hv215_0
                                    replace hv215_0 := Option.some.inj (hv215_0.symm.trans hx215_0)
                                    rw [hv215_0] at ge215_0
                                    have HL215_0 := Aside0.mk (show Kd.R k28 28 _ _ _ _ (rd_L6 t207 x7_2) from ge215_0)
                                    clear hv215_0 ge215_0
                                    clear hcc215 hce215
                                    have HR215_0 := Aside0.mk hi215_0
                                    have HC215_0 := Aside0.mk hl215_0
                                    clear hi215_0 hl215_0
                                    replace p215 := eq_true p215
                                    replace q215 := eq_true q215
                                    have p216 : 0 ≤ (x7_2 : Int) := of_decide_eq_true (by first | (with_reducible assumption) | assumption)
                                    have q216 : x7_2 < (t207.length : Int) := of_decide_eq_true (by first | (with_reducible assumption) | assumption)
                                    obtain ⟨ad216, A216_0, c216_0, e216, hx216_0, hl216_0, hi216_0⟩ := at_L6 (Kd.S_reads' HO_5.out).2.2 x7_2 p216 q216
                                    obtain rfl : ad215 = ad216 := (by injection e216)
                                    obtain ⟨ce216, hce216, hMe216, hcc216⟩ := Kd.S_get HO_5.out [] x7_2 p216 (by first | exact q216 | exact of_decide_eq_true (by first | (with_reducible assumption) | assumption) | (have e_ := (Kd.S_reads' HO_5.out).1; omega))
                                    obtain ⟨ve216_0, rfl, ge216_0⟩ := hMe216
                                    have hv216_0 := hcc216 0 _ rfl
                                    rw [Nat.add_zero, show ((Kd.slice 28 k28)).sz = 1 from rfl, Nat.mul_one] at hv216_0
                                    replace hv216_0 := Option.some.inj (hv216_0.symm.trans hx216_0)
                                    rw [hv216_0] at ge216_0
                                    have HL216_0 := Aside0.mk (show Kd.R k28 28 _ _ _ _ (rd_L6 t207 x7_2) from ge216_0)
                                    clear hv216_0 ge216_0
                                    clear hcc216 hce216
                                    have HR216_0 := Aside0.mk hi216_0
                                    have HC216_0 := Aside0.mk hl216_0
                                    clear hi216_0 hl216_0
                                    replace p216 := eq_true p216
                                    replace q216 := eq_true q216
                                    have ea_ := Option.some.inj (hx215_0.symm.trans hx216_0)
                                    injection ea_ with ea_ en_ ec_
                                    subst ea_
                                    subst ec_
                                    clear en_
                                    have p217 : 0 ≤ (x8_4 : Int) := of_decide_eq_true (by first | (with_reducible assumption) | assumption)
                                    have q217 : x8_4 < ((rd_L6 t207 x7_2).length : Int) := of_decide_eq_true (by first | (with_reducible assumption) | assumption)
                                    obtain ⟨ad217, e217, hx217_0, hx217_1⟩ := at_T28 (by repeat (first | (with_reducible exact HR216_0.out) | (with_reducible refine Kd.C_alloc ?_ _) | (with_reducible refine Kd.C_drewN ?_ _) | (with_reducible refine Kd.C_drew ?_) | exact HR216_0.out)) x8_4 p217 q217
                                    cases e217
                                    replace p217 := eq_true p217
                                    replace q217 := eq_true q217
                                    have p218 : 0 ≤ (x7_2 : Int) := of_decide_eq_true (by first | (with_reducible assumption) | assumption)
                                    have q218 : x7_2 < (t207.length : Int) := of_decide_eq_true (by first | (with_reducible assumption) | assumption)
                                    obtain ⟨ad218, A218_0, c218_0, e218, hx218_0, hl218_0, hi218_0⟩ := at_L6 (Kd.S_reads' HO_5.out).2.2 x7_2 p218 q218
                                    obtain rfl : ad215 = ad218 := (by injection e218)
                                    obtain ⟨ce218, hce218, hMe218, hcc218⟩ := Kd.S_get HO_5.out [] x7_2 p218 (by first | exact q218 | exact of_decide_eq_true (by first | (with_reducible assumption) | assumption) | (have e_ := (Kd.S_reads' HO_5.out).1; omega))
                                    obtain ⟨ve218_0, rfl, ge218_0⟩ := hMe218
                                    have hv218_0 := hcc218 0 _ rfl
                                    rw [Nat.add_zero, show ((Kd.slice 28 k28)).sz = 1 from rfl, Nat.mul_one] at hv218_0
                                    replace hv218_0 := Option.some.inj (hv218_0.symm.trans hx218_0)
                                    rw [hv218_0] at ge218_0
                                    have HL218_0 := Aside0.mk (show Kd.R k28 28 _ _ _ _ (rd_L6 t207 x7_2) from ge218_0)
                                    clear hv218_0 ge218_0
                                    clear hcc218 hce218
                                    have HR218_0 := Aside0.mk hi218_0
                                    have HC218_0 := Aside0.mk hl218_0
                                    clear hi218_0 hl218_0
                                    replace p218 := eq_true p218
                                    replace q218 := eq_true q218
                                    have ea_ := Option.some.inj (hx215_0.symm.trans hx218_0)
                                    injection ea_ with ea_ en_ ec_
                                    subst ea_
                                    subst ec_
                                    clear en_
                                    have p219 : 0 ≤ (0 : Int) := (by omega)
                                    have q219 : 0 < ((rd_L6 t207 x7_2).length : Int) := of_decide_eq_true (by first | (with_reducible assumption) | assumption)
                                    obtain ⟨ad219, e219, hx219_0, hx219_1⟩ := at_T28 (by repeat (first | (with_reducible exact HR218_0.out) | (with_reducible refine Kd.C_alloc ?_ _) | (with_reducible refine Kd.C_drewN ?_ _) | (with_reducible refine Kd.C_drew ?_) | exact HR218_0.out)) 0 p219 q219
                                    cases e219
                                    have qi219 : (0 < (rd_L6 t207 x7_2).length) = True := eq_true (by omega)
                                    (try rw [show ((0 : Int)).toNat = 0 from rfl] at hx219_0)
                                    (try rw [show 0 * 2 = 0 from rfl] at hx219_0)
                                    (try rw [Addr.add_zero'] at hx219_0)
                                    (try rw [show ((0 : Int)).toNat = 0 from rfl] at hx219_1)
                                    (try rw [show 0 * 2 = 0 from rfl] at hx219_1)
                                    (try rw [Addr.add_zero'] at hx219_1)
                                    replace p219 := eq_true p219
                                    replace q219 := eq_true q219
                                    go_wp2
                                    repeat (go_quiet (fail); try go_wp2)
                                    go_ret
                                    exact ⟨by first | rfl | (simp [errW_none, errW_some] <;> rfl) | (simp [*, errW_none, errW_some] <;> rfl), by repeat (first | (with_reducible first | exact HB.out | apply below_alloc | apply pw_below_drewN | apply below_drew1) | exact HB.out)⟩
                                · rw [if_neg c26] at H
                                  exact absurd H (by simp)
                              · rw [if_neg c25] at H
                                exact absurd H (by simp)
                            · rw [if_neg c24] at H
                              have c24b0 : decide (x8_4 < ((rd_L6 t207 x7_2).length : Int)) = false := decide_eq_false c24
                              clear c24
                              by_cases c28 : x6_2.length + (rd_L6 t207 x7_2).length < 17592186044416
                              · rw [if_pos c28] at H
                                have LMc28 := Aside0.mk c28
                                clear c28
                                obtain ⟨y221, hy221⟩ : ∃ y_ : List (S28), y_ = (x6_2 ++ (rd_L6 t207 x7_2)) := ⟨_, rfl⟩
                                replace H : (flonglaw03_CellsSame.l0 k4 l0 l1 t207 y221 (wrap64 (x7_2 + 1))) = some r := by first | (rw [hy221]; with_reducible exact H) | (have H2_ := (Option.bind_some _ _).symm.trans H; rw [hy221]; with_reducible exact H2_) | (have H2_ := (Option.bind_some _ _).symm.trans H; with_reducible exact H2_) | with_reducible exact H | (rw [hy221]; exact H) | exact H
                                have Ny221 := Aside0.mk hy221
                                clear hy221
                                have H' := Aside0.mk H
                                clear H
                                have p215 : 0 ≤ (x7_2 : Int) := of_decide_eq_true (by first | (with_reducible assumption) | assumption)
                                have q215 : x7_2 < (t207.length : Int) := of_decide_eq_true (by first | (with_reducible assumption) | assumption)
                                obtain ⟨ad215, A215_0, c215_0, e215, hx215_0, hl215_0, hi215_0⟩ := at_L6 (Kd.S_reads' HO_5.out).2.2 x7_2 p215 q215
                                cases e215
                                obtain ⟨ce215, hce215, hMe215, hcc215⟩ := Kd.S_get HO_5.out [] x7_2 p215 (by first | exact q215 | exact of_decide_eq_true (by first | (with_reducible assumption) | assumption) | (have e_ := (Kd.S_reads' HO_5.out).1; omega))
                                obtain ⟨ve215_0, rfl, ge215_0⟩ := hMe215
                                have hv215_0 := hcc215 0 _ rfl
                                rw [Nat.add_zero, show ((Kd.slice 28 k28)).sz = 1 from rfl, Nat.mul_one] at hv215_0
                                replace hv215_0 := Option.some.inj (hv215_0.symm.trans hx215_0)
                                rw [hv215_0] at ge215_0
                                have HL215_0 := Aside0.mk (show Kd.R k28 28 _ _ _ _ (rd_L6 t207 x7_2) from ge215_0)
                                clear hv215_0 ge215_0
                                clear hcc215 hce215
                                have HR215_0 := Aside0.mk hi215_0
                                have HC215_0 := Aside0.mk hl215_0
                                clear hi215_0 hl215_0
                                replace p215 := eq_true p215
                                replace q215 := eq_true q215
                                have p220 : 0 ≤ (x7_2 : Int) := of_decide_eq_true (by first | (with_reducible assumption) | assumption)
                                have q220 : x7_2 < (t207.length : Int) := of_decide_eq_true (by first | (with_reducible assumption) | assumption)
                                obtain ⟨ad220, A220_0, c220_0, e220, hx220_0, hl220_0, hi220_0⟩ := at_L6 (Kd.S_reads' HO_5.out).2.2 x7_2 p220 q220
                                obtain rfl : ad215 = ad220 := (by injection e220)
                                obtain ⟨ce220, hce220, hMe220, hcc220⟩ := Kd.S_get HO_5.out [] x7_2 p220 (by first | exact q220 | exact of_decide_eq_true (by first | (with_reducible assumption) | assumption) | (have e_ := (Kd.S_reads' HO_5.out).1; omega))
                                obtain ⟨ve220_0, rfl, ge220_0⟩ := hMe220
                                have hv220_0 := hcc220 0 _ rfl
                                rw [Nat.add_zero, show ((Kd.slice 28 k28)).sz = 1 from rfl, Nat.mul_one] at hv220_0
                                replace hv220_0 := Option.some.inj (hv220_0.symm.trans hx220_0)
                                rw [hv220_0] at ge220_0
                                have HL220_0 := Aside0.mk (show Kd.R k28 28 _ _ _ _ (rd_L6 t207 x7_2) from ge220_0)
                                clear hv220_0 ge220_0
                                clear hcc220 hce220
                                have HR220_0 := Aside0.mk hi220_0
                                have HC220_0 := Aside0.mk hl220_0
                                clear hi220_0 hl220_0
                                replace p220 := eq_true p220
                                replace q220 := eq_true q220
                                have ea_ := Option.some.inj (hx215_0.symm.trans hx220_0)
                                injection ea_ with ea_ en_ ec_
                                subst ea_
                                subst ec_
                                clear en_
                                go_wp2_with (first | ((with_reducible refine gate_builtin (b := .append) (xs := #[.tmp 79, .tmp 83]) rfl ?_); (try (refine gate_guard (by rfl) ?_; dsimp only)); at_builtin; refine Kd.R_append_rows k28 (w0 := w) w.heap.size rfl (.tmp 79) (.tmp 83) 22 28 (.agg #[(.int .i32 0), (.int .u8 0)]) 8 rfl Tryd.underlying22 info28 rfl (by decide) (by omega) u6 x6_2 (rd_L6 t207 x7_2) _ _ _ (fun _ => True) (fun _ => False) rfl rfl ?aO ?aR (fun _ _ h => h) (fun _ h => h.elim) ?aF ?aB ?aS ?aL ?_; (case aR => repeat (first | exact (by repeat (first | (with_reducible exact HR220_0.out) | (with_reducible refine Kd.C_alloc ?_ _) | (with_reducible refine Kd.C_drewN ?_ _) | (with_reducible refine Kd.C_drew ?_) | exact HR220_0.out)) | (with_reducible refine Kd.C_alloc ?_ _) | (with_reducible refine Kd.C_drewN ?_ _) | (with_reducible refine Kd.C_drew ?_))); (case aB => exact (by repeat (first | (with_reducible first | exact HB.out | apply below_alloc | apply pw_below_drewN | apply below_drew1) | exact HB.out))); (case aF => exact (fun _ _ => trivial)); (case aO => exact (by (with_reducible repeat (first | apply Kd.R_alloc | apply Kd.R_drewN | apply Kd.R_drew)); exact HO_6.out)); (case aS => exact (below_size (by repeat (first | (with_reducible first | exact HB.out | apply below_alloc | apply pw_below_drewN | apply below_drew1) | exact HB.out)))); (case aL => have := LMc28.out; omega); intro v222 w29 ho hb hg hat; rw [← Ny221.out] at ho; have n0_ := Aside0.mk (Kd.S_after (ok := (fun _ => True)) (by (with_reducible repeat (first | apply Kd.S_alloc | apply Kd.S_drewN | apply Kd.S_drew)); exact Kd.S_mono HO_5.out (fun _ hk => ⟨trivial, hk⟩)) hg hat); have n1_ := Aside0.mk (Kd.R_after (ok := (fun k_ => some k_ ≠ (.slice (some ad215) t207.length co12 : Value).ownBlock)) (by (with_reducible repeat (first | apply Kd.R_alloc | apply Kd.R_drewN | apply Kd.R_drew)); exact Kd.R_mono HL215_0.out (fun _ hk => ⟨hk.2, hk.1⟩)) hg hat); have n2_ := Aside0.mk (Kd.R_after (ok := (fun k_ => some k_ ≠ (.slice (some ad215) t207.length co12 : Value).ownBlock)) (by (with_reducible repeat (first | apply Kd.R_alloc | apply Kd.R_drewN | apply Kd.R_drew)); exact Kd.R_mono HL220_0.out (fun _ hk => ⟨hk.2, hk.1⟩)) hg hat); have n3_ := Aside0.mk (hb); have n4_ := Aside0.mk (ho); clear HO_5; clear HL215_0; clear HL220_0; clear HB; clear HO_6; have HO_5 := n0_; have HL215_0 := n1_; have HL220_0 := n2_; have HB := n3_; have HO223 := n4_; clear n0_ n1_ n2_ n3_ n4_; clear ho hb hg hat))
                                repeat (go_quiet (first | ((with_reducible refine gate_builtin (b := .append) (xs := #[.tmp 79, .tmp 83]) rfl ?_); (try (refine gate_guard (by rfl) ?_; dsimp only)); at_builtin; refine Kd.R_append_rows k28 (w0 := w) w.heap.size rfl (.tmp 79) (.tmp 83) 22 28 (.agg #[(.int .i32 0), (.int .u8 0)]) 8 rfl Tryd.underlying22 info28 rfl (by decide) (by omega) u6 x6_2 (rd_L6 t207 x7_2) _ _ _ (fun _ => True) (fun _ => False) rfl rfl ?aO ?aR (fun _ _ h => h) (fun _ h => h.elim) ?aF ?aB ?aS ?aL ?_; (case aR => repeat (first | exact (by repeat (first | (with_reducible exact HR220_0.out) | (with_reducible refine Kd.C_alloc ?_ _) | (with_reducible refine Kd.C_drewN ?_ _) | (with_reducible refine Kd.C_drew ?_) | exact HR220_0.out)) | (with_reducible refine Kd.C_alloc ?_ _) | (with_reducible refine Kd.C_drewN ?_ _) | (with_reducible refine Kd.C_drew ?_))); (case aB => exact (by repeat (first | (with_reducible first | exact HB.out | apply below_alloc | apply pw_below_drewN | apply below_drew1) | exact HB.out))); (case aF => exact (fun _ _ => trivial)); (case aO => exact (by (with_reducible repeat (first | apply Kd.R_alloc | apply Kd.R_drewN | apply Kd.R_drew)); exact HO_6.out)); (case aS => exact (below_size (by repeat (first | (with_reducible first | exact HB.out | apply below_alloc | apply pw_below_drewN | apply below_drew1) | exact HB.out)))); (case aL => have := LMc28.out; omega); intro v222 w29 ho hb hg hat; rw [← Ny221.out] at ho; have n0_ := Aside0.mk (Kd.S_after (ok := (fun _ => True)) (by (with_reducible repeat (first | apply Kd.S_alloc | apply Kd.S_drewN | apply Kd.S_drew)); exact Kd.S_mono HO_5.out (fun _ hk => ⟨trivial, hk⟩)) hg hat); have n1_ := Aside0.mk (Kd.R_after (ok := (fun k_ => some k_ ≠ (.slice (some ad215) t207.length co12 : Value).ownBlock)) (by (with_reducible repeat (first | apply Kd.R_alloc | apply Kd.R_drewN | apply Kd.R_drew)); exact Kd.R_mono HL215_0.out (fun _ hk => ⟨hk.2, hk.1⟩)) hg hat); have n2_ := Aside0.mk (Kd.R_after (ok := (fun k_ => some k_ ≠ (.slice (some ad215) t207.length co12 : Value).ownBlock)) (by (with_reducible repeat (first | apply Kd.R_alloc | apply Kd.R_drewN | apply Kd.R_drew)); exact Kd.R_mono HL220_0.out (fun _ hk => ⟨hk.2, hk.1⟩)) hg hat); have n3_ := Aside0.mk (hb); have n4_ := Aside0.mk (ho); clear HO_5; clear HL215_0; clear HL220_0; clear HB; clear HO_6; have HO_5 := n0_; have HL215_0 := n1_; have HL220_0 := n2_; have HB := n3_; have HO223 := n4_; clear n0_ n1_ n2_ n3_ n4_; clear ho hb hg hat)); try go_wp2_with (first | ((with_reducible refine gate_builtin (b := .append) (xs := #[.tmp 79, .tmp 83]) rfl ?_); (try (refine gate_guard (by rfl) ?_; dsimp only)); at_builtin; refine Kd.R_append_rows k28 (w0 := w) w.heap.size rfl (.tmp 79) (.tmp 83) 22 28 (.agg #[(.int .i32 0), (.int .u8 0)]) 8 rfl Tryd.underlying22 info28 rfl (by decide) (by omega) u6 x6_2 (rd_L6 t207 x7_2) _ _ _ (fun _ => True) (fun _ => False) rfl rfl ?aO ?aR (fun _ _ h => h) (fun _ h => h.elim) ?aF ?aB ?aS ?aL ?_; (case aR => repeat (first | exact (by repeat (first | (with_reducible exact HR220_0.out) | (with_reducible refine Kd.C_alloc ?_ _) | (with_reducible refine Kd.C_drewN ?_ _) | (with_reducible refine Kd.C_drew ?_) | exact HR220_0.out)) | (with_reducible refine Kd.C_alloc ?_ _) | (with_reducible refine Kd.C_drewN ?_ _) | (with_reducible refine Kd.C_drew ?_))); (case aB => exact (by repeat (first | (with_reducible first | exact HB.out | apply below_alloc | apply pw_below_drewN | apply below_drew1) | exact HB.out))); (case aF => exact (fun _ _ => trivial)); (case aO => exact (by (with_reducible repeat (first | apply Kd.R_alloc | apply Kd.R_drewN | apply Kd.R_drew)); exact HO_6.out)); (case aS => exact (below_size (by repeat (first | (with_reducible first | exact HB.out | apply below_alloc | apply pw_below_drewN | apply below_drew1) | exact HB.out)))); (case aL => have := LMc28.out; omega); intro v222 w29 ho hb hg hat; rw [← Ny221.out] at ho; have n0_ := Aside0.mk (Kd.S_after (ok := (fun _ => True)) (by (with_reducible repeat (first | apply Kd.S_alloc | apply Kd.S_drewN | apply Kd.S_drew)); exact Kd.S_mono HO_5.out (fun _ hk => ⟨trivial, hk⟩)) hg hat); have n1_ := Aside0.mk (Kd.R_after (ok := (fun k_ => some k_ ≠ (.slice (some ad215) t207.length co12 : Value).ownBlock)) (by (with_reducible repeat (first | apply Kd.R_alloc | apply Kd.R_drewN | apply Kd.R_drew)); exact Kd.R_mono HL215_0.out (fun _ hk => ⟨hk.2, hk.1⟩)) hg hat); have n2_ := Aside0.mk (Kd.R_after (ok := (fun k_ => some k_ ≠ (.slice (some ad215) t207.length co12 : Value).ownBlock)) (by (with_reducible repeat (first | apply Kd.R_alloc | apply Kd.R_drewN | apply Kd.R_drew)); exact Kd.R_mono HL220_0.out (fun _ hk => ⟨hk.2, hk.1⟩)) hg hat); have n3_ := Aside0.mk (hb); have n4_ := Aside0.mk (ho); clear HO_5; clear HL215_0; clear HL220_0; clear HB; clear HO_6; have HO_5 := n0_; have HL215_0 := n1_; have HL220_0 := n2_; have HB := n3_; have HO223 := n4_; clear n0_ n1_ n2_ n3_ n4_; clear ho hb hg hat)))
                                go_roundg k4
                                case measure => have := HJ2.out; have := HK2.out; have := HJ10.out; have := HK4.out; omega
                                case rel => exact ⟨(y221), (wrap64 (x7_2 + 1)), (by first | rfl | (simp; done) | (simp [*]; done)), H', ⟨by have := HJ2.out; have := HK2.out; have := HJ10.out; have := HK4.out; omega⟩, ⟨by (with_reducible repeat (first | apply Kd.S_alloc | apply Kd.S_drewN | apply Kd.S_drew)); exact Kd.S_mono HO_5.out (fun _ hk => hk.2)⟩, ⟨by (with_reducible repeat (first | apply Kd.R_alloc | apply Kd.R_drewN | apply Kd.R_drew)); exact HO223.out⟩, ⟨by repeat (first | (with_reducible first | exact HB.out | apply below_alloc | apply pw_below_drewN | apply below_drew1) | exact HB.out)⟩⟩
                              · rw [if_neg c28] at H
                                exact absurd H (by simp)
                          · rw [if_neg c23] at H
                            exact absurd H (by simp)
                        · rw [if_neg c22] at H
                          exact absurd H (by simp)
            · rw [if_neg c10] at H
              have c10b0 : decide (x7_2 < (t207.length : Int)) = false := decide_eq_false c10
              clear c10
              replace H := Option.bind_eq_some_iff.mp H
              obtain ⟨t224, A300, H⟩ := H
              replace H : (if t224 = true then ((cells_Same.f k2 l0 l1).bind fun t225 => ((flongref03_Same.f k2 l0 l1).bind fun t226 => (if (t225 == t226) = true then ((flonglaw03_known.f k2).bind fun t227 => (some t227)) else (some false)))) else (some false)) = some r := H
              have A30 := Aside0.mk A300
              clear A300
              by_cases c31 : t224 = true
              · subst c31
                have H1 : ((cells_Same.f k2 l0 l1).bind fun t225 => ((flongref03_Same.f k2 l0 l1).bind fun t226 => (if (t225 == t226) = true then ((flonglaw03_known.f k2).bind fun t227 => (some t227)) else (some false)))) = some r := by rw [if_pos rfl] at H; exact H
                clear H
                have H := H1
                clear H1
                replace H := Option.bind_eq_some_iff.mp H
                obtain ⟨t225, A320, H⟩ := H
                replace H : ((flongref03_Same.f k2 l0 l1).bind fun t226 => (if (t225 == t226) = true then ((flonglaw03_known.f k2).bind fun t227 => (some t227)) else (some false))) = some r := H
                have A32 := Aside0.mk A320
                clear A320
                replace H := Option.bind_eq_some_iff.mp H
                obtain ⟨t226, A330, H⟩ := H
                replace H : (if (t225 == t226) = true then ((flonglaw03_known.f k2).bind fun t227 => (some t227)) else (some false)) = some r := H
                have A33 := Aside0.mk A330
                clear A330
                by_cases c34 : (t225 == t226) = true
                · rw [if_pos c34] at H
                  have c34b0 : (t225 == t226) = true := c34
                  (try (have c34b1 : decide (t225 = t226) = true := by simpa using c34))
                  (try (have c34b2 : (t225 == t226) = true := by simpa using c34))
                  clear c34
                  replace H := Option.bind_eq_some_iff.mp H
                  obtain ⟨t227, A350, H⟩ := H
                  replace H : (some t227) = some r := H
                  have A35 := Aside0.mk A350
                  clear A350
                  obtain rfl := Option.some.inj H
                  obtain ⟨Ao36, co36, eo36⟩ := Kd.S_slice HO_5.out
                  subst eo36
                  obtain ⟨Ao37, co37, eo37⟩ := Kd.R_slice HO_6.out
                  subst eo37
                  go_wp2_with (first | (go_at_call 12; (with_reducible refine (flongref03_Same.calls k2 _ _ x6_2 _ _ l0 true _ ?side1 ?side2 ?side3 ?side4 A30.out).mono ?_); (case side1 => repeat (first | exact (Kd.R_reads' HO_6.out).2.2 | (with_reducible refine Kd.C_alloc ?_ _) | (with_reducible refine Kd.C_drewN ?_ _) | (with_reducible refine Kd.C_drew ?_))); (case side2 => exact (Kd.R_reads' HO_6.out).2.1); (case side3 => repeat (first | exact (Kd.C_below HR0.out HB.out) | (with_reducible refine Kd.C_alloc ?_ _) | (with_reducible refine Kd.C_drewN ?_ _) | (with_reducible refine Kd.C_drew ?_))); (case side4 => exact HC0.out); rintro e w' ⟨rfl, ⟨nd, rfl⟩⟩; (try first | exact ⟨rfl, _, World.drewN_drewN _ _ _⟩ | exact ⟨rfl, _, Eq.trans (World.drewN_drewN _ _ _) (congrArg (World.drewN _) (Nat.add_assoc _ _ _))⟩)) | (go_at_call 15; (with_reducible refine (cells_Same.calls k2 _ _ l0 _ _ l1 t225 _ ?side1 ?side2 ?side3 ?side4 A32.out).mono ?_); (case side1 => repeat (first | exact (Kd.C_below HR0.out (by repeat (first | (with_reducible first | exact HB.out | apply below_alloc | apply pw_below_drewN | apply below_drew1) | exact HB.out))) | (with_reducible refine Kd.C_alloc ?_ _) | (with_reducible refine Kd.C_drewN ?_ _) | (with_reducible refine Kd.C_drew ?_))); (case side2 => exact HC0.out); (case side3 => repeat (first | exact (Kd.C_below HR1.out (by repeat (first | (with_reducible first | exact HB.out | apply below_alloc | apply pw_below_drewN | apply below_drew1) | exact HB.out))) | (with_reducible refine Kd.C_alloc ?_ _) | (with_reducible refine Kd.C_drewN ?_ _) | (with_reducible refine Kd.C_drew ?_))); (case side4 => exact HC1.out); rintro e w' ⟨rfl, ⟨nd, rfl⟩⟩; (try first | exact ⟨rfl, _, World.drewN_drewN _ _ _⟩ | exact ⟨rfl, _, Eq.trans (World.drewN_drewN _ _ _) (congrArg (World.drewN _) (Nat.add_assoc _ _ _))⟩)) | (go_at_call 12; (with_reducible refine (flongref03_Same.calls k2 _ _ l0 _ _ l1 t226 _ ?side1 ?side2 ?side3 ?side4 A33.out).mono ?_); (case side1 => repeat (first | exact (Kd.C_below HR0.out (by repeat (first | (with_reducible first | exact HB.out | apply below_alloc | apply pw_below_drewN | apply below_drew1) | exact HB.out))) | (with_reducible refine Kd.C_alloc ?_ _) | (with_reducible refine Kd.C_drewN ?_ _) | (with_reducible refine Kd.C_drew ?_))); (case side2 => exact HC0.out); (case side3 => repeat (first | exact (Kd.C_below HR1.out (by repeat (first | (with_reducible first | exact HB.out | apply below_alloc | apply pw_below_drewN | apply below_drew1) | exact HB.out))) | (with_reducible refine Kd.C_alloc ?_ _) | (with_reducible refine Kd.C_drewN ?_ _) | (with_reducible refine Kd.C_drew ?_))); (case side4 => exact HC1.out); rintro e w' ⟨rfl, ⟨nd, rfl⟩⟩; (try first | exact ⟨rfl, _, World.drewN_drewN _ _ _⟩ | exact ⟨rfl, _, Eq.trans (World.drewN_drewN _ _ _) (congrArg (World.drewN _) (Nat.add_assoc _ _ _))⟩)) | (go_at_call 10; (with_reducible refine (flonglaw03_known.calls k2  t227 _ ?side1 A35.out).mono ?_); (case side1 => exact GOK.of_below (GOK.sub HG.out rfl) (by repeat (first | (with_reducible first | exact HB.out | apply below_alloc | apply pw_below_drewN | apply below_drew1) | exact HB.out))); rintro e w38 ⟨rfl, hb⟩; have n0_ := Aside0.mk (Kd.S_below (by (with_reducible repeat (first | apply Kd.S_alloc | apply Kd.S_drewN | apply Kd.S_drew)); exact HO_5.out) hb); have n1_ := Aside0.mk (Kd.R_below (by (with_reducible repeat (first | apply Kd.R_alloc | apply Kd.R_drewN | apply Kd.R_drew)); exact HO_6.out) hb); have n2_ := Aside0.mk (below_step (by repeat (first | (with_reducible first | exact HB.out | apply below_alloc | apply pw_below_drewN | apply below_drew1) | exact HB.out)) hb); clear HO_5; clear HO_6; clear HB; have HO_5 := n0_; have HO_6 := n1_; have HB := n2_; clear n0_ n1_ n2_; (try clear hb); (try clear hb2); (try clear hk); (try clear hi)))
                  repeat (go_quiet (first | (go_at_call 12; (with_reducible refine (flongref03_Same.calls k2 _ _ x6_2 _ _ l0 true _ ?side1 ?side2 ?side3 ?side4 A30.out).mono ?_); (case side1 => repeat (first | exact (Kd.R_reads' HO_6.out).2.2 | (with_reducible refine Kd.C_alloc ?_ _) | (with_reducible refine Kd.C_drewN ?_ _) | (with_reducible refine Kd.C_drew ?_))); (case side2 => exact (Kd.R_reads' HO_6.out).2.1); (case side3 => repeat (first | exact (Kd.C_below HR0.out HB.out) | (with_reducible refine Kd.C_alloc ?_ _) | (with_reducible refine Kd.C_drewN ?_ _) | (with_reducible refine Kd.C_drew ?_))); (case side4 => exact HC0.out); rintro e w' ⟨rfl, ⟨nd, rfl⟩⟩; (try first | exact ⟨rfl, _, World.drewN_drewN _ _ _⟩ | exact ⟨rfl, _, Eq.trans (World.drewN_drewN _ _ _) (congrArg (World.drewN _) (Nat.add_assoc _ _ _))⟩)) | (go_at_call 15; (with_reducible refine (cells_Same.calls k2 _ _ l0 _ _ l1 t225 _ ?side1 ?side2 ?side3 ?side4 A32.out).mono ?_); (case side1 => repeat (first | exact (Kd.C_below HR0.out (by repeat (first | (with_reducible first | exact HB.out | apply below_alloc | apply pw_below_drewN | apply below_drew1) | exact HB.out))) | (with_reducible refine Kd.C_alloc ?_ _) | (with_reducible refine Kd.C_drewN ?_ _) | (with_reducible refine Kd.C_drew ?_))); (case side2 => exact HC0.out); (case side3 => repeat (first | exact (Kd.C_below HR1.out (by repeat (first | (with_reducible first | exact HB.out | apply below_alloc | apply pw_below_drewN | apply below_drew1) | exact HB.out))) | (with_reducible refine Kd.C_alloc ?_ _) | (with_reducible refine Kd.C_drewN ?_ _) | (with_reducible refine Kd.C_drew ?_))); (case side4 => exact HC1.out); rintro e w' ⟨rfl, ⟨nd, rfl⟩⟩; (try first | exact ⟨rfl, _, World.drewN_drewN _ _ _⟩ | exact ⟨rfl, _, Eq.trans (World.drewN_drewN _ _ _) (congrArg (World.drewN _) (Nat.add_assoc _ _ _))⟩)) | (go_at_call 12; (with_reducible refine (flongref03_Same.calls k2 _ _ l0 _ _ l1 t226 _ ?side1 ?side2 ?side3 ?side4 A33.out).mono ?_); (case side1 => repeat (first | exact (Kd.C_below HR0.out (by repeat (first | (with_reducible first | exact HB.out | apply below_alloc | apply pw_below_drewN | apply below_drew1) | exact HB.out))) | (with_reducible refine Kd.C_alloc ?_ _) | (with_reducible refine Kd.C_drewN ?_ _) | (with_reducible refine Kd.C_drew ?_))); (case side2 => exact HC0.out); (case side3 => repeat (first | exact (Kd.C_below HR1.out (by repeat (first | (with_reducible first | exact HB.out | apply below_alloc | apply pw_below_drewN | apply below_drew1) | exact HB.out))) | (with_reducible refine Kd.C_alloc ?_ _) | (with_reducible refine Kd.C_drewN ?_ _) | (with_reducible refine Kd.C_drew ?_))); (case side4 => exact HC1.out); rintro e w' ⟨rfl, ⟨nd, rfl⟩⟩; (try first | exact ⟨rfl, _, World.drewN_drewN _ _ _⟩ | exact ⟨rfl, _, Eq.trans (World.drewN_drewN _ _ _) (congrArg (World.drewN _) (Nat.add_assoc _ _ _))⟩)) | (go_at_call 10; (with_reducible refine (flonglaw03_known.calls k2  t227 _ ?side1 A35.out).mono ?_); (case side1 => exact GOK.of_below (GOK.sub HG.out rfl) (by repeat (first | (with_reducible first | exact HB.out | apply below_alloc | apply pw_below_drewN | apply below_drew1) | exact HB.out))); rintro e w38 ⟨rfl, hb⟩; have n0_ := Aside0.mk (Kd.S_below (by (with_reducible repeat (first | apply Kd.S_alloc | apply Kd.S_drewN | apply Kd.S_drew)); exact HO_5.out) hb); have n1_ := Aside0.mk (Kd.R_below (by (with_reducible repeat (first | apply Kd.R_alloc | apply Kd.R_drewN | apply Kd.R_drew)); exact HO_6.out) hb); have n2_ := Aside0.mk (below_step (by repeat (first | (with_reducible first | exact HB.out | apply below_alloc | apply pw_below_drewN | apply below_drew1) | exact HB.out)) hb); clear HO_5; clear HO_6; clear HB; have HO_5 := n0_; have HO_6 := n1_; have HB := n2_; clear n0_ n1_ n2_; (try clear hb); (try clear hb2); (try clear hk); (try clear hi))); try go_wp2_with (first | (go_at_call 12; (with_reducible refine (flongref03_Same.calls k2 _ _ x6_2 _ _ l0 true _ ?side1 ?side2 ?side3 ?side4 A30.out).mono ?_); (case side1 => repeat (first | exact (Kd.R_reads' HO_6.out).2.2 | (with_reducible refine Kd.C_alloc ?_ _) | (with_reducible refine Kd.C_drewN ?_ _) | (with_reducible refine Kd.C_drew ?_))); (case side2 => exact (Kd.R_reads' HO_6.out).2.1); (case side3 => repeat (first | exact (Kd.C_below HR0.out HB.out) | (with_reducible refine Kd.C_alloc ?_ _) | (with_reducible refine Kd.C_drewN ?_ _) | (with_reducible refine Kd.C_drew ?_))); (case side4 => exact HC0.out); rintro e w' ⟨rfl, ⟨nd, rfl⟩⟩; (try first | exact ⟨rfl, _, World.drewN_drewN _ _ _⟩ | exact ⟨rfl, _, Eq.trans (World.drewN_drewN _ _ _) (congrArg (World.drewN _) (Nat.add_assoc _ _ _))⟩)) | (go_at_call 15; (with_reducible refine (cells_Same.calls k2 _ _ l0 _ _ l1 t225 _ ?side1 ?side2 ?side3 ?side4 A32.out).mono ?_); (case side1 => repeat (first | exact (Kd.C_below HR0.out (by repeat (first | (with_reducible first | exact HB.out | apply below_alloc | apply pw_below_drewN | apply below_drew1) | exact HB.out))) | (with_reducible refine Kd.C_alloc ?_ _) | (with_reducible refine Kd.C_drewN ?_ _) | (with_reducible refine Kd.C_drew ?_))); (case side2 => exact HC0.out); (case side3 => repeat (first | exact (Kd.C_below HR1.out (by repeat (first | (with_reducible first | exact HB.out | apply below_alloc | apply pw_below_drewN | apply below_drew1) | exact HB.out))) | (with_reducible refine Kd.C_alloc ?_ _) | (with_reducible refine Kd.C_drewN ?_ _) | (with_reducible refine Kd.C_drew ?_))); (case side4 => exact HC1.out); rintro e w' ⟨rfl, ⟨nd, rfl⟩⟩; (try first | exact ⟨rfl, _, World.drewN_drewN _ _ _⟩ | exact ⟨rfl, _, Eq.trans (World.drewN_drewN _ _ _) (congrArg (World.drewN _) (Nat.add_assoc _ _ _))⟩)) | (go_at_call 12; (with_reducible refine (flongref03_Same.calls k2 _ _ l0 _ _ l1 t226 _ ?side1 ?side2 ?side3 ?side4 A33.out).mono ?_); (case side1 => repeat (first | exact (Kd.C_below HR0.out (by repeat (first | (with_reducible first | exact HB.out | apply below_alloc | apply pw_below_drewN | apply below_drew1) | exact HB.out))) | (with_reducible refine Kd.C_alloc ?_ _) | (with_reducible refine Kd.C_drewN ?_ _) | (with_reducible refine Kd.C_drew ?_))); (case side2 => exact HC0.out); (case side3 => repeat (first | exact (Kd.C_below HR1.out (by repeat (first | (with_reducible first | exact HB.out | apply below_alloc | apply pw_below_drewN | apply below_drew1) | exact HB.out))) | (with_reducible refine Kd.C_alloc ?_ _) | (with_reducible refine Kd.C_drewN ?_ _) | (with_reducible refine Kd.C_drew ?_))); (case side4 => exact HC1.out); rintro e w' ⟨rfl, ⟨nd, rfl⟩⟩; (try first | exact ⟨rfl, _, World.drewN_drewN _ _ _⟩ | exact ⟨rfl, _, Eq.trans (World.drewN_drewN _ _ _) (congrArg (World.drewN _) (Nat.add_assoc _ _ _))⟩)) | (go_at_call 10; (with_reducible refine (flonglaw03_known.calls k2  t227 _ ?side1 A35.out).mono ?_); (case side1 => exact GOK.of_below (GOK.sub HG.out rfl) (by repeat (first | (with_reducible first | exact HB.out | apply below_alloc | apply pw_below_drewN | apply below_drew1) | exact HB.out))); rintro e w38 ⟨rfl, hb⟩; have n0_ := Aside0.mk (Kd.S_below (by (with_reducible repeat (first | apply Kd.S_alloc | apply Kd.S_drewN | apply Kd.S_drew)); exact HO_5.out) hb); have n1_ := Aside0.mk (Kd.R_below (by (with_reducible repeat (first | apply Kd.R_alloc | apply Kd.R_drewN | apply Kd.R_drew)); exact HO_6.out) hb); have n2_ := Aside0.mk (below_step (by repeat (first | (with_reducible first | exact HB.out | apply below_alloc | apply pw_below_drewN | apply below_drew1) | exact HB.out)) hb); clear HO_5; clear HO_6; clear HB; have HO_5 := n0_; have HO_6 := n1_; have HB := n2_; clear n0_ n1_ n2_; (try clear hb); (try clear hb2); (try clear hk); (try clear hi))))
                  go_ret
                  exact ⟨by first | rfl | (simp [errW_none, errW_some] <;> rfl) | (simp [*, errW_none, errW_some] <;> rfl), by repeat (first | (with_reducible first | exact HB.out | apply below_alloc | apply pw_below_drewN | apply below_drew1) | exact HB.out)⟩
                · rw [if_neg c34] at H
                  have c34b0 : (t225 == t226) = false := by simpa using c34
                  (try (have c34b1 : decide (t225 = t226) = false := by simpa using c34))
                  (try (have c34b2 : (t225 == t226) = false := by simpa using c34))
                  (try (have c34b3 : ¬ (t225 = t226) := by simpa using c34))
                  clear c34
                  obtain rfl := Option.some.inj H
                  obtain ⟨Ao39, co39, eo39⟩ := Kd.S_slice HO_5.out
                  subst eo39
                  obtain ⟨Ao40, co40, eo40⟩ := Kd.R_slice HO_6.out
                  subst eo40
                  go_wp2_with (first | (go_at_call 12; (with_reducible refine (flongref03_Same.calls k2 _ _ x6_2 _ _ l0 true _ ?side1 ?side2 ?side3 ?side4 A30.out).mono ?_); (case side1 => repeat (first | exact (Kd.R_reads' HO_6.out).2.2 | (with_reducible refine Kd.C_alloc ?_ _) | (with_reducible refine Kd.C_drewN ?_ _) | (with_reducible refine Kd.C_drew ?_))); (case side2 => exact (Kd.R_reads' HO_6.out).2.1); (case side3 => repeat (first | exact (Kd.C_below HR0.out HB.out) | (with_reducible refine Kd.C_alloc ?_ _) | (with_reducible refine Kd.C_drewN ?_ _) | (with_reducible refine Kd.C_drew ?_))); (case side4 => exact HC0.out); rintro e w' ⟨rfl, ⟨nd, rfl⟩⟩; (try first | exact ⟨rfl, _, World.drewN_drewN _ _ _⟩ | exact ⟨rfl, _, Eq.trans (World.drewN_drewN _ _ _) (congrArg (World.drewN _) (Nat.add_assoc _ _ _))⟩)) | (go_at_call 15; (with_reducible refine (cells_Same.calls k2 _ _ l0 _ _ l1 t225 _ ?side1 ?side2 ?side3 ?side4 A32.out).mono ?_); (case side1 => repeat (first | exact (Kd.C_below HR0.out (by repeat (first | (with_reducible first | exact HB.out | apply below_alloc | apply pw_below_drewN | apply below_drew1) | exact HB.out))) | (with_reducible refine Kd.C_alloc ?_ _) | (with_reducible refine Kd.C_drewN ?_ _) | (with_reducible refine Kd.C_drew ?_))); (case side2 => exact HC0.out); (case side3 => repeat (first | exact (Kd.C_below HR1.out (by repeat (first | (with_reducible first | exact HB.out | apply below_alloc | apply pw_below_drewN | apply below_drew1) | exact HB.out))) | (with_reducible refine Kd.C_alloc ?_ _) | (with_reducible refine Kd.C_drewN ?_ _) | (with_reducible refine Kd.C_drew ?_))); (case side4 => exact HC1.out); rintro e w' ⟨rfl, ⟨nd, rfl⟩⟩; (try first | exact ⟨rfl, _, World.drewN_drewN _ _ _⟩ | exact ⟨rfl, _, Eq.trans (World.drewN_drewN _ _ _) (congrArg (World.drewN _) (Nat.add_assoc _ _ _))⟩)) | (go_at_call 12; (with_reducible refine (flongref03_Same.calls k2 _ _ l0 _ _ l1 t226 _ ?side1 ?side2 ?side3 ?side4 A33.out).mono ?_); (case side1 => repeat (first | exact (Kd.C_below HR0.out (by repeat (first | (with_reducible first | exact HB.out | apply below_alloc | apply pw_below_drewN | apply below_drew1) | exact HB.out))) | (with_reducible refine Kd.C_alloc ?_ _) | (with_reducible refine Kd.C_drewN ?_ _) | (with_reducible refine Kd.C_drew ?_))); (case side2 => exact HC0.out); (case side3 => repeat (first | exact (Kd.C_below HR1.out (by repeat (first | (with_reducible first | exact HB.out | apply below_alloc | apply pw_below_drewN | apply below_drew1) | exact HB.out))) | (with_reducible refine Kd.C_alloc ?_ _) | (with_reducible refine Kd.C_drewN ?_ _) | (with_reducible refine Kd.C_drew ?_))); (case side4 => exact HC1.out); rintro e w' ⟨rfl, ⟨nd, rfl⟩⟩; (try first | exact ⟨rfl, _, World.drewN_drewN _ _ _⟩ | exact ⟨rfl, _, Eq.trans (World.drewN_drewN _ _ _) (congrArg (World.drewN _) (Nat.add_assoc _ _ _))⟩)))
                  repeat (go_quiet (first | (go_at_call 12; (with_reducible refine (flongref03_Same.calls k2 _ _ x6_2 _ _ l0 true _ ?side1 ?side2 ?side3 ?side4 A30.out).mono ?_); (case side1 => repeat (first | exact (Kd.R_reads' HO_6.out).2.2 | (with_reducible refine Kd.C_alloc ?_ _) | (with_reducible refine Kd.C_drewN ?_ _) | (with_reducible refine Kd.C_drew ?_))); (case side2 => exact (Kd.R_reads' HO_6.out).2.1); (case side3 => repeat (first | exact (Kd.C_below HR0.out HB.out) | (with_reducible refine Kd.C_alloc ?_ _) | (with_reducible refine Kd.C_drewN ?_ _) | (with_reducible refine Kd.C_drew ?_))); (case side4 => exact HC0.out); rintro e w' ⟨rfl, ⟨nd, rfl⟩⟩; (try first | exact ⟨rfl, _, World.drewN_drewN _ _ _⟩ | exact ⟨rfl, _, Eq.trans (World.drewN_drewN _ _ _) (congrArg (World.drewN _) (Nat.add_assoc _ _ _))⟩)) | (go_at_call 15; (with_reducible refine (cells_Same.calls k2 _ _ l0 _ _ l1 t225 _ ?side1 ?side2 ?side3 ?side4 A32.out).mono ?_); (case side1 => repeat (first | exact (Kd.C_below HR0.out (by repeat (first | (with_reducible first | exact HB.out | apply below_alloc | apply pw_below_drewN | apply below_drew1) | exact HB.out))) | (with_reducible refine Kd.C_alloc ?_ _) | (with_reducible refine Kd.C_drewN ?_ _) | (with_reducible refine Kd.C_drew ?_))); (case side2 => exact HC0.out); (case side3 => repeat (first | exact (Kd.C_below HR1.out (by repeat (first | (with_reducible first | exact HB.out | apply below_alloc | apply pw_below_drewN | apply below_drew1) | exact HB.out))) | (with_reducible refine Kd.C_alloc ?_ _) | (with_reducible refine Kd.C_drewN ?_ _) | (with_reducible refine Kd.C_drew ?_))); (case side4 => exact HC1.out); rintro e w' ⟨rfl, ⟨nd, rfl⟩⟩; (try first | exact ⟨rfl, _, World.drewN_drewN _ _ _⟩ | exact ⟨rfl, _, Eq.trans (World.drewN_drewN _ _ _) (congrArg (World.drewN _) (Nat.add_assoc _ _ _))⟩)) | (go_at_call 12; (with_reducible refine (flongref03_Same.calls k2 _ _ l0 _ _ l1 t226 _ ?side1 ?side2 ?side3 ?side4 A33.out).mono ?_); (case side1 => repeat (first | exact (Kd.C_below HR0.out (by repeat (first | (with_reducible first | exact HB.out | apply below_alloc | apply pw_below_drewN | apply below_drew1) | exact HB.out))) | (with_reducible refine Kd.C_alloc ?_ _) | (with_reducible refine Kd.C_drewN ?_ _) | (with_reducible refine Kd.C_drew ?_))); (case side2 => exact HC0.out); (case side3 => repeat (first | exact (Kd.C_below HR1.out (by repeat (first | (with_reducible first | exact HB.out | apply below_alloc | apply pw_below_drewN | apply below_drew1) | exact HB.out))) | (with_reducible refine Kd.C_alloc ?_ _) | (with_reducible refine Kd.C_drewN ?_ _) | (with_reducible refine Kd.C_drew ?_))); (case side4 => exact HC1.out); rintro e w' ⟨rfl, ⟨nd, rfl⟩⟩; (try first | exact ⟨rfl, _, World.drewN_drewN _ _ _⟩ | exact ⟨rfl, _, Eq.trans (World.drewN_drewN _ _ _) (congrArg (World.drewN _) (Nat.add_assoc _ _ _))⟩))); try go_wp2_with (first | (go_at_call 12; (with_reducible refine (flongref03_Same.calls k2 _ _ x6_2 _ _ l0 true _ ?side1 ?side2 ?side3 ?side4 A30.out).mono ?_); (case side1 => repeat (first | exact (Kd.R_reads' HO_6.out).2.2 | (with_reducible refine Kd.C_alloc ?_ _) | (with_reducible refine Kd.C_drewN ?_ _) | (with_reducible refine Kd.C_drew ?_))); (case side2 => exact (Kd.R_reads' HO_6.out).2.1); (case side3 => repeat (first | exact (Kd.C_below HR0.out HB.out) | (with_reducible refine Kd.C_alloc ?_ _) | (with_reducible refine Kd.C_drewN ?_ _) | (with_reducible refine Kd.C_drew ?_))); (case side4 => exact HC0.out); rintro e w' ⟨rfl, ⟨nd, rfl⟩⟩; (try first | exact ⟨rfl, _, World.drewN_drewN _ _ _⟩ | exact ⟨rfl, _, Eq.trans (World.drewN_drewN _ _ _) (congrArg (World.drewN _) (Nat.add_assoc _ _ _))⟩)) | (go_at_call 15; (with_reducible refine (cells_Same.calls k2 _ _ l0 _ _ l1 t225 _ ?side1 ?side2 ?side3 ?side4 A32.out).mono ?_); (case side1 => repeat (first | exact (Kd.C_below HR0.out (by repeat (first | (with_reducible first | exact HB.out | apply below_alloc | apply pw_below_drewN | apply below_drew1) | exact HB.out))) | (with_reducible refine Kd.C_alloc ?_ _) | (with_reducible refine Kd.C_drewN ?_ _) | (with_reducible refine Kd.C_drew ?_))); (case side2 => exact HC0.out); (case side3 => repeat (first | exact (Kd.C_below HR1.out (by repeat (first | (with_reducible first | exact HB.out | apply below_alloc | apply pw_below_drewN | apply below_drew1) | exact HB.out))) | (with_reducible refine Kd.C_alloc ?_ _) | (with_reducible refine Kd.C_drewN ?_ _) | (with_reducible refine Kd.C_drew ?_))); (case side4 => exact HC1.out); rintro e w' ⟨rfl, ⟨nd, rfl⟩⟩; (try first | exact ⟨rfl, _, World.drewN_drewN _ _ _⟩ | exact ⟨rfl, _, Eq.trans (World.drewN_drewN _ _ _) (congrArg (World.drewN _) (Nat.add_assoc _ _ _))⟩)) | (go_at_call 12; (with_reducible refine (flongref03_Same.calls k2 _ _ l0 _ _ l1 t226 _ ?side1 ?side2 ?side3 ?side4 A33.out).mono ?_); (case side1 => repeat (first | exact (Kd.C_below HR0.out (by repeat (first | (with_reducible first | exact HB.out | apply below_alloc | apply pw_below_drewN | apply below_drew1) | exact HB.out))) | (with_reducible refine Kd.C_alloc ?_ _) | (with_reducible refine Kd.C_drewN ?_ _) | (with_reducible refine Kd.C_drew ?_))); (case side2 => exact HC0.out); (case side3 => repeat (first | exact (Kd.C_below HR1.out (by repeat (first | (with_reducible first | exact HB.out | apply below_alloc | apply pw_below_drewN | apply below_drew1) | exact HB.out))) | (with_reducible refine Kd.C_alloc ?_ _) | (with_reducible refine Kd.C_drewN ?_ _) | (with_reducible refine Kd.C_drew ?_))); (case side4 => exact HC1.out); rintro e w' ⟨rfl, ⟨nd, rfl⟩⟩; (try first | exact ⟨rfl, _, World.drewN_drewN _ _ _⟩ | exact ⟨rfl, _, Eq.trans (World.drewN_drewN _ _ _) (congrArg (World.drewN _) (Nat.add_assoc _ _ _))⟩))))
                  go_ret
                  exact ⟨by first | rfl | (simp [errW_none, errW_some] <;> rfl) | (simp [*, errW_none, errW_some] <;> rfl), by repeat (first | (with_reducible first | exact HB.out | apply below_alloc | apply pw_below_drewN | apply below_drew1) | exact HB.out)⟩
              · replace c31 := Bool.eq_false_iff.mpr c31
                subst c31
                have H1 : (some false) = some r := by rw [if_neg (show ¬ (false = true) by decide)] at H; exact H
                clear H
                have H := H1
                clear H1
                obtain rfl := Option.some.inj H
                obtain ⟨Ao41, co41, eo41⟩ := Kd.S_slice HO_5.out
                subst eo41
                obtain ⟨Ao42, co42, eo42⟩ := Kd.R_slice HO_6.out
                subst eo42
                go_wp2_with (first | (go_at_call 12; (with_reducible refine (flongref03_Same.calls k2 _ _ x6_2 _ _ l0 false _ ?side1 ?side2 ?side3 ?side4 A30.out).mono ?_); (case side1 => repeat (first | exact (Kd.R_reads' HO_6.out).2.2 | (with_reducible refine Kd.C_alloc ?_ _) | (with_reducible refine Kd.C_drewN ?_ _) | (with_reducible refine Kd.C_drew ?_))); (case side2 => exact (Kd.R_reads' HO_6.out).2.1); (case side3 => repeat (first | exact (Kd.C_below HR0.out HB.out) | (with_reducible refine Kd.C_alloc ?_ _) | (with_reducible refine Kd.C_drewN ?_ _) | (with_reducible refine Kd.C_drew ?_))); (case side4 => exact HC0.out); rintro e w' ⟨rfl, ⟨nd, rfl⟩⟩; (try first | exact ⟨rfl, _, World.drewN_drewN _ _ _⟩ | exact ⟨rfl, _, Eq.trans (World.drewN_drewN _ _ _) (congrArg (World.drewN _) (Nat.add_assoc _ _ _))⟩)))
                repeat (go_quiet (first | (go_at_call 12; (with_reducible refine (flongref03_Same.calls k2 _ _ x6_2 _ _ l0 false _ ?side1 ?side2 ?side3 ?side4 A30.out).mono ?_); (case side1 => repeat (first | exact (Kd.R_reads' HO_6.out).2.2 | (with_reducible refine Kd.C_alloc ?_ _) | (with_reducible refine Kd.C_drewN ?_ _) | (with_reducible refine Kd.C_drew ?_))); (case side2 => exact (Kd.R_reads' HO_6.out).2.1); (case side3 => repeat (first | exact (Kd.C_below HR0.out HB.out) | (with_reducible refine Kd.C_alloc ?_ _) | (with_reducible refine Kd.C_drewN ?_ _) | (with_reducible refine Kd.C_drew ?_))); (case side4 => exact HC0.out); rintro e w' ⟨rfl, ⟨nd, rfl⟩⟩; (try first | exact ⟨rfl, _, World.drewN_drewN _ _ _⟩ | exact ⟨rfl, _, Eq.trans (World.drewN_drewN _ _ _) (congrArg (World.drewN _) (Nat.add_assoc _ _ _))⟩))); try go_wp2_with (first | (go_at_call 12; (with_reducible refine (flongref03_Same.calls k2 _ _ x6_2 _ _ l0 false _ ?side1 ?side2 ?side3 ?side4 A30.out).mono ?_); (case side1 => repeat (first | exact (Kd.R_reads' HO_6.out).2.2 | (with_reducible refine Kd.C_alloc ?_ _) | (with_reducible refine Kd.C_drewN ?_ _) | (with_reducible refine Kd.C_drew ?_))); (case side2 => exact (Kd.R_reads' HO_6.out).2.1); (case side3 => repeat (first | exact (Kd.C_below HR0.out HB.out) | (with_reducible refine Kd.C_alloc ?_ _) | (with_reducible refine Kd.C_drewN ?_ _) | (with_reducible refine Kd.C_drew ?_))); (case side4 => exact HC0.out); rintro e w' ⟨rfl, ⟨nd, rfl⟩⟩; (try first | exact ⟨rfl, _, World.drewN_drewN _ _ _⟩ | exact ⟨rfl, _, Eq.trans (World.drewN_drewN _ _ _) (congrArg (World.drewN _) (Nat.add_assoc _ _ _))⟩))))
                go_ret
                exact ⟨by first | rfl | (simp [errW_none, errW_some] <;> rfl) | (simp [*, errW_none, errW_some] <;> rfl), by repeat (first | (with_reducible first | exact HB.out | apply below_alloc | apply pw_below_drewN | apply below_drew1) | exact HB.out)⟩

end Go.Proofs.YtdcbaefcgghbmaaDoor.X
