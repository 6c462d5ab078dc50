-- Written by this session's xprint.py (a variant of the kit's printer). Not trusted: Lean checks it.
import Derived.Test.YtmfkokjbjmahkaaDoorX0
import Derived.Test.YtmfkokjbjmahkaaDoorSlim
import Derived.Test.YtmfkokjbjmahkaaDoorX3
import Derived.Test.YtmfkokjbjmahkaaDoorX4
import Derived.Test.YtmfkokjbjmahkaaDoorHandA
import Derived.Test.YtmfkokjbjmahkaaDoorHandE
namespace Go.Proofs.YtmfkokjbjmahkaaDoor.X
open Go.Proofs.YtmfkokjbjmahkaaDoor.Hand
open Go.RowKit Go.Proofs.YtmfkokjbjmahkaaDoorW.PrintWords Go.Proofs.YtmfkokjbjmahkaaDoorW.PrintLast Go.Proofs.YtmfkokjbjmahkaaDoorW.PrintMore
attribute [local go_sem] max2_int min2_int max_two min_two max_three min_three max_four min_four   -- for this text's walks alone
set_option linter.unusedVariables false
set_option maxHeartbeats 8000000
set_option maxRecDepth 100000
set_option linter.unusedSimpArgs false

/-! ### flonglaw05_LinesOrder: function 5 -/
mutual
def flonglaw05_LinesOrder.j0 : Nat → ByteArray → ByteArray → Bool → Option (Bool)
 | 0, _, _, _ => none
 | k + 1, x0, x1, x27 => if x27 = true then ((flonglaw05_known.f k).bind fun t151 => (some t151)) else ((lines_Read.f k x0).bind fun bt152 => (flonglaw05_LinesOrder.l0 k x0 x1 bt152.1 bt152.2 0 0))
def flonglaw05_LinesOrder.l0 : Nat → ByteArray → ByteArray → List (S35) → List (S37) → Int → Int → Option (Bool)
 | 0, _, _, _, _, _, _ => none
 | k + 1, x0, x1, x5, x6, x7, x8 => if x8 < (x0.size : Int) then (if 0 ≤ x8 then (if (bt x0 x8) = 10 then (if (bt x0 x8) = 92 then ((flonglaw05_known.f k).bind fun t158 => (some t158)) else (flonglaw05_LinesOrder.l0 k x0 x1 x5 x6 (wrap64 (x7 + 1)) (wrap64 (x8 + 1)))) else (if (bt x0 x8) = 92 then ((flonglaw05_known.f k).bind fun t159 => (some t159)) else (flonglaw05_LinesOrder.l0 k x0 x1 x5 x6 x7 (wrap64 (x8 + 1))))) else (none)) else (flonglaw05_LinesOrder.l1 k x0 x1 x5 x6 x7 0)
def flonglaw05_LinesOrder.l1 : Nat → ByteArray → ByteArray → List (S35) → List (S37) → Int → Int → Option (Bool)
 | 0, _, _, _, _, _, _ => none
 | k + 1, x0, x1, x5, x6, x7, x9 => if x9 < (x5.length : Int) then (if 0 ≤ x9 then (if ((rd_T35 x5 x9).f0) < 1 then (some false) else (if ((rd_T35 x5 x9).f0) > (wrap64 (x7 + 1)) then (some false) else (if x9 > 0 then (if 0 ≤ (wrap64 (x9 - 1)) then (if (wrap64 (x9 - 1)) < (x5.length : Int) then (if ((rd_T35 x5 x9).f0) ≤ ((rd_T35 x5 (wrap64 (x9 - 1))).f0) then (some false) else (flonglaw05_LinesOrder.l1 k x0 x1 x5 x6 x7 (wrap64 (x9 + 1)))) else (none)) else (none)) else (flonglaw05_LinesOrder.l1 k x0 x1 x5 x6 x7 (wrap64 (x9 + 1)))))) else (none)) else (flonglaw05_LinesOrder.l2 k x0 x1 x5 x6 x7 0)
def flonglaw05_LinesOrder.l2 : Nat → ByteArray → ByteArray → List (S35) → List (S37) → Int → Int → Option (Bool)
 | 0, _, _, _, _, _, _ => none
 | k + 1, x0, x1, x5, x6, x7, x10 => if x10 < (x6.length : Int) then (flonglaw05_LinesOrder.l3 k x0 x1 x5 x6 x7 x10 false 0) else ((lines_Read.f k x1).bind fun bt166 => (if x0.size + 1 ≤ 9223372036854775807 then (if (x0 ++ (⟨#[10]⟩ : ByteArray)).size + x1.size ≤ 9223372036854775807 then ((lines_Read.f k ((x0 ++ (⟨#[10]⟩ : ByteArray)) ++ x1)).bind fun bt172 => (if ([] : List (S35)).length + x5.length < 2199023255552 then ((some (([] : List (S35)) ++ x5 : List (S35))).bind fun y178 => (if x0.toList = ([] : List UInt8) then (flonglaw05_LinesOrder.j5 k x7 bt166.1 bt172.1 y178 true) else (if 0 ≤ (wrap64 ((x0.size : Int) - 1)) then (if (wrap64 ((x0.size : Int) - 1)) < (x0.size : Int) then (flonglaw05_LinesOrder.j5 k x7 bt166.1 bt172.1 y178 ((bt x0 (wrap64 ((x0.size : Int) - 1))) == 10)) else (none)) else (none)))) else (none))) else (none)) else (none)))
def flonglaw05_LinesOrder.l3 : Nat → ByteArray → ByteArray → List (S35) → List (S37) → Int → Int → Bool → Int → Option (Bool)
 | 0, _, _, _, _, _, _, _, _ => none
 | k + 1, x0, x1, x5, x6, x7, x10, x11, x12 => if x12 < (x5.length : Int) then (if x11 = true then (flonglaw05_LinesOrder.l3 k x0 x1 x5 x6 x7 x10 true (wrap64 (x12 + 1))) else (if 0 ≤ x12 then (if 0 ≤ x10 then (if x10 < (x6.length : Int) then (flonglaw05_LinesOrder.l3 k x0 x1 x5 x6 x7 x10 (((rd_T35 x5 x12).f0) == ((rd_T37 x6 x10).f1)) (wrap64 (x12 + 1))) else (none)) else (none)) else (none))) else (if x11 = true then (flonglaw05_LinesOrder.l2 k x0 x1 x5 x6 x7 (wrap64 (x10 + 1))) else (some false))
def flonglaw05_LinesOrder.j5 : Nat → Int → List (S35) → List (S35) → List (S35) → Bool → Option (Bool)
 | 0, _, _, _, _, _ => none
 | k + 1, x7, x13, x15, x17, x144 => if x144 = true then (if x17.length < 2199023255552 then (flonglaw05_LinesOrder.j6 k x7 x13 x15 (x17 ++ [(⟨wrap64 (x7 + 1), (⟨#[]⟩ : ByteArray), ([] : List ByteArray), (⟨#[]⟩ : ByteArray)⟩ : S35)])) else (none)) else (flonglaw05_LinesOrder.j6 k x7 x13 x15 x17)
def flonglaw05_LinesOrder.j6 : Nat → Int → List (S35) → List (S35) → List (S35) → Option (Bool)
 | 0, _, _, _, _ => none
 | k + 1, x7, x13, x15, x17 => flonglaw05_LinesOrder.l4 k x7 x13 x15 x17 0
def flonglaw05_LinesOrder.l4 : Nat → Int → List (S35) → List (S35) → List (S35) → Int → Option (Bool)
 | 0, _, _, _, _, _ => none
 | k + 1, x7, x13, x15, x17, x18 => if x18 < (x13.length : Int) then (if 0 ≤ x18 then (if x17.length < 2199023255552 then (flonglaw05_LinesOrder.l4 k x7 x13 x15 (x17 ++ [(⟨wrap64 ((wrap64 (((rd_T35 x13 x18).f0) + x7)) + 1), (rd_T35 x13 x18).f1, (rd_T35 x13 x18).f2, (rd_T35 x13 x18).f3⟩ : S35)]) (wrap64 (x18 + 1))) else (none)) else (none)) else ((flongref05_Same.f k x15 x17).bind fun t189 => (if t189 = true then ((flonglaw05_known.f k).bind fun t190 => (some t190)) else (some false)))
end
def flonglaw05_LinesOrder.f (k : Nat) (a0 : ByteArray) (a1 : ByteArray) : Option (Bool) := if (a0.size : Int) > 700 then (flonglaw05_LinesOrder.j0 k a0 a1 true) else (flonglaw05_LinesOrder.j0 k a0 a1 (decide ((a1.size : Int) > 700)))
theorem flonglaw05_LinesOrder.mono_l : ∀ k, (∀ y0 y1 y2, LeO (flonglaw05_LinesOrder.j0 k y0 y1 y2) (flonglaw05_LinesOrder.j0 (k + 1) y0 y1 y2)) ∧ (∀ y0 y1 y2 y3 y4 y5, LeO (flonglaw05_LinesOrder.l0 k y0 y1 y2 y3 y4 y5) (flonglaw05_LinesOrder.l0 (k + 1) y0 y1 y2 y3 y4 y5)) ∧ (∀ y0 y1 y2 y3 y4 y5, LeO (flonglaw05_LinesOrder.l1 k y0 y1 y2 y3 y4 y5) (flonglaw05_LinesOrder.l1 (k + 1) y0 y1 y2 y3 y4 y5)) ∧ (∀ y0 y1 y2 y3 y4 y5, LeO (flonglaw05_LinesOrder.l2 k y0 y1 y2 y3 y4 y5) (flonglaw05_LinesOrder.l2 (k + 1) y0 y1 y2 y3 y4 y5)) ∧ (∀ y0 y1 y2 y3 y4 y5 y6 y7, LeO (flonglaw05_LinesOrder.l3 k y0 y1 y2 y3 y4 y5 y6 y7) (flonglaw05_LinesOrder.l3 (k + 1) y0 y1 y2 y3 y4 y5 y6 y7)) ∧ (∀ y0 y1 y2 y3 y4, LeO (flonglaw05_LinesOrder.j5 k y0 y1 y2 y3 y4) (flonglaw05_LinesOrder.j5 (k + 1) y0 y1 y2 y3 y4)) ∧ (∀ y0 y1 y2 y3, LeO (flonglaw05_LinesOrder.j6 k y0 y1 y2 y3) (flonglaw05_LinesOrder.j6 (k + 1) y0 y1 y2 y3)) ∧ (∀ y0 y1 y2 y3 y4, LeO (flonglaw05_LinesOrder.l4 k y0 y1 y2 y3 y4) (flonglaw05_LinesOrder.l4 (k + 1) y0 y1 y2 y3 y4))
 | 0 => ⟨fun _ _ _ r h => by simp [flonglaw05_LinesOrder.j0] at h, fun _ _ _ _ _ _ r h => by simp [flonglaw05_LinesOrder.l0] at h, fun _ _ _ _ _ _ r h => by simp [flonglaw05_LinesOrder.l1] at h, fun _ _ _ _ _ _ r h => by simp [flonglaw05_LinesOrder.l2] at h, fun _ _ _ _ _ _ _ _ r h => by simp [flonglaw05_LinesOrder.l3] at h, fun _ _ _ _ _ r h => by simp [flonglaw05_LinesOrder.j5] at h, fun _ _ _ _ r h => by simp [flonglaw05_LinesOrder.j6] at h, fun _ _ _ _ _ r h => by simp [flonglaw05_LinesOrder.l4] at h⟩
 | k + 1 => by
  obtain ⟨ih0, ih1, ih2, ih3, ih4, ih5, ih6, ih7⟩ := flonglaw05_LinesOrder.mono_l k
  refine ⟨?_, ?_, ?_, ?_, ?_, ?_, ?_, ?_⟩
  ·intro y0 y1 y2
   unfold flonglaw05_LinesOrder.j0
   repeat' first
   | (with_reducible exact ih0 _ _ _)
   | (with_reducible exact ih1 _ _ _ _ _ _)
   | (with_reducible exact ih2 _ _ _ _ _ _)
   | (with_reducible exact ih3 _ _ _ _ _ _)
   | (with_reducible exact ih4 _ _ _ _ _ _ _ _)
   | (with_reducible exact ih5 _ _ _ _ _)
   | (with_reducible exact ih6 _ _ _ _)
   | (with_reducible exact ih7 _ _ _ _ _)
   | (with_reducible exact flonglaw05_known.mono _)
   | (with_reducible exact flongref05_Same.mono _ _ _)
   | (with_reducible exact lines_Read.mono _ _)
   | (with_reducible exact LeO.refl _)
   | (with_reducible exact LeO.none _)
   | (with_reducible refine LeO.ite ?_ ?_)
   | (with_reducible refine LeO.bind ?_ (fun _ => ?_))
  ·intro y0 y1 y2 y3 y4 y5
   unfold flonglaw05_LinesOrder.l0
   repeat' first
   | (with_reducible exact ih0 _ _ _)
   | (with_reducible exact ih1 _ _ _ _ _ _)
   | (with_reducible exact ih2 _ _ _ _ _ _)
   | (with_reducible exact ih3 _ _ _ _ _ _)
   | (with_reducible exact ih4 _ _ _ _ _ _ _ _)
   | (with_reducible exact ih5 _ _ _ _ _)
   | (with_reducible exact ih6 _ _ _ _)
   | (with_reducible exact ih7 _ _ _ _ _)
   | (with_reducible exact flonglaw05_known.mono _)
   | (with_reducible exact flongref05_Same.mono _ _ _)
   | (with_reducible exact lines_Read.mono _ _)
   | (with_reducible exact LeO.refl _)
   | (with_reducible exact LeO.none _)
   | (with_reducible refine LeO.ite ?_ ?_)
   | (with_reducible refine LeO.bind ?_ (fun _ => ?_))
  ·intro y0 y1 y2 y3 y4 y5
   unfold flonglaw05_LinesOrder.l1
   repeat' first
   | (with_reducible exact ih0 _ _ _)
   | (with_reducible exact ih1 _ _ _ _ _ _)
   | (with_reducible exact ih2 _ _ _ _ _ _)
   | (with_reducible exact ih3 _ _ _ _ _ _)
   | (with_reducible exact ih4 _ _ _ _ _ _ _ _)
   | (with_reducible exact ih5 _ _ _ _ _)
   | (with_reducible exact ih6 _ _ _ _)
   | (with_reducible exact ih7 _ _ _ _ _)
   | (with_reducible exact flonglaw05_known.mono _)
   | (with_reducible exact flongref05_Same.mono _ _ _)
   | (with_reducible exact lines_Read.mono _ _)
   | (with_reducible exact LeO.refl _)
   | (with_reducible exact LeO.none _)
   | (with_reducible refine LeO.ite ?_ ?_)
   | (with_reducible refine LeO.bind ?_ (fun _ => ?_))
  ·intro y0 y1 y2 y3 y4 y5
   unfold flonglaw05_LinesOrder.l2
   repeat' first
   | (with_reducible exact ih0 _ _ _)
   | (with_reducible exact ih1 _ _ _ _ _ _)
   | (with_reducible exact ih2 _ _ _ _ _ _)
   | (with_reducible exact ih3 _ _ _ _ _ _)
   | (with_reducible exact ih4 _ _ _ _ _ _ _ _)
   | (with_reducible exact ih5 _ _ _ _ _)
   | (with_reducible exact ih6 _ _ _ _)
   | (with_reducible exact ih7 _ _ _ _ _)
   | (with_reducible exact flonglaw05_known.mono _)
   | (with_reducible exact flongref05_Same.mono _ _ _)
   | (with_reducible exact lines_Read.mono _ _)
   | (with_reducible exact LeO.refl _)
   | (with_reducible exact LeO.none _)
   | (with_reducible refine LeO.ite ?_ ?_)
   | (with_reducible refine LeO.bind ?_ (fun _ => ?_))
  ·intro y0 y1 y2 y3 y4 y5 y6 y7
   unfold flonglaw05_LinesOrder.l3
   repeat' first
   | (with_reducible exact ih0 _ _ _)
   | (with_reducible exact ih1 _ _ _ _ _ _)
   | (with_reducible exact ih2 _ _ _ _ _ _)
   | (with_reducible exact ih3 _ _ _ _ _ _)
   | (with_reducible exact ih4 _ _ _ _ _ _ _ _)
   | (with_reducible exact ih5 _ _ _ _ _)
   | (with_reducible exact ih6 _ _ _ _)
   | (with_reducible exact ih7 _ _ _ _ _)
   | (with_reducible exact flonglaw05_known.mono _)
   | (with_reducible exact flongref05_Same.mono _ _ _)
   | (with_reducible exact lines_Read.mono _ _)
   | (with_reducible exact LeO.refl _)
   | (with_reducible exact LeO.none _)
   | (with_reducible refine LeO.ite ?_ ?_)
   | (with_reducible refine LeO.bind ?_ (fun _ => ?_))
  ·intro y0 y1 y2 y3 y4
   unfold flonglaw05_LinesOrder.j5
   repeat' first
   | (with_reducible exact ih0 _ _ _)
   | (with_reducible exact ih1 _ _ _ _ _ _)
   | (with_reducible exact ih2 _ _ _ _ _ _)
   | (with_reducible exact ih3 _ _ _ _ _ _)
   | (with_reducible exact ih4 _ _ _ _ _ _ _ _)
   | (with_reducible exact ih5 _ _ _ _ _)
   | (with_reducible exact ih6 _ _ _ _)
   | (with_reducible exact ih7 _ _ _ _ _)
   | (with_reducible exact flonglaw05_known.mono _)
   | (with_reducible exact flongref05_Same.mono _ _ _)
   | (with_reducible exact lines_Read.mono _ _)
   | (with_reducible exact LeO.refl _)
   | (with_reducible exact LeO.none _)
   | (with_reducible refine LeO.ite ?_ ?_)
   | (with_reducible refine LeO.bind ?_ (fun _ => ?_))
  ·intro y0 y1 y2 y3
   unfold flonglaw05_LinesOrder.j6
   repeat' first
   | (with_reducible exact ih0 _ _ _)
   | (with_reducible exact ih1 _ _ _ _ _ _)
   | (with_reducible exact ih2 _ _ _ _ _ _)
   | (with_reducible exact ih3 _ _ _ _ _ _)
   | (with_reducible exact ih4 _ _ _ _ _ _ _ _)
   | (with_reducible exact ih5 _ _ _ _ _)
   | (with_reducible exact ih6 _ _ _ _)
   | (with_reducible exact ih7 _ _ _ _ _)
   | (with_reducible exact flonglaw05_known.mono _)
   | (with_reducible exact flongref05_Same.mono _ _ _)
   | (with_reducible exact lines_Read.mono _ _)
   | (with_reducible exact LeO.refl _)
   | (with_reducible exact LeO.none _)
   | (with_reducible refine LeO.ite ?_ ?_)
   | (with_reducible refine LeO.bind ?_ (fun _ => ?_))
  ·intro y0 y1 y2 y3 y4
   unfold flonglaw05_LinesOrder.l4
   repeat' first
   | (with_reducible exact ih0 _ _ _)
   | (with_reducible exact ih1 _ _ _ _ _ _)
   | (with_reducible exact ih2 _ _ _ _ _ _)
   | (with_reducible exact ih3 _ _ _ _ _ _)
   | (with_reducible exact ih4 _ _ _ _ _ _ _ _)
   | (with_reducible exact ih5 _ _ _ _ _)
   | (with_reducible exact ih6 _ _ _ _)
   | (with_reducible exact ih7 _ _ _ _ _)
   | (with_reducible exact flonglaw05_known.mono _)
   | (with_reducible exact flongref05_Same.mono _ _ _)
   | (with_reducible exact lines_Read.mono _ _)
   | (with_reducible exact LeO.refl _)
   | (with_reducible exact LeO.none _)
   | (with_reducible refine LeO.ite ?_ ?_)
   | (with_reducible refine LeO.bind ?_ (fun _ => ?_))
theorem flonglaw05_LinesOrder.mono : ∀ a0 a1 k, LeO (flonglaw05_LinesOrder.f k a0 a1) (flonglaw05_LinesOrder.f (k + 1) a0 a1) := by
 intro a0 a1 k
 obtain ⟨ih0, ih1, ih2, ih3, ih4, ih5, ih6, ih7⟩ := flonglaw05_LinesOrder.mono_l k
 unfold flonglaw05_LinesOrder.f
 repeat' first
   | (with_reducible exact ih0 _ _ _)
   | (with_reducible exact ih1 _ _ _ _ _ _)
   | (with_reducible exact ih2 _ _ _ _ _ _)
   | (with_reducible exact ih3 _ _ _ _ _ _)
   | (with_reducible exact ih4 _ _ _ _ _ _ _ _)
   | (with_reducible exact ih5 _ _ _ _ _)
   | (with_reducible exact ih6 _ _ _ _)
   | (with_reducible exact ih7 _ _ _ _ _)
   | (with_reducible exact flonglaw05_known.mono _)
   | (with_reducible exact flongref05_Same.mono _ _ _)
   | (with_reducible exact lines_Read.mono _ _)
   | (with_reducible exact LeO.refl _)
   | (with_reducible exact LeO.none _)
   | (with_reducible refine LeO.ite ?_ ?_)
   | (with_reducible refine LeO.bind ?_ (fun _ => ?_))
theorem flonglaw05_LinesOrder.calls (k : Nat) (a0 : ByteArray) (a1 : ByteArray) (r : Bool) (w : World) (hG : GOK [0] w) (h : flonglaw05_LinesOrder.f k a0 a1 = some r) :
  Calls Tryd.prog 5 #[.string a0, .string a1] w fun e w' => e = .returned (.bool r) ∧ Below w.heap.size w w' := by
 have hu35 := Tryd.underlying35
 have HG := Aside0.mk hG
 clear hG
 have HB := Aside0.mk (Below.refl w.heap.size w)
 have H : (if (a0.size : Int) > 700 then (flonglaw05_LinesOrder.j0 k a0 a1 true) else (flonglaw05_LinesOrder.j0 k a0 a1 (decide ((a1.size : Int) > 700)))) = some r := h
 clear h
 have HC3 := Aside0.mk H
 clear H
 go_enter Tryd.func5, Tryd.ntmps5
 go_upto_region 1 with (fail)
 repeat (go_quiet (fail); go_upto_region 1 with (fail))
 go_cut [27] (fun v27 wc => ∃ (kq : Nat) (x27_2 : Bool), v27 = .bool x27_2 ∧ Aside0 (flonglaw05_LinesOrder.j0 kq a0 a1 x27_2 = some r) ∧ Aside0 (kq ≤ k) ∧ Aside0 (Below w.heap.size w wc))
 case first =>
  have H := HC3.out
  clear HC3
  by_cases c4 : (a0.size : Int) > 700
  ·rw [if_pos c4] at H
   have c4b0 : decide (700 < (a0.size : Int)) = true := decide_eq_true c4
   have c4b1 : decide (700 < a0.size) = true := decide_eq_true (by omega)
   clear c4
   (first | rw [c4b0] | (simp only [i64_w, i32_w]; rw [c4b0]) | skip)
   have H' := Aside0.mk H
   clear H
   go_wp2
   repeat (go_quiet (fail); try go_wp2)
   go_meet
   case rel => exact ⟨_, (true), sA, H', ⟨by first | omega | exact Nat.le_refl _⟩, ⟨bA⟩⟩
  ·rw [if_neg c4] at H
   have c4b0 : decide (700 < (a0.size : Int)) = false := decide_eq_false c4
   have c4b1 : decide (700 < a0.size) = false := decide_eq_false (by omega)
   clear c4
   (first | rw [c4b0] | (simp only [i64_w, i32_w]; rw [c4b0]) | skip)
   have H' := Aside0.mk H
   clear H
   go_wp2
   repeat (go_quiet (fail); try go_wp2)
   go_meet
   case rel => exact ⟨_, (decide ((a1.size : Int) > 700)), sA, H', ⟨by first | omega | exact Nat.le_refl _⟩, ⟨bA⟩⟩
 case rest =>
  clear HC3
  try clear p2
  try clear c4
  try clear c4b0
  try clear c4b1
  obtain ⟨kq, x27_2, rfl, HA, HJ2, HB⟩ := hcut
  cases kq with
  | zero => exact absurd HA.out (by simp [flonglaw05_LinesOrder.j0])
  | succ kj2 =>
   have H := HA.out
   clear HA
   simp only [flonglaw05_LinesOrder.j0] at H
   by_cases c5 : x27_2 = true
   ·subst c5
    have H1 : ((flonglaw05_known.f kj2).bind fun t151 => (some t151)) = some r := by rw [if_pos rfl] at H; exact H
    clear H
    have H := H1
    clear H1
    replace H := Option.bind_eq_some_iff.mp H
    obtain ⟨t151, A60, H⟩ := H
    replace H : (some t151) = some r := H
    have A6 := Aside0.mk A60
    clear A60
    obtain rfl := Option.some.inj H
    go_wp2_with (first | (go_at_call 11; (with_reducible refine (flonglaw05_known.calls kj2  t151 _ ?side1 A6.out).mono ?_); (case side1 => exact GOK.of_below (GOK.sub HG.out rfl) bA); rintro e w7 ⟨rfl, hb⟩; replace HB := Aside0.mk (below_step bA hb); (try clear hb); (try clear hb2); (try clear hk); (try clear hi)))
    repeat (go_quiet (first | (go_at_call 11; (with_reducible refine (flonglaw05_known.calls kj2  t151 _ ?side1 A6.out).mono ?_); (case side1 => exact GOK.of_below (GOK.sub HG.out rfl) bA); rintro e w7 ⟨rfl, hb⟩; replace HB := Aside0.mk (below_step bA hb); (try clear hb); (try clear hb2); (try clear hk); (try clear hi))); try go_wp2_with (first | (go_at_call 11; (with_reducible refine (flonglaw05_known.calls kj2  t151 _ ?side1 A6.out).mono ?_); (case side1 => exact GOK.of_below (GOK.sub HG.out rfl) bA); rintro e w7 ⟨rfl, hb⟩; replace HB := Aside0.mk (below_step bA hb); (try clear hb); (try clear hb2); (try clear hk); (try clear hi))))
    go_ret
    exact ⟨eW, bA⟩
   ·replace c5 := Bool.eq_false_iff.mpr c5
    subst c5
    have H1 : ((lines_Read.f kj2 a0).bind fun bt152 => (flonglaw05_LinesOrder.l0 kj2 a0 a1 bt152.1 bt152.2 0 0)) = some r := by rw [if_neg (show ¬ (false = true) by decide)] at H; exact H
    clear H
    have H := H1
    clear H1
    replace H := Option.bind_eq_some_iff.mp H
    obtain ⟨⟨t152, t153⟩, A80, H⟩ := H
    replace H : (flonglaw05_LinesOrder.l0 kj2 a0 a1 t152 t153 0 0) = some r := H
    have A8 := Aside0.mk A80
    clear A80
    have H' := Aside0.mk H
    clear H
    go_wp2_with (first | (go_at_call 17; (with_reducible refine (lines_Read.calls kj2 a0 t152 t153 _ A8.out).mono ?_); rintro e w9 ⟨v154, v156, rfl, ho0, ho1, hb⟩; have HO155 := Aside0.mk (Kd.N_lower (Kd.N_mono (ok' := fun k_ => some k_ ≠ (v156 : Value).ownBlock) (Kd.S_N (Kd.S_bound (Kd.S_apart' ho0 (Kd.R_typed ho1) (by decide)))) (fun k_ hk_ => hk_.1.2)) (below_size bA)); have HO157 := Aside0.mk (Kd.R_lower ho1 (below_size bA)); replace HB := Aside0.mk (below_step bA hb); (try clear hb); (try clear hb2); (try clear hk); (try clear hi); (try clear ho0); (try clear ho1)))
    repeat (go_quiet (first | (go_at_call 17; (with_reducible refine (lines_Read.calls kj2 a0 t152 t153 _ A8.out).mono ?_); rintro e w9 ⟨v154, v156, rfl, ho0, ho1, hb⟩; have HO155 := Aside0.mk (Kd.N_lower (Kd.N_mono (ok' := fun k_ => some k_ ≠ (v156 : Value).ownBlock) (Kd.S_N (Kd.S_bound (Kd.S_apart' ho0 (Kd.R_typed ho1) (by decide)))) (fun k_ hk_ => hk_.1.2)) (below_size bA)); have HO157 := Aside0.mk (Kd.R_lower ho1 (below_size bA)); replace HB := Aside0.mk (below_step bA hb); (try clear hb); (try clear hb2); (try clear hk); (try clear hi); (try clear ho0); (try clear ho1))); try go_wp2_with (first | (go_at_call 17; (with_reducible refine (lines_Read.calls kj2 a0 t152 t153 _ A8.out).mono ?_); rintro e w9 ⟨v154, v156, rfl, ho0, ho1, hb⟩; have HO155 := Aside0.mk (Kd.N_lower (Kd.N_mono (ok' := fun k_ => some k_ ≠ (v156 : Value).ownBlock) (Kd.S_N (Kd.S_bound (Kd.S_apart' ho0 (Kd.R_typed ho1) (by decide)))) (fun k_ hk_ => hk_.1.2)) (below_size bA)); have HO157 := Aside0.mk (Kd.R_lower ho1 (below_size bA)); replace HB := Aside0.mk (below_step bA hb); (try clear hb); (try clear hb2); (try clear hk); (try clear hi); (try clear ho0); (try clear ho1))))
    go_loopg [7, 8] kj2 (fun kq v7 v8 w' => ∃ (x7_2 : Int) (x8_2 : Int), v7 = .int .i64 x7_2 ∧ v8 = .int .i64 x8_2 ∧ Aside0 (flonglaw05_LinesOrder.l0 kq a0 a1 t152 t153 x7_2 x8_2 = some r) ∧ Aside0 (kq ≤ kj2) ∧ Aside0 (Kd.N k35 35 w' w.heap.size (fun k_ => some k_ ≠ (v156 : Value).ownBlock) v154 t152) ∧ Aside0 (Kd.R k37 37 w' w.heap.size (fun _ => True) v156 t153) ∧ Aside0 (Below w.heap.size w w'))
    case atStart => exact ⟨(0), (0), sA, sA, H', ⟨Nat.le_refl _⟩, ⟨by (with_reducible repeat (first | apply Kd.N_alloc | apply Kd.N_drewN | apply Kd.N_drew)); exact HO155.out⟩, ⟨kR HO157⟩, ⟨bA⟩⟩
    case round =>
     clear H'
     try clear p2
     try clear c4
     try clear c4b0
     try clear c4b1
     try clear c5
     try clear p2
     obtain ⟨x7_2, x8_2, rfl, rfl, HA, HK2, HO_5, HO_6, HB⟩ := hrel
     cases gk with
     | zero => exact absurd HA.out (by simp [flonglaw05_LinesOrder.l0])
     | succ k2 =>
      have H := HA.out
      clear HA
      simp only [flonglaw05_LinesOrder.l0] at H
      by_cases c10 : x8_2 < (a0.size : Int)
      ·rw [if_pos c10] at H
       have c10b0 : decide (x8_2 < (a0.size : Int)) = true := decide_eq_true c10
       clear c10
       by_cases c11 : 0 ≤ x8_2
       ·rw [if_pos c11] at H
        have c11b0 : decide (0 ≤ x8_2) = true := decide_eq_true c11
        clear c11
        by_cases c13 : (bt a0 x8_2) = 10
        ·rw [if_pos c13] at H
         have c13b0 : ((bt a0 x8_2) == 10) = true := beq_iff_eq.mpr c13
         have c13b1 : ((bt a0 x8_2) != 10) = false := bne_eq_false_iff_eq.mpr c13
         clear c13
         by_cases c15 : (bt a0 x8_2) = 92
         ·rw [if_pos c15] at H
          have c15b0 : ((bt a0 x8_2) == 92) = true := beq_iff_eq.mpr c15
          have c15b1 : ((bt a0 x8_2) != 92) = false := bne_eq_false_iff_eq.mpr c15
          clear c15
          replace H := Option.bind_eq_some_iff.mp H
          obtain ⟨t158, A160, H⟩ := H
          replace H : (some t158) = some r := H
          have A16 := Aside0.mk A160
          clear A160
          obtain rfl := Option.some.inj H
          have p12 : 0 ≤ (x8_2 : Int) := of_decide_eq_true asA
          have q12 : x8_2 < (a0.size : Int) := of_decide_eq_true asA
          have hx12 := bt_at a0 x8_2
          replace p12 := eq_true p12
          replace q12 := eq_true q12
          have p14 : 0 ≤ (x8_2 : Int) := of_decide_eq_true asA
          have q14 : x8_2 < (a0.size : Int) := of_decide_eq_true asA
          have hx14 := bt_at a0 x8_2
          replace p14 := eq_true p14
          replace q14 := eq_true q14
          go_wp2_with (first | (go_at_call 11; (with_reducible refine (flonglaw05_known.calls k2  t158 _ ?side1 A16.out).mono ?_); (case side1 => exact GOK.of_below (GOK.sub HG.out rfl) bA); rintro e w17 ⟨rfl, hb⟩; have n0_ := Aside0.mk (Kd.N_below (by (with_reducible repeat (first | apply Kd.N_alloc | apply Kd.N_drewN | apply Kd.N_drew)); exact HO_5.out) hb); have n1_ := Aside0.mk (Kd.R_below (kR HO_6) hb); have n2_ := Aside0.mk (below_step bA hb); clear HO_5; clear HO_6; clear HB; have HO_5 := n0_; have HO_6 := n1_; have HB := n2_; clear n0_ n1_ n2_; (try clear hb); (try clear hb2); (try clear hk); (try clear hi)))
          repeat (go_quiet (first | (go_at_call 11; (with_reducible refine (flonglaw05_known.calls k2  t158 _ ?side1 A16.out).mono ?_); (case side1 => exact GOK.of_below (GOK.sub HG.out rfl) bA); rintro e w17 ⟨rfl, hb⟩; have n0_ := Aside0.mk (Kd.N_below (by (with_reducible repeat (first | apply Kd.N_alloc | apply Kd.N_drewN | apply Kd.N_drew)); exact HO_5.out) hb); have n1_ := Aside0.mk (Kd.R_below (kR HO_6) hb); have n2_ := Aside0.mk (below_step bA hb); clear HO_5; clear HO_6; clear HB; have HO_5 := n0_; have HO_6 := n1_; have HB := n2_; clear n0_ n1_ n2_; (try clear hb); (try clear hb2); (try clear hk); (try clear hi))); try go_wp2_with (first | (go_at_call 11; (with_reducible refine (flonglaw05_known.calls k2  t158 _ ?side1 A16.out).mono ?_); (case side1 => exact GOK.of_below (GOK.sub HG.out rfl) bA); rintro e w17 ⟨rfl, hb⟩; have n0_ := Aside0.mk (Kd.N_below (by (with_reducible repeat (first | apply Kd.N_alloc | apply Kd.N_drewN | apply Kd.N_drew)); exact HO_5.out) hb); have n1_ := Aside0.mk (Kd.R_below (kR HO_6) hb); have n2_ := Aside0.mk (below_step bA hb); clear HO_5; clear HO_6; clear HB; have HO_5 := n0_; have HO_6 := n1_; have HB := n2_; clear n0_ n1_ n2_; (try clear hb); (try clear hb2); (try clear hk); (try clear hi))))
          go_ret
          exact ⟨eW, bA⟩
         ·rw [if_neg c15] at H
          have c15b0 : ((bt a0 x8_2) == 92) = false := beq_eq_false_iff_ne.mpr c15
          have c15b1 : ((bt a0 x8_2) != 92) = true := bne_iff_ne.mpr c15
          have H' := Aside0.mk H
          clear H
          have p12 : 0 ≤ (x8_2 : Int) := of_decide_eq_true asA
          have q12 : x8_2 < (a0.size : Int) := of_decide_eq_true asA
          have hx12 := bt_at a0 x8_2
          replace p12 := eq_true p12
          replace q12 := eq_true q12
          have p14 : 0 ≤ (x8_2 : Int) := of_decide_eq_true asA
          have q14 : x8_2 < (a0.size : Int) := of_decide_eq_true asA
          have hx14 := bt_at a0 x8_2
          replace p14 := eq_true p14
          replace q14 := eq_true q14
          go_wp2
          repeat (go_quiet (fail); try go_wp2)
          go_roundg k2
          case measure => have := HJ2.out; have := HK2.out; omega
          case rel => exact ⟨(wrap64 (x7_2 + 1)), (wrap64 (x8_2 + 1)), sA, sA, H', ⟨by have := HJ2.out; have := HK2.out; omega⟩, ⟨by (with_reducible repeat (first | apply Kd.N_alloc | apply Kd.N_drewN | apply Kd.N_drew)); exact HO_5.out⟩, ⟨kR HO_6⟩, ⟨bA⟩⟩
        ·rw [if_neg c13] at H
         have c13b0 : ((bt a0 x8_2) == 10) = false := beq_eq_false_iff_ne.mpr c13
         have c13b1 : ((bt a0 x8_2) != 10) = true := bne_iff_ne.mpr c13
         by_cases c19 : (bt a0 x8_2) = 92
         ·rw [if_pos c19] at H
          have c19b0 : ((bt a0 x8_2) == 92) = true := beq_iff_eq.mpr c19
          have c19b1 : ((bt a0 x8_2) != 92) = false := bne_eq_false_iff_eq.mpr c19
          clear c19
          replace H := Option.bind_eq_some_iff.mp H
          obtain ⟨t159, A200, H⟩ := H
          replace H : (some t159) = some r := H
          have A20 := Aside0.mk A200
          clear A200
          obtain rfl := Option.some.inj H
          have p12 : 0 ≤ (x8_2 : Int) := of_decide_eq_true asA
          have q12 : x8_2 < (a0.size : Int) := of_decide_eq_true asA
          have hx12 := bt_at a0 x8_2
          replace p12 := eq_true p12
          replace q12 := eq_true q12
          have p18 : 0 ≤ (x8_2 : Int) := of_decide_eq_true asA
          have q18 : x8_2 < (a0.size : Int) := of_decide_eq_true asA
          have hx18 := bt_at a0 x8_2
          replace p18 := eq_true p18
          replace q18 := eq_true q18
          go_wp2_with (first | (go_at_call 11; (with_reducible refine (flonglaw05_known.calls k2  t159 _ ?side1 A20.out).mono ?_); (case side1 => exact GOK.of_below (GOK.sub HG.out rfl) bA); rintro e w21 ⟨rfl, hb⟩; have n0_ := Aside0.mk (Kd.N_below (by (with_reducible repeat (first | apply Kd.N_alloc | apply Kd.N_drewN | apply Kd.N_drew)); exact HO_5.out) hb); have n1_ := Aside0.mk (Kd.R_below (kR HO_6) hb); have n2_ := Aside0.mk (below_step bA hb); clear HO_5; clear HO_6; clear HB; have HO_5 := n0_; have HO_6 := n1_; have HB := n2_; clear n0_ n1_ n2_; (try clear hb); (try clear hb2); (try clear hk); (try clear hi)))
          repeat (go_quiet (first | (go_at_call 11; (with_reducible refine (flonglaw05_known.calls k2  t159 _ ?side1 A20.out).mono ?_); (case side1 => exact GOK.of_below (GOK.sub HG.out rfl) bA); rintro e w21 ⟨rfl, hb⟩; have n0_ := Aside0.mk (Kd.N_below (by (with_reducible repeat (first | apply Kd.N_alloc | apply Kd.N_drewN | apply Kd.N_drew)); exact HO_5.out) hb); have n1_ := Aside0.mk (Kd.R_below (kR HO_6) hb); have n2_ := Aside0.mk (below_step bA hb); clear HO_5; clear HO_6; clear HB; have HO_5 := n0_; have HO_6 := n1_; have HB := n2_; clear n0_ n1_ n2_; (try clear hb); (try clear hb2); (try clear hk); (try clear hi))); try go_wp2_with (first | (go_at_call 11; (with_reducible refine (flonglaw05_known.calls k2  t159 _ ?side1 A20.out).mono ?_); (case side1 => exact GOK.of_below (GOK.sub HG.out rfl) bA); rintro e w21 ⟨rfl, hb⟩; have n0_ := Aside0.mk (Kd.N_below (by (with_reducible repeat (first | apply Kd.N_alloc | apply Kd.N_drewN | apply Kd.N_drew)); exact HO_5.out) hb); have n1_ := Aside0.mk (Kd.R_below (kR HO_6) hb); have n2_ := Aside0.mk (below_step bA hb); clear HO_5; clear HO_6; clear HB; have HO_5 := n0_; have HO_6 := n1_; have HB := n2_; clear n0_ n1_ n2_; (try clear hb); (try clear hb2); (try clear hk); (try clear hi))))
          go_ret
          exact ⟨eW, bA⟩
         ·rw [if_neg c19] at H
          have c19b0 : ((bt a0 x8_2) == 92) = false := beq_eq_false_iff_ne.mpr c19
          have c19b1 : ((bt a0 x8_2) != 92) = true := bne_iff_ne.mpr c19
          have H' := Aside0.mk H
          clear H
          have p12 : 0 ≤ (x8_2 : Int) := of_decide_eq_true asA
          have q12 : x8_2 < (a0.size : Int) := of_decide_eq_true asA
          have hx12 := bt_at a0 x8_2
          replace p12 := eq_true p12
          replace q12 := eq_true q12
          have p18 : 0 ≤ (x8_2 : Int) := of_decide_eq_true asA
          have q18 : x8_2 < (a0.size : Int) := of_decide_eq_true asA
          have hx18 := bt_at a0 x8_2
          replace p18 := eq_true p18
          replace q18 := eq_true q18
          go_wp2
          repeat (go_quiet (fail); try go_wp2)
          go_roundg k2
          case measure => have := HJ2.out; have := HK2.out; omega
          case rel => exact ⟨(x7_2), (wrap64 (x8_2 + 1)), sA, sA, H', ⟨by have := HJ2.out; have := HK2.out; omega⟩, ⟨by (with_reducible repeat (first | apply Kd.N_alloc | apply Kd.N_drewN | apply Kd.N_drew)); exact HO_5.out⟩, ⟨kR HO_6⟩, ⟨bA⟩⟩
       ·rw [if_neg c11] at H
        exact absurd H (by simp)
      ·rw [if_neg c10] at H
       have c10b0 : decide (x8_2 < (a0.size : Int)) = false := decide_eq_false c10
       clear c10
       have H' := Aside0.mk H
       clear H
       go_wp2
       repeat (go_quiet (fail); try go_wp2)
       go_loopg [9] k2 (fun kq v9 w' => ∃ (x9_3 : Int), v9 = .int .i64 x9_3 ∧ Aside0 (flonglaw05_LinesOrder.l1 kq a0 a1 t152 t153 x7_2 x9_3 = some r) ∧ Aside0 (kq ≤ k2) ∧ Aside0 (Kd.N k35 35 w' w.heap.size (fun k_ => some k_ ≠ (v156 : Value).ownBlock) v154 t152) ∧ Aside0 (Kd.R k37 37 w' w.heap.size (fun _ => True) v156 t153) ∧ Aside0 (Below w.heap.size w w'))
       case atStart => exact ⟨(0), sA, H', ⟨Nat.le_refl _⟩, ⟨by (with_reducible repeat (first | apply Kd.N_alloc | apply Kd.N_drewN | apply Kd.N_drew)); exact HO_5.out⟩, ⟨kR HO_6⟩, ⟨bA⟩⟩
       case round =>
        clear H'
        try clear c1
        try clear p1
        try clear q1
        try clear hx1
        try clear p2
        try clear c4
        try clear c4b0
        try clear c4b1
        try clear c5
        try clear p6
        try clear c10
        try clear c10b0
        try clear c11
        try clear c11b0
        try clear p12
        try clear q12
        try clear hx12
        try clear c13
        try clear c13b0
        try clear c13b1
        try clear p14
        try clear q14
        try clear hx14
        try clear c15
        try clear c15b0
        try clear c15b1
        try clear p18
        try clear q18
        try clear hx18
        try clear c19
        try clear c19b0
        try clear c19b1
        try clear p12
        try clear p14
        try clear p18
        try clear p2
        try clear q12
        try clear q14
        try clear q18
        obtain ⟨x9_3, rfl, HA, HK3, HO_5, HO_6, HB⟩ := hrel
        cases gk with
        | zero => exact absurd HA.out (by simp [flonglaw05_LinesOrder.l1])
        | succ k3 =>
         have H := HA.out
         clear HA
         simp only [flonglaw05_LinesOrder.l1] at H
         by_cases c22 : x9_3 < (t152.length : Int)
         ·rw [if_pos c22] at H
          have c22b0 : decide (x9_3 < (t152.length : Int)) = true := decide_eq_true c22
          clear c22
          by_cases c23 : 0 ≤ x9_3
          ·rw [if_pos c23] at H
           have c23b0 : decide (0 ≤ x9_3) = true := decide_eq_true c23
           clear c23
           by_cases c24 : ((rd_T35 t152 x9_3).f0) < 1
           ·rw [if_pos c24] at H
            have c24b0 : decide (((rd_T35 t152 x9_3).f0) < 1) = true := decide_eq_true c24
            clear c24
            obtain rfl := Option.some.inj H
            obtain ⟨Ao25, co25, eo25⟩ := Kd.N_slice HO_5.out
            subst eo25
            have p160 : 0 ≤ (x9_3 : Int) := of_decide_eq_true asA
            have q160 : x9_3 < (t152.length : Int) := of_decide_eq_true asA
            obtain ⟨ad160, A160_2, c160_2, e160, hx160_0, hx160_1, hx160_2, hx160_3, hl160_2, hi160_2⟩ := at_T35 (Kd.N_reads' HO_5.out).2.2 x9_3 p160 q160
            cases e160
            obtain ⟨ce160, hce160, hMe160, hcc160⟩ := Kd.N_get HO_5.out z35 x9_3 p160 (by first | exact q160 | exact of_decide_eq_true asA | (have e_ := (Kd.N_reads' HO_5.out).1; omega))
            obtain ⟨ua160_2, uc160_2, rfl, ul160_2, ge160_2⟩ := k35_openF hMe160
            have hv160_2 := hcc160 2 _ rfl
            rw [add_field _ _ 2 (by omega)] at hv160_2
            replace hv160_2 := Option.some.inj (hv160_2.symm.trans hx160_2)
            injection hv160_2 with hva_ hvn_ hvc_
            rw [hva_] at ge160_2
            rw [hvc_] at ul160_2
            have HL160_2 := Aside0.mk (show Kd.V Kd.string 9 _ w.heap.size _ _ ((rd_T35 t152 x9_3).f2) from Kd.V_mk ul160_2 ge160_2)
            clear hva_ hvn_ hvc_ ge160_2 ul160_2
            clear hcc160 hce160
            have HR160_2 := Aside0.mk hi160_2
            have HC160_2 := Aside0.mk hl160_2
            clear hi160_2 hl160_2
            replace p160 := eq_true p160
            replace q160 := eq_true q160
            go_wp2
            repeat (go_quiet (fail); try go_wp2)
            go_ret
            exact ⟨eW, bA⟩
           ·rw [if_neg c24] at H
            have c24b0 : decide (((rd_T35 t152 x9_3).f0) < 1) = false := decide_eq_false c24
            clear c24
            by_cases c26 : ((rd_T35 t152 x9_3).f0) > (wrap64 (x7_2 + 1))
            ·rw [if_pos c26] at H
             have c26b0 : decide ((wrap64 (x7_2 + 1)) < ((rd_T35 t152 x9_3).f0)) = true := decide_eq_true c26
             clear c26
             obtain rfl := Option.some.inj H
             obtain ⟨Ao27, co27, eo27⟩ := Kd.N_slice HO_5.out
             subst eo27
             have p160 : 0 ≤ (x9_3 : Int) := of_decide_eq_true asA
             have q160 : x9_3 < (t152.length : Int) := of_decide_eq_true asA
             obtain ⟨ad160, A160_2, c160_2, e160, hx160_0, hx160_1, hx160_2, hx160_3, hl160_2, hi160_2⟩ := at_T35 (Kd.N_reads' HO_5.out).2.2 x9_3 p160 q160
             cases e160
             obtain ⟨ce160, hce160, hMe160, hcc160⟩ := Kd.N_get HO_5.out z35 x9_3 p160 (by first | exact q160 | exact of_decide_eq_true asA | (have e_ := (Kd.N_reads' HO_5.out).1; omega))
             obtain ⟨ua160_2, uc160_2, rfl, ul160_2, ge160_2⟩ := k35_openF hMe160
             have hv160_2 := hcc160 2 _ rfl
             rw [add_field _ _ 2 (by omega)] at hv160_2
             replace hv160_2 := Option.some.inj (hv160_2.symm.trans hx160_2)
             injection hv160_2 with hva_ hvn_ hvc_
             rw [hva_] at ge160_2
             rw [hvc_] at ul160_2
             have HL160_2 := Aside0.mk (show Kd.V Kd.string 9 _ w.heap.size _ _ ((rd_T35 t152 x9_3).f2) from Kd.V_mk ul160_2 ge160_2)
             clear hva_ hvn_ hvc_ ge160_2 ul160_2
             clear hcc160 hce160
             have HR160_2 := Aside0.mk hi160_2
             have HC160_2 := Aside0.mk hl160_2
             clear hi160_2 hl160_2
             replace p160 := eq_true p160
             replace q160 := eq_true q160
             have p161 : 0 ≤ (x9_3 : Int) := of_decide_eq_true asA
             have q161 : x9_3 < (t152.length : Int) := of_decide_eq_true asA
             obtain ⟨ad161, A161_2, c161_2, e161, hx161_0, hx161_1, hx161_2, hx161_3, hl161_2, hi161_2⟩ := at_T35 (Kd.N_reads' HO_5.out).2.2 x9_3 p161 q161
             obtain rfl : ad160 = ad161 := (by injection e161)
             obtain ⟨ce161, hce161, hMe161, hcc161⟩ := Kd.N_get HO_5.out z35 x9_3 p161 (by first | exact q161 | exact of_decide_eq_true asA | (have e_ := (Kd.N_reads' HO_5.out).1; omega))
             obtain ⟨ua161_2, uc161_2, rfl, ul161_2, ge161_2⟩ := k35_openF hMe161
             have hv161_2 := hcc161 2 _ rfl
             rw [add_field _ _ 2 (by omega)] at hv161_2
             replace hv161_2 := Option.some.inj (hv161_2.symm.trans hx161_2)
             injection hv161_2 with hva_ hvn_ hvc_
             rw [hva_] at ge161_2
             rw [hvc_] at ul161_2
             have HL161_2 := Aside0.mk (show Kd.V Kd.string 9 _ w.heap.size _ _ ((rd_T35 t152 x9_3).f2) from Kd.V_mk ul161_2 ge161_2)
             clear hva_ hvn_ hvc_ ge161_2 ul161_2
             clear hcc161 hce161
             have HR161_2 := Aside0.mk hi161_2
             have HC161_2 := Aside0.mk hl161_2
             clear hi161_2 hl161_2
             replace p161 := eq_true p161
             replace q161 := eq_true q161
             have ea_ := Option.some.inj (hx160_2.symm.trans hx161_2)
             injection ea_ with ea_ en_ ec_
             subst ea_
             subst ec_
             clear en_
             go_wp2
             repeat (go_quiet (fail); try go_wp2)
             go_ret
             exact ⟨eW, bA⟩
            ·rw [if_neg c26] at H
             have c26b0 : decide ((wrap64 (x7_2 + 1)) < ((rd_T35 t152 x9_3).f0)) = false := decide_eq_false c26
             clear c26
             by_cases c28 : x9_3 > 0
             ·rw [if_pos c28] at H
              have c28b0 : decide (0 < x9_3) = true := decide_eq_true c28
              clear c28
              obtain ⟨ji29, hji29⟩ : ∃ j_ : Int, (wrap64 (x9_3 - 1)) = j_ := ⟨_, rfl⟩
              replace H : (if 0 ≤ (ji29) then (if (ji29) < (t152.length : Int) then (if ((rd_T35 t152 x9_3).f0) ≤ ((rd_T35 t152 (ji29)).f0) then (some false) else (flonglaw05_LinesOrder.l1 k3 a0 a1 t152 t153 x7_2 (wrap64 (x9_3 + 1)))) else (none)) else (none)) = some r := by first | (rw [hji29] at H; exact H) | (simp only [hji29] at H ⊢; exact H)
              have hji29w : (IntKind.i64.wrap (x9_3 - 1)) = ji29 := (i64_w _).trans hji29
              by_cases c30 : 0 ≤ (ji29)
              ·rw [if_pos c30] at H
               have c30b0 : decide (0 ≤ (ji29)) = true := decide_eq_true c30
               clear c30
               by_cases c31 : (ji29) < (t152.length : Int)
               ·rw [if_pos c31] at H
                have c31b0 : decide ((ji29) < (t152.length : Int)) = true := decide_eq_true c31
                clear c31
                by_cases c32 : ((rd_T35 t152 x9_3).f0) ≤ ((rd_T35 t152 (ji29)).f0)
                ·rw [if_pos c32] at H
                 have c32b0 : decide (((rd_T35 t152 x9_3).f0) ≤ ((rd_T35 t152 (ji29)).f0)) = true := decide_eq_true c32
                 clear c32
                 obtain rfl := Option.some.inj H
                 obtain ⟨Ao33, co33, eo33⟩ := Kd.N_slice HO_5.out
                 subst eo33
                 have p160 : 0 ≤ (x9_3 : Int) := of_decide_eq_true asA
                 have q160 : x9_3 < (t152.length : Int) := of_decide_eq_true asA
                 obtain ⟨ad160, A160_2, c160_2, e160, hx160_0, hx160_1, hx160_2, hx160_3, hl160_2, hi160_2⟩ := at_T35 (Kd.N_reads' HO_5.out).2.2 x9_3 p160 q160
                 cases e160
                 obtain ⟨ce160, hce160, hMe160, hcc160⟩ := Kd.N_get HO_5.out z35 x9_3 p160 (by first | exact q160 | exact of_decide_eq_true asA | (have e_ := (Kd.N_reads' HO_5.out).1; omega))
                 obtain ⟨ua160_2, uc160_2, rfl, ul160_2, ge160_2⟩ := k35_openF hMe160
                 have hv160_2 := hcc160 2 _ rfl
                 rw [add_field _ _ 2 (by omega)] at hv160_2
                 replace hv160_2 := Option.some.inj (hv160_2.symm.trans hx160_2)
                 injection hv160_2 with hva_ hvn_ hvc_
                 rw [hva_] at ge160_2
                 rw [hvc_] at ul160_2
                 have HL160_2 := Aside0.mk (show Kd.V Kd.string 9 _ w.heap.size _ _ ((rd_T35 t152 x9_3).f2) from Kd.V_mk ul160_2 ge160_2)
                 clear hva_ hvn_ hvc_ ge160_2 ul160_2
                 clear hcc160 hce160
                 have HR160_2 := Aside0.mk hi160_2
                 have HC160_2 := Aside0.mk hl160_2
                 clear hi160_2 hl160_2
                 replace p160 := eq_true p160
                 replace q160 := eq_true q160
                 have p161 : 0 ≤ (x9_3 : Int) := of_decide_eq_true asA
                 have q161 : x9_3 < (t152.length : Int) := of_decide_eq_true asA
                 obtain ⟨ad161, A161_2, c161_2, e161, hx161_0, hx161_1, hx161_2, hx161_3, hl161_2, hi161_2⟩ := at_T35 (Kd.N_reads' HO_5.out).2.2 x9_3 p161 q161
                 obtain rfl : ad160 = ad161 := (by injection e161)
                 obtain ⟨ce161, hce161, hMe161, hcc161⟩ := Kd.N_get HO_5.out z35 x9_3 p161 (by first | exact q161 | exact of_decide_eq_true asA | (have e_ := (Kd.N_reads' HO_5.out).1; omega))
                 obtain ⟨ua161_2, uc161_2, rfl, ul161_2, ge161_2⟩ := k35_openF hMe161
                 have hv161_2 := hcc161 2 _ rfl
                 rw [add_field _ _ 2 (by omega)] at hv161_2
                 replace hv161_2 := Option.some.inj (hv161_2.symm.trans hx161_2)
                 injection hv161_2 with hva_ hvn_ hvc_
                 rw [hva_] at ge161_2
                 rw [hvc_] at ul161_2
                 have HL161_2 := Aside0.mk (show Kd.V Kd.string 9 _ w.heap.size _ _ ((rd_T35 t152 x9_3).f2) from Kd.V_mk ul161_2 ge161_2)
                 clear hva_ hvn_ hvc_ ge161_2 ul161_2
                 clear hcc161 hce161
                 have HR161_2 := Aside0.mk hi161_2
                 have HC161_2 := Aside0.mk hl161_2
                 clear hi161_2 hl161_2
                 replace p161 := eq_true p161
                 replace q161 := eq_true q161
                 have ea_ := Option.some.inj (hx160_2.symm.trans hx161_2)
                 injection ea_ with ea_ en_ ec_
                 subst ea_
                 subst ec_
                 clear en_
                 have p162 : 0 ≤ (x9_3 : Int) := of_decide_eq_true asA
                 have q162 : x9_3 < (t152.length : Int) := of_decide_eq_true asA
                 obtain ⟨ad162, A162_2, c162_2, e162, hx162_0, hx162_1, hx162_2, hx162_3, hl162_2, hi162_2⟩ := at_T35 (Kd.N_reads' HO_5.out).2.2 x9_3 p162 q162
                 obtain rfl : ad160 = ad162 := (by injection e162)
                 obtain ⟨ce162, hce162, hMe162, hcc162⟩ := Kd.N_get HO_5.out z35 x9_3 p162 (by first | exact q162 | exact of_decide_eq_true asA | (have e_ := (Kd.N_reads' HO_5.out).1; omega))
                 obtain ⟨ua162_2, uc162_2, rfl, ul162_2, ge162_2⟩ := k35_openF hMe162
                 have hv162_2 := hcc162 2 _ rfl
                 rw [add_field _ _ 2 (by omega)] at hv162_2
                 replace hv162_2 := Option.some.inj (hv162_2.symm.trans hx162_2)
                 injection hv162_2 with hva_ hvn_ hvc_
                 rw [hva_] at ge162_2
                 rw [hvc_] at ul162_2
                 have HL162_2 := Aside0.mk (show Kd.V Kd.string 9 _ w.heap.size _ _ ((rd_T35 t152 x9_3).f2) from Kd.V_mk ul162_2 ge162_2)
                 clear hva_ hvn_ hvc_ ge162_2 ul162_2
                 clear hcc162 hce162
                 have HR162_2 := Aside0.mk hi162_2
                 have HC162_2 := Aside0.mk hl162_2
                 clear hi162_2 hl162_2
                 replace p162 := eq_true p162
                 replace q162 := eq_true q162
                 have ea_ := Option.some.inj (hx160_2.symm.trans hx162_2)
                 injection ea_ with ea_ en_ ec_
                 subst ea_
                 subst ec_
                 clear en_
                 have p163 : 0 ≤ ((ji29) : Int) := of_decide_eq_true asA
                 have q163 : (ji29) < (t152.length : Int) := of_decide_eq_true asA
                 obtain ⟨ad163, A163_2, c163_2, e163, hx163_0, hx163_1, hx163_2, hx163_3, hl163_2, hi163_2⟩ := at_T35 (Kd.N_reads' HO_5.out).2.2 (ji29) p163 q163
                 obtain rfl : ad160 = ad163 := (by injection e163)
                 obtain ⟨ce163, hce163, hMe163, hcc163⟩ := Kd.N_get HO_5.out z35 (ji29) p163 (by first | exact q163 | exact of_decide_eq_true asA | (have e_ := (Kd.N_reads' HO_5.out).1; omega))
                 obtain ⟨ua163_2, uc163_2, rfl, ul163_2, ge163_2⟩ := k35_openF hMe163
                 have hv163_2 := hcc163 2 _ rfl
                 rw [add_field _ _ 2 (by omega)] at hv163_2
                 replace hv163_2 := Option.some.inj (hv163_2.symm.trans hx163_2)
                 injection hv163_2 with hva_ hvn_ hvc_
                 rw [hva_] at ge163_2
                 rw [hvc_] at ul163_2
                 have HL163_2 := Aside0.mk (show Kd.V Kd.string 9 _ w.heap.size _ _ ((rd_T35 t152 (ji29)).f2) from Kd.V_mk ul163_2 ge163_2)
                 clear hva_ hvn_ hvc_ ge163_2 ul163_2
                 clear hcc163 hce163
                 have HR163_2 := Aside0.mk hi163_2
                 have HC163_2 := Aside0.mk hl163_2
                 clear hi163_2 hl163_2
                 replace p163 := eq_true p163
                 replace q163 := eq_true q163
                 go_wp2
                 repeat (go_quiet (fail); try go_wp2)
                 go_ret
                 exact ⟨by first | rfl | (simp [errW_none, errW_some] <;> rfl) | (simp only [← hji29]; first | rfl | (simp [errW_none, errW_some] <;> rfl)) | (simp [*, errW_none, errW_some] <;> rfl), bA⟩
                ·rw [if_neg c32] at H
                 have c32b0 : decide (((rd_T35 t152 x9_3).f0) ≤ ((rd_T35 t152 (ji29)).f0)) = false := decide_eq_false c32
                 clear c32
                 have H' := Aside0.mk H
                 clear H
                 obtain ⟨Ao34, co34, eo34⟩ := Kd.N_slice HO_5.out
                 subst eo34
                 have p160 : 0 ≤ (x9_3 : Int) := of_decide_eq_true asA
                 have q160 : x9_3 < (t152.length : Int) := of_decide_eq_true asA
                 obtain ⟨ad160, A160_2, c160_2, e160, hx160_0, hx160_1, hx160_2, hx160_3, hl160_2, hi160_2⟩ := at_T35 (Kd.N_reads' HO_5.out).2.2 x9_3 p160 q160
                 cases e160
                 obtain ⟨ce160, hce160, hMe160, hcc160⟩ := Kd.N_get HO_5.out z35 x9_3 p160 (by first | exact q160 | exact of_decide_eq_true asA | (have e_ := (Kd.N_reads' HO_5.out).1; omega))
                 obtain ⟨ua160_2, uc160_2, rfl, ul160_2, ge160_2⟩ := k35_openF hMe160
                 have hv160_2 := hcc160 2 _ rfl
                 rw [add_field _ _ 2 (by omega)] at hv160_2
                 replace hv160_2 := Option.some.inj (hv160_2.symm.trans hx160_2)
                 injection hv160_2 with hva_ hvn_ hvc_
                 rw [hva_] at ge160_2
                 rw [hvc_] at ul160_2
                 have HL160_2 := Aside0.mk (show Kd.V Kd.string 9 _ w.heap.size _ _ ((rd_T35 t152 x9_3).f2) from Kd.V_mk ul160_2 ge160_2)
                 clear hva_ hvn_ hvc_ ge160_2 ul160_2
                 clear hcc160 hce160
                 have HR160_2 := Aside0.mk hi160_2
                 have HC160_2 := Aside0.mk hl160_2
                 clear hi160_2 hl160_2
                 replace p160 := eq_true p160
                 replace q160 := eq_true q160
                 have p161 : 0 ≤ (x9_3 : Int) := of_decide_eq_true asA
                 have q161 : x9_3 < (t152.length : Int) := of_decide_eq_true asA
                 obtain ⟨ad161, A161_2, c161_2, e161, hx161_0, hx161_1, hx161_2, hx161_3, hl161_2, hi161_2⟩ := at_T35 (Kd.N_reads' HO_5.out).2.2 x9_3 p161 q161
                 obtain rfl : ad160 = ad161 := (by injection e161)
                 obtain ⟨ce161, hce161, hMe161, hcc161⟩ := Kd.N_get HO_5.out z35 x9_3 p161 (by first | exact q161 | exact of_decide_eq_true asA | (have e_ := (Kd.N_reads' HO_5.out).1; omega))
                 obtain ⟨ua161_2, uc161_2, rfl, ul161_2, ge161_2⟩ := k35_openF hMe161
                 have hv161_2 := hcc161 2 _ rfl
                 rw [add_field _ _ 2 (by omega)] at hv161_2
                 replace hv161_2 := Option.some.inj (hv161_2.symm.trans hx161_2)
                 injection hv161_2 with hva_ hvn_ hvc_
                 rw [hva_] at ge161_2
                 rw [hvc_] at ul161_2
                 have HL161_2 := Aside0.mk (show Kd.V Kd.string 9 _ w.heap.size _ _ ((rd_T35 t152 x9_3).f2) from Kd.V_mk ul161_2 ge161_2)
                 clear hva_ hvn_ hvc_ ge161_2 ul161_2
                 clear hcc161 hce161
                 have HR161_2 := Aside0.mk hi161_2
                 have HC161_2 := Aside0.mk hl161_2
                 clear hi161_2 hl161_2
                 replace p161 := eq_true p161
                 replace q161 := eq_true q161
                 have ea_ := Option.some.inj (hx160_2.symm.trans hx161_2)
                 injection ea_ with ea_ en_ ec_
                 subst ea_
                 subst ec_
                 clear en_
                 have p162 : 0 ≤ (x9_3 : Int) := of_decide_eq_true asA
                 have q162 : x9_3 < (t152.length : Int) := of_decide_eq_true asA
                 obtain ⟨ad162, A162_2, c162_2, e162, hx162_0, hx162_1, hx162_2, hx162_3, hl162_2, hi162_2⟩ := at_T35 (Kd.N_reads' HO_5.out).2.2 x9_3 p162 q162
                 obtain rfl : ad160 = ad162 := (by injection e162)
                 obtain ⟨ce162, hce162, hMe162, hcc162⟩ := Kd.N_get HO_5.out z35 x9_3 p162 (by first | exact q162 | exact of_decide_eq_true asA | (have e_ := (Kd.N_reads' HO_5.out).1; omega))
                 obtain ⟨ua162_2, uc162_2, rfl, ul162_2, ge162_2⟩ := k35_openF hMe162
                 have hv162_2 := hcc162 2 _ rfl
                 rw [add_field _ _ 2 (by omega)] at hv162_2
                 replace hv162_2 := Option.some.inj (hv162_2.symm.trans hx162_2)
                 injection hv162_2 with hva_ hvn_ hvc_
                 rw [hva_] at ge162_2
                 rw [hvc_] at ul162_2
                 have HL162_2 := Aside0.mk (show Kd.V Kd.string 9 _ w.heap.size _ _ ((rd_T35 t152 x9_3).f2) from Kd.V_mk ul162_2 ge162_2)
                 clear hva_ hvn_ hvc_ ge162_2 ul162_2
                 clear hcc162 hce162
                 have HR162_2 := Aside0.mk hi162_2
                 have HC162_2 := Aside0.mk hl162_2
                 clear hi162_2 hl162_2
                 replace p162 := eq_true p162
                 replace q162 := eq_true q162
                 have ea_ := Option.some.inj (hx160_2.symm.trans hx162_2)
                 injection ea_ with ea_ en_ ec_
                 subst ea_
                 subst ec_
                 clear en_
                 have p163 : 0 ≤ ((ji29) : Int) := of_decide_eq_true asA
                 have q163 : (ji29) < (t152.length : Int) := of_decide_eq_true asA
                 obtain ⟨ad163, A163_2, c163_2, e163, hx163_0, hx163_1, hx163_2, hx163_3, hl163_2, hi163_2⟩ := at_T35 (Kd.N_reads' HO_5.out).2.2 (ji29) p163 q163
                 obtain rfl : ad160 = ad163 := (by injection e163)
                 obtain ⟨ce163, hce163, hMe163, hcc163⟩ := Kd.N_get HO_5.out z35 (ji29) p163 (by first | exact q163 | exact of_decide_eq_true asA | (have e_ := (Kd.N_reads' HO_5.out).1; omega))
                 obtain ⟨ua163_2, uc163_2, rfl, ul163_2, ge163_2⟩ := k35_openF hMe163
                 have hv163_2 := hcc163 2 _ rfl
                 rw [add_field _ _ 2 (by omega)] at hv163_2
                 replace hv163_2 := Option.some.inj (hv163_2.symm.trans hx163_2)
                 injection hv163_2 with hva_ hvn_ hvc_
                 rw [hva_] at ge163_2
                 rw [hvc_] at ul163_2
                 have HL163_2 := Aside0.mk (show Kd.V Kd.string 9 _ w.heap.size _ _ ((rd_T35 t152 (ji29)).f2) from Kd.V_mk ul163_2 ge163_2)
                 clear hva_ hvn_ hvc_ ge163_2 ul163_2
                 clear hcc163 hce163
                 have HR163_2 := Aside0.mk hi163_2
                 have HC163_2 := Aside0.mk hl163_2
                 clear hi163_2 hl163_2
                 replace p163 := eq_true p163
                 replace q163 := eq_true q163
                 go_wp2
                 repeat (go_quiet (fail); try go_wp2)
                 go_roundg k3
                 case measure => have := HJ2.out; have := HK2.out; have := HK3.out; omega
                 case rel => exact ⟨(wrap64 (x9_3 + 1)), sA, H', ⟨by have := HJ2.out; have := HK2.out; have := HK3.out; omega⟩, ⟨by (with_reducible repeat (first | apply Kd.N_alloc | apply Kd.N_drewN | apply Kd.N_drew)); exact HO_5.out⟩, ⟨kR HO_6⟩, ⟨bA⟩⟩
               ·rw [if_neg c31] at H
                exact absurd H (by simp)
              ·rw [if_neg c30] at H
               exact absurd H (by simp)
             ·rw [if_neg c28] at H
              have c28b0 : decide (0 < x9_3) = false := decide_eq_false c28
              clear c28
              have H' := Aside0.mk H
              clear H
              obtain ⟨Ao35, co35, eo35⟩ := Kd.N_slice HO_5.out
              subst eo35
              have p160 : 0 ≤ (x9_3 : Int) := of_decide_eq_true asA
              have q160 : x9_3 < (t152.length : Int) := of_decide_eq_true asA
              obtain ⟨ad160, A160_2, c160_2, e160, hx160_0, hx160_1, hx160_2, hx160_3, hl160_2, hi160_2⟩ := at_T35 (Kd.N_reads' HO_5.out).2.2 x9_3 p160 q160
              cases e160
              obtain ⟨ce160, hce160, hMe160, hcc160⟩ := Kd.N_get HO_5.out z35 x9_3 p160 (by first | exact q160 | exact of_decide_eq_true asA | (have e_ := (Kd.N_reads' HO_5.out).1; omega))
              obtain ⟨ua160_2, uc160_2, rfl, ul160_2, ge160_2⟩ := k35_openF hMe160
              have hv160_2 := hcc160 2 _ rfl
              rw [add_field _ _ 2 (by omega)] at hv160_2
              replace hv160_2 := Option.some.inj (hv160_2.symm.trans hx160_2)
              injection hv160_2 with hva_ hvn_ hvc_
              rw [hva_] at ge160_2
              rw [hvc_] at ul160_2
              have HL160_2 := Aside0.mk (show Kd.V Kd.string 9 _ w.heap.size _ _ ((rd_T35 t152 x9_3).f2) from Kd.V_mk ul160_2 ge160_2)
              clear hva_ hvn_ hvc_ ge160_2 ul160_2
              clear hcc160 hce160
              have HR160_2 := Aside0.mk hi160_2
              have HC160_2 := Aside0.mk hl160_2
              clear hi160_2 hl160_2
              replace p160 := eq_true p160
              replace q160 := eq_true q160
              have p161 : 0 ≤ (x9_3 : Int) := of_decide_eq_true asA
              have q161 : x9_3 < (t152.length : Int) := of_decide_eq_true asA
              obtain ⟨ad161, A161_2, c161_2, e161, hx161_0, hx161_1, hx161_2, hx161_3, hl161_2, hi161_2⟩ := at_T35 (Kd.N_reads' HO_5.out).2.2 x9_3 p161 q161
              obtain rfl : ad160 = ad161 := (by injection e161)
              obtain ⟨ce161, hce161, hMe161, hcc161⟩ := Kd.N_get HO_5.out z35 x9_3 p161 (by first | exact q161 | exact of_decide_eq_true asA | (have e_ := (Kd.N_reads' HO_5.out).1; omega))
              obtain ⟨ua161_2, uc161_2, rfl, ul161_2, ge161_2⟩ := k35_openF hMe161
              have hv161_2 := hcc161 2 _ rfl
              rw [add_field _ _ 2 (by omega)] at hv161_2
              replace hv161_2 := Option.some.inj (hv161_2.symm.trans hx161_2)
              injection hv161_2 with hva_ hvn_ hvc_
              rw [hva_] at ge161_2
              rw [hvc_] at ul161_2
              have HL161_2 := Aside0.mk (show Kd.V Kd.string 9 _ w.heap.size _ _ ((rd_T35 t152 x9_3).f2) from Kd.V_mk ul161_2 ge161_2)
              clear hva_ hvn_ hvc_ ge161_2 ul161_2
              clear hcc161 hce161
              have HR161_2 := Aside0.mk hi161_2
              have HC161_2 := Aside0.mk hl161_2
              clear hi161_2 hl161_2
              replace p161 := eq_true p161
              replace q161 := eq_true q161
              have ea_ := Option.some.inj (hx160_2.symm.trans hx161_2)
              injection ea_ with ea_ en_ ec_
              subst ea_
              subst ec_
              clear en_
              go_wp2
              repeat (go_quiet (fail); try go_wp2)
              go_roundg k3
              case measure => have := HJ2.out; have := HK2.out; have := HK3.out; omega
              case rel => exact ⟨(wrap64 (x9_3 + 1)), sA, H', ⟨by have := HJ2.out; have := HK2.out; have := HK3.out; omega⟩, ⟨by (with_reducible repeat (first | apply Kd.N_alloc | apply Kd.N_drewN | apply Kd.N_drew)); exact HO_5.out⟩, ⟨kR HO_6⟩, ⟨bA⟩⟩
          ·rw [if_neg c23] at H
           exact absurd H (by simp)
         ·rw [if_neg c22] at H
          have c22b0 : decide (x9_3 < (t152.length : Int)) = false := decide_eq_false c22
          clear c22
          have H' := Aside0.mk H
          clear H
          obtain ⟨Ao36, co36, eo36⟩ := Kd.N_slice HO_5.out
          subst eo36
          go_wp2
          repeat (go_quiet (fail); try go_wp2)
          go_loopg [10] k3 (fun kq v10 w' => ∃ (x10_4 : Int), v10 = .int .i64 x10_4 ∧ Aside0 (flonglaw05_LinesOrder.l2 kq a0 a1 t152 t153 x7_2 x10_4 = some r) ∧ Aside0 (kq ≤ k3) ∧ Aside0 (Kd.N k35 35 w' w.heap.size (fun k_ => some k_ ≠ (v156 : Value).ownBlock) (.slice Ao36 t152.length co36) t152) ∧ Aside0 (Kd.R k37 37 w' w.heap.size (fun _ => True) v156 t153) ∧ Aside0 (Below w.heap.size w w'))
          case atStart => exact ⟨(0), sA, H', ⟨Nat.le_refl _⟩, ⟨by (with_reducible repeat (first | apply Kd.N_alloc | apply Kd.N_drewN | apply Kd.N_drew)); exact HO_5.out⟩, ⟨kR HO_6⟩, ⟨bA⟩⟩
          case round =>
           clear H'
           try clear c1
           try clear p1
           try clear q1
           try clear hx1
           try clear c2
           try clear p2
           try clear c3
           try clear c4
           try clear c4b0
           try clear c4b1
           try clear c5
           try clear p6
           try clear c10
           try clear c10b0
           try clear c11
           try clear c11b0
           try clear p12
           try clear q12
           try clear hx12
           try clear c13
           try clear c13b0
           try clear c13b1
           try clear p14
           try clear q14
           try clear hx14
           try clear c15
           try clear c15b0
           try clear c15b1
           try clear c16
           try clear p16
           try clear q16
           try clear hx16
           try clear p18
           try clear q18
           try clear hx18
           try clear c19
           try clear c19b0
           try clear c19b1
           try clear c22
           try clear c22b0
           try clear c23
           try clear c23b0
           try clear c24
           try clear c24b0
           try clear c26
           try clear c26b0
           try clear c28
           try clear c28b0
           try clear c30
           try clear c30b0
           try clear c31
           try clear c31b0
           try clear c32
           try clear c32b0
           try clear hx160_0
           try clear hx160_1
           try clear hx160_2
           try clear hx160_3
           try clear hx161_0
           try clear hx161_1
           try clear hx161_2
           try clear hx161_3
           try clear hx162_0
           try clear hx162_1
           try clear hx162_2
           try clear hx162_3
           try clear hx163_0
           try clear hx163_1
           try clear hx163_2
           try clear hx163_3
           try clear p1
           try clear p12
           try clear p14
           try clear p160
           try clear p161
           try clear p162
           try clear p163
           try clear p18
           try clear p2
           try clear p6
           try clear q1
           try clear q12
           try clear q14
           try clear q160
           try clear q161
           try clear q162
           try clear q163
           try clear q18
           obtain ⟨x10_4, rfl, HA, HK4, HO_5, HO_6, HB⟩ := hrel
           cases gk with
           | zero => exact absurd HA.out (by simp [flonglaw05_LinesOrder.l2])
           | succ k4 =>
            have H := HA.out
            clear HA
            simp only [flonglaw05_LinesOrder.l2] at H
            by_cases c37 : x10_4 < (t153.length : Int)
            ·rw [if_pos c37] at H
             have c37b0 : decide (x10_4 < (t153.length : Int)) = true := decide_eq_true c37
             clear c37
             have H' := Aside0.mk H
             clear H
             obtain ⟨Ao38, co38, eo38⟩ := Kd.R_slice HO_6.out
             subst eo38
             go_wp2
             repeat (go_quiet (fail); try go_wp2)
             go_loopg [11, 12] k4 (fun kq v11 v12 w' => ∃ (x11_5 : Bool) (x12_5 : Int), v11 = .bool x11_5 ∧ v12 = .int .i64 x12_5 ∧ Aside0 (flonglaw05_LinesOrder.l3 kq a0 a1 t152 t153 x7_2 x10_4 x11_5 x12_5 = some r) ∧ Aside0 (kq ≤ k4) ∧ Aside0 (Kd.N k35 35 w' w.heap.size (fun k_ => some k_ ≠ ((.slice Ao38 t153.length co38) : Value).ownBlock) (.slice Ao36 t152.length co36) t152) ∧ Aside0 (Kd.R k37 37 w' w.heap.size (fun _ => True) (.slice Ao38 t153.length co38) t153) ∧ Aside0 (Below w.heap.size w w'))
             case atStart => exact ⟨(false), (0), sA, sA, H', ⟨Nat.le_refl _⟩, ⟨by (with_reducible repeat (first | apply Kd.N_alloc | apply Kd.N_drewN | apply Kd.N_drew)); exact HO_5.out⟩, ⟨kR HO_6⟩, ⟨bA⟩⟩
             case round =>
              clear H'
              try clear c1
              try clear p1
              try clear q1
              try clear hx1
              try clear c2
              try clear p2
              try clear c3
              try clear c4
              try clear c4b0
              try clear c4b1
              try clear c5
              try clear p6
              try clear c10
              try clear c10b0
              try clear c11
              try clear c11b0
              try clear p12
              try clear q12
              try clear hx12
              try clear c13
              try clear c13b0
              try clear c13b1
              try clear p14
              try clear q14
              try clear hx14
              try clear c15
              try clear c15b0
              try clear c15b1
              try clear c16
              try clear p16
              try clear q16
              try clear hx16
              try clear p18
              try clear q18
              try clear hx18
              try clear c19
              try clear c19b0
              try clear c19b1
              try clear c22
              try clear c22b0
              try clear c23
              try clear c23b0
              try clear c24
              try clear c24b0
              try clear c26
              try clear c26b0
              try clear c28
              try clear c28b0
              try clear c30
              try clear c30b0
              try clear c31
              try clear c31b0
              try clear c32
              try clear c32b0
              try clear c37
              try clear c37b0
              try clear hx160_0
              try clear hx160_1
              try clear hx160_2
              try clear hx160_3
              try clear hx161_0
              try clear hx161_1
              try clear hx161_2
              try clear hx161_3
              try clear hx162_0
              try clear hx162_1
              try clear hx162_2
              try clear hx162_3
              try clear hx163_0
              try clear hx163_1
              try clear hx163_2
              try clear hx163_3
              try clear p1
              try clear p12
              try clear p14
              try clear p16
              try clear p160
              try clear p161
              try clear p162
              try clear p163
              try clear p18
              try clear p2
              try clear p6
              try clear q1
              try clear q12
              try clear q14
              try clear q16
              try clear q160
              try clear q161
              try clear q162
              try clear q163
              try clear q18
              obtain ⟨x11_5, x12_5, rfl, rfl, HA, HK5, HO_5, HO_6, HB⟩ := hrel
              cases gk with
              | zero => exact absurd HA.out (by simp [flonglaw05_LinesOrder.l3])
              | succ k5 =>
               have H := HA.out
               clear HA
               simp only [flonglaw05_LinesOrder.l3] at H
               by_cases c39 : x12_5 < (t152.length : Int)
               ·rw [if_pos c39] at H
                have c39b0 : decide (x12_5 < (t152.length : Int)) = true := decide_eq_true c39
                clear c39
                by_cases c40 : x11_5 = true
                ·subst c40
                 have H1 : (flonglaw05_LinesOrder.l3 k5 a0 a1 t152 t153 x7_2 x10_4 true (wrap64 (x12_5 + 1))) = some r := by rw [if_pos rfl] at H; exact H
                 clear H
                 have H := H1
                 clear H1
                 have H' := Aside0.mk H
                 clear H
                 go_wp2
                 repeat (go_quiet (fail); try go_wp2)
                 go_roundg k5
                 case measure => have := HJ2.out; have := HK2.out; have := HK3.out; have := HK4.out; have := HK5.out; omega
                 case rel => exact ⟨(true), (wrap64 (x12_5 + 1)), sA, sA, H', ⟨by have := HJ2.out; have := HK2.out; have := HK3.out; have := HK4.out; have := HK5.out; omega⟩, ⟨by (with_reducible repeat (first | apply Kd.N_alloc | apply Kd.N_drewN | apply Kd.N_drew)); exact HO_5.out⟩, ⟨kR HO_6⟩, ⟨bA⟩⟩
                ·replace c40 := Bool.eq_false_iff.mpr c40
                 subst c40
                 have H1 : (if 0 ≤ x12_5 then (if 0 ≤ x10_4 then (if x10_4 < (t153.length : Int) then (flonglaw05_LinesOrder.l3 k5 a0 a1 t152 t153 x7_2 x10_4 (((rd_T35 t152 x12_5).f0) == ((rd_T37 t153 x10_4).f1)) (wrap64 (x12_5 + 1))) else (none)) else (none)) else (none)) = some r := by rw [if_neg (show ¬ (false = true) by decide)] at H; exact H
                 clear H
                 have H := H1
                 clear H1
                 by_cases c41 : 0 ≤ x12_5
                 ·rw [if_pos c41] at H
                  have c41b0 : decide (0 ≤ x12_5) = true := decide_eq_true c41
                  clear c41
                  by_cases c42 : 0 ≤ x10_4
                  ·rw [if_pos c42] at H
                   have c42b0 : decide (0 ≤ x10_4) = true := decide_eq_true c42
                   clear c42
                   by_cases c43 : x10_4 < (t153.length : Int)
                   ·rw [if_pos c43] at H
                    have c43b0 : decide (x10_4 < (t153.length : Int)) = true := decide_eq_true c43
                    clear c43
                    have H' := Aside0.mk H
                    clear H
                    have p164 : 0 ≤ (x12_5 : Int) := of_decide_eq_true asA
                    have q164 : x12_5 < (t152.length : Int) := of_decide_eq_true asA
                    obtain ⟨ad164, A164_2, c164_2, e164, hx164_0, hx164_1, hx164_2, hx164_3, hl164_2, hi164_2⟩ := at_T35 (Kd.N_reads' HO_5.out).2.2 x12_5 p164 q164
                    cases e164
                    obtain ⟨ce164, hce164, hMe164, hcc164⟩ := Kd.N_get HO_5.out z35 x12_5 p164 (by first | exact q164 | exact of_decide_eq_true asA | (have e_ := (Kd.N_reads' HO_5.out).1; omega))
                    obtain ⟨ua164_2, uc164_2, rfl, ul164_2, ge164_2⟩ := k35_openF hMe164
                    have hv164_2 := hcc164 2 _ rfl
                    rw [add_field _ _ 2 (by omega)] at hv164_2
                    replace hv164_2 := Option.some.inj (hv164_2.symm.trans hx164_2)
                    injection hv164_2 with hva_ hvn_ hvc_
                    rw [hva_] at ge164_2
                    rw [hvc_] at ul164_2
                    have HL164_2 := Aside0.mk (show Kd.V Kd.string 9 _ w.heap.size _ _ ((rd_T35 t152 x12_5).f2) from Kd.V_mk ul164_2 ge164_2)
                    clear hva_ hvn_ hvc_ ge164_2 ul164_2
                    clear hcc164 hce164
                    have HR164_2 := Aside0.mk hi164_2
                    have HC164_2 := Aside0.mk hl164_2
                    clear hi164_2 hl164_2
                    replace p164 := eq_true p164
                    replace q164 := eq_true q164
                    have p165 : 0 ≤ (x10_4 : Int) := of_decide_eq_true asA
                    have q165 : x10_4 < (t153.length : Int) := of_decide_eq_true asA
                    obtain ⟨ad165, e165, hx165_0, hx165_1, hx165_2⟩ := at_T37 (Kd.R_reads' HO_6.out).2.2 x10_4 p165 q165
                    cases e165
                    replace p165 := eq_true p165
                    replace q165 := eq_true q165
                    go_wp2
                    repeat (go_quiet (fail); try go_wp2)
                    go_roundg k5
                    case measure => have := HJ2.out; have := HK2.out; have := HK3.out; have := HK4.out; have := HK5.out; omega
                    case rel => exact ⟨((((rd_T35 t152 x12_5).f0) == ((rd_T37 t153 x10_4).f1))), (wrap64 (x12_5 + 1)), sA, sA, H', ⟨by have := HJ2.out; have := HK2.out; have := HK3.out; have := HK4.out; have := HK5.out; omega⟩, ⟨by (with_reducible repeat (first | apply Kd.N_alloc | apply Kd.N_drewN | apply Kd.N_drew)); exact HO_5.out⟩, ⟨kR HO_6⟩, ⟨bA⟩⟩
                   ·rw [if_neg c43] at H
                    exact absurd H (by simp)
                  ·rw [if_neg c42] at H
                   exact absurd H (by simp)
                 ·rw [if_neg c41] at H
                  exact absurd H (by simp)
               ·rw [if_neg c39] at H
                have c39b0 : decide (x12_5 < (t152.length : Int)) = false := decide_eq_false c39
                clear c39
                by_cases c44 : x11_5 = true
                ·subst c44
                 have H1 : (flonglaw05_LinesOrder.l2 k5 a0 a1 t152 t153 x7_2 (wrap64 (x10_4 + 1))) = some r := by rw [if_pos rfl] at H; exact H
                 clear H
                 have H := H1
                 clear H1
                 have H' := Aside0.mk H
                 clear H
                 go_wp2
                 repeat (go_quiet (fail); try go_wp2)
                 go_roundg k5
                 case measure => have := HJ2.out; have := HK2.out; have := HK3.out; have := HK4.out; have := HK5.out; omega
                 case rel => exact ⟨(wrap64 (x10_4 + 1)), sA, H', ⟨by have := HJ2.out; have := HK2.out; have := HK3.out; have := HK4.out; have := HK5.out; omega⟩, ⟨by (with_reducible repeat (first | apply Kd.N_alloc | apply Kd.N_drewN | apply Kd.N_drew)); exact HO_5.out⟩, ⟨kR HO_6⟩, ⟨bA⟩⟩
                ·replace c44 := Bool.eq_false_iff.mpr c44
                 subst c44
                 have H1 : (some false) = some r := by rw [if_neg (show ¬ (false = true) by decide)] at H; exact H
                 clear H
                 have H := H1
                 clear H1
                 obtain rfl := Option.some.inj H
                 go_wp2
                 repeat (go_quiet (fail); try go_wp2)
                 go_ret
                 exact ⟨eW, bA⟩
            ·rw [if_neg c37] at H
             have c37b0 : decide (x10_4 < (t153.length : Int)) = false := decide_eq_false c37
             clear c37
             replace H := Option.bind_eq_some_iff.mp H
             obtain ⟨⟨t166, t167⟩, A450, H⟩ := H
             replace H : (if a0.size + 1 ≤ 9223372036854775807 then (if (a0 ++ (⟨#[10]⟩ : ByteArray)).size + a1.size ≤ 9223372036854775807 then ((lines_Read.f k4 ((a0 ++ (⟨#[10]⟩ : ByteArray)) ++ a1)).bind fun bt172 => (if ([] : List (S35)).length + t152.length < 2199023255552 then ((some (([] : List (S35)) ++ t152 : List (S35))).bind fun y178 => (if a0.toList = ([] : List UInt8) then (flonglaw05_LinesOrder.j5 k4 x7_2 t166 bt172.1 y178 true) else (if 0 ≤ (wrap64 ((a0.size : Int) - 1)) then (if (wrap64 ((a0.size : Int) - 1)) < (a0.size : Int) then (flonglaw05_LinesOrder.j5 k4 x7_2 t166 bt172.1 y178 ((bt a0 (wrap64 ((a0.size : Int) - 1))) == 10)) else (none)) else (none)))) else (none))) else (none)) else (none)) = some r := H
             have A45 := Aside0.mk A450
             clear A450
             by_cases c46 : a0.size + 1 ≤ 9223372036854775807
             ·rw [if_pos c46] at H
              have c46b0 := eq_true c46
              have c46b1 : decide (a0.size + 1 ≤ 9223372036854775807) = true := decide_eq_true c46
              try have c46b2 : (9223372036854775807 < a0.size + 1) = False := eq_false (Nat.not_lt.2 c46)
              by_cases c47 : (a0 ++ (⟨#[10]⟩ : ByteArray)).size + a1.size ≤ 9223372036854775807
              ·rw [if_pos c47] at H
               have c47b0 := eq_true c47
               have c47b1 : decide ((a0 ++ (⟨#[10]⟩ : ByteArray)).size + a1.size ≤ 9223372036854775807) = true := decide_eq_true c47
               try have c47b2 : (9223372036854775807 < (a0 ++ (⟨#[10]⟩ : ByteArray)).size + a1.size) = False := eq_false (Nat.not_lt.2 c47)
               (try (have c47n := c47; simp only [ByteArray.size_append'] at c47n; have c47b3 := eq_false (Nat.not_lt.2 c47n); have c47b4 := eq_true c47n; clear c47n))
               (try (have c47k := c47; simp only [ByteArray.size_append', show (⟨#[10]⟩ : ByteArray).size = 1 from rfl] at c47k; have c47b7 := eq_false (Nat.not_lt.2 c47k); have c47b8 := eq_true c47k; clear c47k))
               replace H := Option.bind_eq_some_iff.mp H
               obtain ⟨⟨t172, t173⟩, A480, H⟩ := H
               replace H : (if ([] : List (S35)).length + t152.length < 2199023255552 then ((some (([] : List (S35)) ++ t152 : List (S35))).bind fun y178 => (if a0.toList = ([] : List UInt8) then (flonglaw05_LinesOrder.j5 k4 x7_2 t166 t172 y178 true) else (if 0 ≤ (wrap64 ((a0.size : Int) - 1)) then (if (wrap64 ((a0.size : Int) - 1)) < (a0.size : Int) then (flonglaw05_LinesOrder.j5 k4 x7_2 t166 t172 y178 ((bt a0 (wrap64 ((a0.size : Int) - 1))) == 10)) else (none)) else (none)))) else (none)) = some r := H
               have A48 := Aside0.mk A480
               clear A480
               by_cases c49 : ([] : List (S35)).length + t152.length < 2199023255552
               ·rw [if_pos c49] at H
                have LMc49 := Aside0.mk c49
                clear c49
                obtain ⟨y178, hy178⟩ : ∃ y_ : List (S35), y_ = (([] : List (S35)) ++ t152) := ⟨_, rfl⟩
                replace H : (if a0.toList = ([] : List UInt8) then (flonglaw05_LinesOrder.j5 k4 x7_2 t166 t172 y178 true) else (if 0 ≤ (wrap64 ((a0.size : Int) - 1)) then (if (wrap64 ((a0.size : Int) - 1)) < (a0.size : Int) then (flonglaw05_LinesOrder.j5 k4 x7_2 t166 t172 y178 ((bt a0 (wrap64 ((a0.size : Int) - 1))) == 10)) else (none)) else (none))) = some r := hyA hy178 H
                have Ny178 := Aside0.mk hy178
                clear hy178
                have HC50 := Aside0.mk H
                clear H
                obtain ⟨Ao51, co51, eo51⟩ := Kd.R_slice HO_6.out
                subst eo51
                go_upto_region 31 with (first | (go_at_call 17; (with_reducible refine (lines_Read.calls k4 a1 t166 t167 _ A45.out).mono ?_); rintro e w52 ⟨v168, v170, rfl, ho0, ho1, hb⟩; have n0_ := Aside0.mk (Kd.N_mono (Kd.N_told (Kd.N_told (Kd.N_old (by (with_reducible repeat (first | apply Kd.N_alloc | apply Kd.N_drewN | apply Kd.N_drew)); exact HO_5.out) hb) (Kd.S_base ho0)) (Kd.R_base ho1)) (fun _ h_ => h_.1)); have n1_ := Aside0.mk (Kd.R_elder' (kR HO_6) (Kd.R_base ho1) hb); have n2_ := Aside0.mk (Kd.N_lower (Kd.N_mono (ok' := fun k_ => some k_ ≠ (v170 : Value).ownBlock ∧ some k_ ≠ (.slice Ao36 t152.length co36 : Value).ownBlock ∧ some k_ ≠ (.slice Ao51 t153.length co51 : Value).ownBlock) (Kd.S_N (Kd.S_bound (Kd.S_apart' ho0 (Kd.R_typed ho1) (by decide)))) (fun k_ hk_ => ⟨hk_.1.2, (Kd.fresh' (Kd.N_lt (by (with_reducible repeat (first | apply Kd.N_alloc | apply Kd.N_drewN | apply Kd.N_drew)); exact HO_5.out)) k_ hk_.2.1), (Kd.fresh' (Kd.R_lt (kR HO_6)) k_ hk_.2.1)⟩)) (below_size bA)); have n3_ := Aside0.mk (Kd.R_lower (Kd.R_new' ho1 (Kd.R_lt (kR HO_6))) (below_size bA)); have n4_ := Aside0.mk (below_step bA hb); clear HO_5; clear HO_6; clear HB; have HO_5 := n0_; have HO_6 := n1_; have HO169 := n2_; have HO171 := n3_; have HB := n4_; clear n0_ n1_ n2_ n3_ n4_; (try clear hb); (try clear hb2); (try clear hk); (try clear hi); (try clear ho0); (try clear ho1)) | (go_at_call 17; (with_reducible refine (lines_Read.calls k4 ((a0 ++ (⟨#[10]⟩ : ByteArray)) ++ a1) t172 t173 _ A48.out).mono ?_); rintro e w53 ⟨v174, v176, rfl, ho0, ho1, hb⟩; have n0_ := Aside0.mk (Kd.N_mono (Kd.N_told (Kd.N_told (Kd.N_old (by (with_reducible repeat (first | apply Kd.N_alloc | apply Kd.N_drewN | apply Kd.N_drew)); exact HO_5.out) hb) (Kd.S_base ho0)) (Kd.R_base ho1)) (fun _ h_ => h_.1)); have n1_ := Aside0.mk (Kd.R_elder' (kR HO_6) (Kd.R_base ho1) hb); have n2_ := Aside0.mk (Kd.N_mono (Kd.N_told (Kd.N_told (Kd.N_old (by (with_reducible repeat (first | apply Kd.N_alloc | apply Kd.N_drewN | apply Kd.N_drew)); exact HO169.out) hb) (Kd.S_base ho0)) (Kd.R_base ho1)) (fun _ h_ => h_.1)); have n3_ := Aside0.mk (Kd.R_elder' (kR HO171) (Kd.R_base ho1) hb); have n4_ := Aside0.mk (Kd.N_lower (Kd.N_mono (ok' := fun k_ => some k_ ≠ (v176 : Value).ownBlock ∧ some k_ ≠ (.slice Ao36 t152.length co36 : Value).ownBlock ∧ some k_ ≠ (.slice Ao51 t153.length co51 : Value).ownBlock ∧ some k_ ≠ (v168 : Value).ownBlock ∧ some k_ ≠ (v170 : Value).ownBlock) (Kd.S_N (Kd.S_bound (Kd.S_apart' ho0 (Kd.R_typed ho1) (by decide)))) (fun k_ hk_ => ⟨hk_.1.2, (Kd.fresh' (Kd.N_lt (by (with_reducible repeat (first | apply Kd.N_alloc | apply Kd.N_drewN | apply Kd.N_drew)); exact HO_5.out)) k_ hk_.2.1), (Kd.fresh' (Kd.R_lt (kR HO_6)) k_ hk_.2.1), (Kd.fresh' (Kd.N_lt (by (with_reducible repeat (first | apply Kd.N_alloc | apply Kd.N_drewN | apply Kd.N_drew)); exact HO169.out)) k_ hk_.2.1), (Kd.fresh' (Kd.R_lt (kR HO171)) k_ hk_.2.1)⟩)) (below_size bA)); have n5_ := Aside0.mk (Kd.R_lower (Kd.R_new' (Kd.R_new' ho1 (Kd.R_lt (kR HO_6))) (Kd.R_lt (kR HO171))) (below_size bA)); have n6_ := Aside0.mk (below_step bA hb); clear HO_5; clear HO_6; clear HO169; clear HO171; clear HB; have HO_5 := n0_; have HO_6 := n1_; have HO169 := n2_; have HO171 := n3_; have HO175 := n4_; have HO177 := n5_; have HB := n6_; clear n0_ n1_ n2_ n3_ n4_ n5_ n6_; (try clear hb); (try clear hb2); (try clear hk); (try clear hi); (try clear ho0); (try clear ho1)) | ((with_reducible refine gate_builtin (b := .append) (xs := #[.tmp 132, .tmp 133]) rfl ?_); (try (refine gate_guard (by rfl) ?_; dsimp only)); at_builtin; refine Kd.N_append_rows k35 (w0 := w) w.heap.size rfl (.tmp 132) (.tmp 133) 30 35 (.agg #[(.int .i64 0), (.string ⟨#[]⟩), (.slice none 0 0), (.string ⟨#[]⟩)]) 64 rfl Tryd.underlying30 info35 rfl (by decide) (by omega) (.slice none 0 0) ([] : List (S35)) t152 _ _ _ (fun k_ => some k_ ≠ (.slice Ao51 t153.length co51 : Value).ownBlock ∧ some k_ ≠ (v168 : Value).ownBlock ∧ some k_ ≠ (v170 : Value).ownBlock ∧ some k_ ≠ (v174 : Value).ownBlock ∧ some k_ ≠ (v176 : Value).ownBlock) (fun k_ => ((fun k_ => some k_ ≠ (.slice Ao51 t153.length co51 : Value).ownBlock ∧ some k_ ≠ (v168 : Value).ownBlock ∧ some k_ ≠ (v170 : Value).ownBlock ∧ some k_ ≠ (v174 : Value).ownBlock ∧ some k_ ≠ (v176 : Value).ownBlock)) k_ ∧ some k_ ≠ (.slice none 0 0 : Value).ownBlock) rfl rfl ?aO ?aR (fun _ hk => hk) ?aF ?aB ?aS ?aL ?_; (case aR => exact (by skip; exact Kd.N_F (Kd.N_mono (ok' := (fun k_ => ((fun k_ => some k_ ≠ (.slice Ao51 t153.length co51 : Value).ownBlock ∧ some k_ ≠ (v168 : Value).ownBlock ∧ some k_ ≠ (v170 : Value).ownBlock ∧ some k_ ≠ (v174 : Value).ownBlock ∧ some k_ ≠ (v176 : Value).ownBlock)) k_ ∧ some k_ ≠ (.slice none 0 0 : Value).ownBlock)) (HO_5.out) (fun k_ hk => ⟨⟨hk.1.1.1.1, ⟨hk.1.1.1.2, ⟨hk.1.1.2, ⟨hk.1.2, hk.2⟩⟩⟩⟩, (by simp [Value.ownBlock])⟩)))); (case aB => exact bA); (case aF => exact (fun k_ hk => ⟨Kd.fresh' (Kd.R_lt (kR HO_6)) k_ hk, Kd.fresh' (Kd.N_lt (by (with_reducible repeat (first | apply Kd.N_alloc | apply Kd.N_drewN | apply Kd.N_drew)); exact HO169.out)) k_ hk, Kd.fresh' (Kd.R_lt (kR HO171)) k_ hk, Kd.fresh' (Kd.N_lt (by (with_reducible repeat (first | apply Kd.N_alloc | apply Kd.N_drewN | apply Kd.N_drew)); exact HO175.out)) k_ hk, Kd.fresh' (Kd.R_lt (kR HO177)) k_ hk⟩)); (case aO => exact ((Kd.N_nil _ _ _ _ (fun k_ => some k_ ≠ (.slice Ao51 t153.length co51 : Value).ownBlock ∧ some k_ ≠ (v168 : Value).ownBlock ∧ some k_ ≠ (v170 : Value).ownBlock ∧ some k_ ≠ (v174 : Value).ownBlock ∧ some k_ ≠ (v176 : Value).ownBlock)))); (case aS => exact (below_size bA)); (case aL => have := LMc49.out; omega); intro v179 w54 ho hb hg hat; rw [← Ny178.out] at ho; have n0_ := Aside0.mk (Kd.N_afterv (Kd.N_apart_nil (by (with_reducible repeat (first | apply Kd.N_alloc | apply Kd.N_drewN | apply Kd.N_drew)); exact HO_5.out)) hg hat); have n1_ := Aside0.mk (Kd.R_grown (kR HO_6) hg (fun _ _ => by simp [Value.ownBlock])); have n2_ := Aside0.mk (Kd.N_afterv (Kd.N_apart_nil (by (with_reducible repeat (first | apply Kd.N_alloc | apply Kd.N_drewN | apply Kd.N_drew)); exact HO169.out)) hg hat); have n3_ := Aside0.mk (Kd.R_grown (kR HO171) hg (fun _ _ => by simp [Value.ownBlock])); have n4_ := Aside0.mk (Kd.N_afterv (Kd.N_apart_nil (by (with_reducible repeat (first | apply Kd.N_alloc | apply Kd.N_drewN | apply Kd.N_drew)); exact HO175.out)) hg hat); have n5_ := Aside0.mk (Kd.R_grown (kR HO177) hg (fun _ _ => by simp [Value.ownBlock])); have n6_ := Aside0.mk (hb); have n7_ := Aside0.mk (ho); clear HO_5; clear HO_6; clear HO169; clear HO171; clear HO175; clear HO177; clear HB; have HO_5 := n0_; have HO_6 := n1_; have HO169 := n2_; have HO171 := n3_; have HO175 := n4_; have HO177 := n5_; have HB := n6_; have HO180 := n7_; clear n0_ n1_ n2_ n3_ n4_ n5_ n6_ n7_; clear ho hb hg hat))
                repeat (go_quiet (first | (go_at_call 17; (with_reducible refine (lines_Read.calls k4 a1 t166 t167 _ A45.out).mono ?_); rintro e w52 ⟨v168, v170, rfl, ho0, ho1, hb⟩; have n0_ := Aside0.mk (Kd.N_mono (Kd.N_told (Kd.N_told (Kd.N_old (by (with_reducible repeat (first | apply Kd.N_alloc | apply Kd.N_drewN | apply Kd.N_drew)); exact HO_5.out) hb) (Kd.S_base ho0)) (Kd.R_base ho1)) (fun _ h_ => h_.1)); have n1_ := Aside0.mk (Kd.R_elder' (kR HO_6) (Kd.R_base ho1) hb); have n2_ := Aside0.mk (Kd.N_lower (Kd.N_mono (ok' := fun k_ => some k_ ≠ (v170 : Value).ownBlock ∧ some k_ ≠ (.slice Ao36 t152.length co36 : Value).ownBlock ∧ some k_ ≠ (.slice Ao51 t153.length co51 : Value).ownBlock) (Kd.S_N (Kd.S_bound (Kd.S_apart' ho0 (Kd.R_typed ho1) (by decide)))) (fun k_ hk_ => ⟨hk_.1.2, (Kd.fresh' (Kd.N_lt (by (with_reducible repeat (first | apply Kd.N_alloc | apply Kd.N_drewN | apply Kd.N_drew)); exact HO_5.out)) k_ hk_.2.1), (Kd.fresh' (Kd.R_lt (kR HO_6)) k_ hk_.2.1)⟩)) (below_size bA)); have n3_ := Aside0.mk (Kd.R_lower (Kd.R_new' ho1 (Kd.R_lt (kR HO_6))) (below_size bA)); have n4_ := Aside0.mk (below_step bA hb); clear HO_5; clear HO_6; clear HB; have HO_5 := n0_; have HO_6 := n1_; have HO169 := n2_; have HO171 := n3_; have HB := n4_; clear n0_ n1_ n2_ n3_ n4_; (try clear hb); (try clear hb2); (try clear hk); (try clear hi); (try clear ho0); (try clear ho1)) | (go_at_call 17; (with_reducible refine (lines_Read.calls k4 ((a0 ++ (⟨#[10]⟩ : ByteArray)) ++ a1) t172 t173 _ A48.out).mono ?_); rintro e w53 ⟨v174, v176, rfl, ho0, ho1, hb⟩; have n0_ := Aside0.mk (Kd.N_mono (Kd.N_told (Kd.N_told (Kd.N_old (by (with_reducible repeat (first | apply Kd.N_alloc | apply Kd.N_drewN | apply Kd.N_drew)); exact HO_5.out) hb) (Kd.S_base ho0)) (Kd.R_base ho1)) (fun _ h_ => h_.1)); have n1_ := Aside0.mk (Kd.R_elder' (kR HO_6) (Kd.R_base ho1) hb); have n2_ := Aside0.mk (Kd.N_mono (Kd.N_told (Kd.N_told (Kd.N_old (by (with_reducible repeat (first | apply Kd.N_alloc | apply Kd.N_drewN | apply Kd.N_drew)); exact HO169.out) hb) (Kd.S_base ho0)) (Kd.R_base ho1)) (fun _ h_ => h_.1)); have n3_ := Aside0.mk (Kd.R_elder' (kR HO171) (Kd.R_base ho1) hb); have n4_ := Aside0.mk (Kd.N_lower (Kd.N_mono (ok' := fun k_ => some k_ ≠ (v176 : Value).ownBlock ∧ some k_ ≠ (.slice Ao36 t152.length co36 : Value).ownBlock ∧ some k_ ≠ (.slice Ao51 t153.length co51 : Value).ownBlock ∧ some k_ ≠ (v168 : Value).ownBlock ∧ some k_ ≠ (v170 : Value).ownBlock) (Kd.S_N (Kd.S_bound (Kd.S_apart' ho0 (Kd.R_typed ho1) (by decide)))) (fun k_ hk_ => ⟨hk_.1.2, (Kd.fresh' (Kd.N_lt (by (with_reducible repeat (first | apply Kd.N_alloc | apply Kd.N_drewN | apply Kd.N_drew)); exact HO_5.out)) k_ hk_.2.1), (Kd.fresh' (Kd.R_lt (kR HO_6)) k_ hk_.2.1), (Kd.fresh' (Kd.N_lt (by (with_reducible repeat (first | apply Kd.N_alloc | apply Kd.N_drewN | apply Kd.N_drew)); exact HO169.out)) k_ hk_.2.1), (Kd.fresh' (Kd.R_lt (kR HO171)) k_ hk_.2.1)⟩)) (below_size bA)); have n5_ := Aside0.mk (Kd.R_lower (Kd.R_new' (Kd.R_new' ho1 (Kd.R_lt (kR HO_6))) (Kd.R_lt (kR HO171))) (below_size bA)); have n6_ := Aside0.mk (below_step bA hb); clear HO_5; clear HO_6; clear HO169; clear HO171; clear HB; have HO_5 := n0_; have HO_6 := n1_; have HO169 := n2_; have HO171 := n3_; have HO175 := n4_; have HO177 := n5_; have HB := n6_; clear n0_ n1_ n2_ n3_ n4_ n5_ n6_; (try clear hb); (try clear hb2); (try clear hk); (try clear hi); (try clear ho0); (try clear ho1)) | ((with_reducible refine gate_builtin (b := .append) (xs := #[.tmp 132, .tmp 133]) rfl ?_); (try (refine gate_guard (by rfl) ?_; dsimp only)); at_builtin; refine Kd.N_append_rows k35 (w0 := w) w.heap.size rfl (.tmp 132) (.tmp 133) 30 35 (.agg #[(.int .i64 0), (.string ⟨#[]⟩), (.slice none 0 0), (.string ⟨#[]⟩)]) 64 rfl Tryd.underlying30 info35 rfl (by decide) (by omega) (.slice none 0 0) ([] : List (S35)) t152 _ _ _ (fun k_ => some k_ ≠ (.slice Ao51 t153.length co51 : Value).ownBlock ∧ some k_ ≠ (v168 : Value).ownBlock ∧ some k_ ≠ (v170 : Value).ownBlock ∧ some k_ ≠ (v174 : Value).ownBlock ∧ some k_ ≠ (v176 : Value).ownBlock) (fun k_ => ((fun k_ => some k_ ≠ (.slice Ao51 t153.length co51 : Value).ownBlock ∧ some k_ ≠ (v168 : Value).ownBlock ∧ some k_ ≠ (v170 : Value).ownBlock ∧ some k_ ≠ (v174 : Value).ownBlock ∧ some k_ ≠ (v176 : Value).ownBlock)) k_ ∧ some k_ ≠ (.slice none 0 0 : Value).ownBlock) rfl rfl ?aO ?aR (fun _ hk => hk) ?aF ?aB ?aS ?aL ?_; (case aR => exact (by skip; exact Kd.N_F (Kd.N_mono (ok' := (fun k_ => ((fun k_ => some k_ ≠ (.slice Ao51 t153.length co51 : Value).ownBlock ∧ some k_ ≠ (v168 : Value).ownBlock ∧ some k_ ≠ (v170 : Value).ownBlock ∧ some k_ ≠ (v174 : Value).ownBlock ∧ some k_ ≠ (v176 : Value).ownBlock)) k_ ∧ some k_ ≠ (.slice none 0 0 : Value).ownBlock)) (HO_5.out) (fun k_ hk => ⟨⟨hk.1.1.1.1, ⟨hk.1.1.1.2, ⟨hk.1.1.2, ⟨hk.1.2, hk.2⟩⟩⟩⟩, (by simp [Value.ownBlock])⟩)))); (case aB => exact bA); (case aF => exact (fun k_ hk => ⟨Kd.fresh' (Kd.R_lt (kR HO_6)) k_ hk, Kd.fresh' (Kd.N_lt (by (with_reducible repeat (first | apply Kd.N_alloc | apply Kd.N_drewN | apply Kd.N_drew)); exact HO169.out)) k_ hk, Kd.fresh' (Kd.R_lt (kR HO171)) k_ hk, Kd.fresh' (Kd.N_lt (by (with_reducible repeat (first | apply Kd.N_alloc | apply Kd.N_drewN | apply Kd.N_drew)); exact HO175.out)) k_ hk, Kd.fresh' (Kd.R_lt (kR HO177)) k_ hk⟩)); (case aO => exact ((Kd.N_nil _ _ _ _ (fun k_ => some k_ ≠ (.slice Ao51 t153.length co51 : Value).ownBlock ∧ some k_ ≠ (v168 : Value).ownBlock ∧ some k_ ≠ (v170 : Value).ownBlock ∧ some k_ ≠ (v174 : Value).ownBlock ∧ some k_ ≠ (v176 : Value).ownBlock)))); (case aS => exact (below_size bA)); (case aL => have := LMc49.out; omega); intro v179 w54 ho hb hg hat; rw [← Ny178.out] at ho; have n0_ := Aside0.mk (Kd.N_afterv (Kd.N_apart_nil (by (with_reducible repeat (first | apply Kd.N_alloc | apply Kd.N_drewN | apply Kd.N_drew)); exact HO_5.out)) hg hat); have n1_ := Aside0.mk (Kd.R_grown (kR HO_6) hg (fun _ _ => by simp [Value.ownBlock])); have n2_ := Aside0.mk (Kd.N_afterv (Kd.N_apart_nil (by (with_reducible repeat (first | apply Kd.N_alloc | apply Kd.N_drewN | apply Kd.N_drew)); exact HO169.out)) hg hat); have n3_ := Aside0.mk (Kd.R_grown (kR HO171) hg (fun _ _ => by simp [Value.ownBlock])); have n4_ := Aside0.mk (Kd.N_afterv (Kd.N_apart_nil (by (with_reducible repeat (first | apply Kd.N_alloc | apply Kd.N_drewN | apply Kd.N_drew)); exact HO175.out)) hg hat); have n5_ := Aside0.mk (Kd.R_grown (kR HO177) hg (fun _ _ => by simp [Value.ownBlock])); have n6_ := Aside0.mk (hb); have n7_ := Aside0.mk (ho); clear HO_5; clear HO_6; clear HO169; clear HO171; clear HO175; clear HO177; clear HB; have HO_5 := n0_; have HO_6 := n1_; have HO169 := n2_; have HO171 := n3_; have HO175 := n4_; have HO177 := n5_; have HB := n6_; have HO180 := n7_; clear n0_ n1_ n2_ n3_ n4_ n5_ n6_ n7_; clear ho hb hg hat)); go_upto_region 31 with (first | (go_at_call 17; (with_reducible refine (lines_Read.calls k4 a1 t166 t167 _ A45.out).mono ?_); rintro e w52 ⟨v168, v170, rfl, ho0, ho1, hb⟩; have n0_ := Aside0.mk (Kd.N_mono (Kd.N_told (Kd.N_told (Kd.N_old (by (with_reducible repeat (first | apply Kd.N_alloc | apply Kd.N_drewN | apply Kd.N_drew)); exact HO_5.out) hb) (Kd.S_base ho0)) (Kd.R_base ho1)) (fun _ h_ => h_.1)); have n1_ := Aside0.mk (Kd.R_elder' (kR HO_6) (Kd.R_base ho1) hb); have n2_ := Aside0.mk (Kd.N_lower (Kd.N_mono (ok' := fun k_ => some k_ ≠ (v170 : Value).ownBlock ∧ some k_ ≠ (.slice Ao36 t152.length co36 : Value).ownBlock ∧ some k_ ≠ (.slice Ao51 t153.length co51 : Value).ownBlock) (Kd.S_N (Kd.S_bound (Kd.S_apart' ho0 (Kd.R_typed ho1) (by decide)))) (fun k_ hk_ => ⟨hk_.1.2, (Kd.fresh' (Kd.N_lt (by (with_reducible repeat (first | apply Kd.N_alloc | apply Kd.N_drewN | apply Kd.N_drew)); exact HO_5.out)) k_ hk_.2.1), (Kd.fresh' (Kd.R_lt (kR HO_6)) k_ hk_.2.1)⟩)) (below_size bA)); have n3_ := Aside0.mk (Kd.R_lower (Kd.R_new' ho1 (Kd.R_lt (kR HO_6))) (below_size bA)); have n4_ := Aside0.mk (below_step bA hb); clear HO_5; clear HO_6; clear HB; have HO_5 := n0_; have HO_6 := n1_; have HO169 := n2_; have HO171 := n3_; have HB := n4_; clear n0_ n1_ n2_ n3_ n4_; (try clear hb); (try clear hb2); (try clear hk); (try clear hi); (try clear ho0); (try clear ho1)) | (go_at_call 17; (with_reducible refine (lines_Read.calls k4 ((a0 ++ (⟨#[10]⟩ : ByteArray)) ++ a1) t172 t173 _ A48.out).mono ?_); rintro e w53 ⟨v174, v176, rfl, ho0, ho1, hb⟩; have n0_ := Aside0.mk (Kd.N_mono (Kd.N_told (Kd.N_told (Kd.N_old (by (with_reducible repeat (first | apply Kd.N_alloc | apply Kd.N_drewN | apply Kd.N_drew)); exact HO_5.out) hb) (Kd.S_base ho0)) (Kd.R_base ho1)) (fun _ h_ => h_.1)); have n1_ := Aside0.mk (Kd.R_elder' (kR HO_6) (Kd.R_base ho1) hb); have n2_ := Aside0.mk (Kd.N_mono (Kd.N_told (Kd.N_told (Kd.N_old (by (with_reducible repeat (first | apply Kd.N_alloc | apply Kd.N_drewN | apply Kd.N_drew)); exact HO169.out) hb) (Kd.S_base ho0)) (Kd.R_base ho1)) (fun _ h_ => h_.1)); have n3_ := Aside0.mk (Kd.R_elder' (kR HO171) (Kd.R_base ho1) hb); have n4_ := Aside0.mk (Kd.N_lower (Kd.N_mono (ok' := fun k_ => some k_ ≠ (v176 : Value).ownBlock ∧ some k_ ≠ (.slice Ao36 t152.length co36 : Value).ownBlock ∧ some k_ ≠ (.slice Ao51 t153.length co51 : Value).ownBlock ∧ some k_ ≠ (v168 : Value).ownBlock ∧ some k_ ≠ (v170 : Value).ownBlock) (Kd.S_N (Kd.S_bound (Kd.S_apart' ho0 (Kd.R_typed ho1) (by decide)))) (fun k_ hk_ => ⟨hk_.1.2, (Kd.fresh' (Kd.N_lt (by (with_reducible repeat (first | apply Kd.N_alloc | apply Kd.N_drewN | apply Kd.N_drew)); exact HO_5.out)) k_ hk_.2.1), (Kd.fresh' (Kd.R_lt (kR HO_6)) k_ hk_.2.1), (Kd.fresh' (Kd.N_lt (by (with_reducible repeat (first | apply Kd.N_alloc | apply Kd.N_drewN | apply Kd.N_drew)); exact HO169.out)) k_ hk_.2.1), (Kd.fresh' (Kd.R_lt (kR HO171)) k_ hk_.2.1)⟩)) (below_size bA)); have n5_ := Aside0.mk (Kd.R_lower (Kd.R_new' (Kd.R_new' ho1 (Kd.R_lt (kR HO_6))) (Kd.R_lt (kR HO171))) (below_size bA)); have n6_ := Aside0.mk (below_step bA hb); clear HO_5; clear HO_6; clear HO169; clear HO171; clear HB; have HO_5 := n0_; have HO_6 := n1_; have HO169 := n2_; have HO171 := n3_; have HO175 := n4_; have HO177 := n5_; have HB := n6_; clear n0_ n1_ n2_ n3_ n4_ n5_ n6_; (try clear hb); (try clear hb2); (try clear hk); (try clear hi); (try clear ho0); (try clear ho1)) | ((with_reducible refine gate_builtin (b := .append) (xs := #[.tmp 132, .tmp 133]) rfl ?_); (try (refine gate_guard (by rfl) ?_; dsimp only)); at_builtin; refine Kd.N_append_rows k35 (w0 := w) w.heap.size rfl (.tmp 132) (.tmp 133) 30 35 (.agg #[(.int .i64 0), (.string ⟨#[]⟩), (.slice none 0 0), (.string ⟨#[]⟩)]) 64 rfl Tryd.underlying30 info35 rfl (by decide) (by omega) (.slice none 0 0) ([] : List (S35)) t152 _ _ _ (fun k_ => some k_ ≠ (.slice Ao51 t153.length co51 : Value).ownBlock ∧ some k_ ≠ (v168 : Value).ownBlock ∧ some k_ ≠ (v170 : Value).ownBlock ∧ some k_ ≠ (v174 : Value).ownBlock ∧ some k_ ≠ (v176 : Value).ownBlock) (fun k_ => ((fun k_ => some k_ ≠ (.slice Ao51 t153.length co51 : Value).ownBlock ∧ some k_ ≠ (v168 : Value).ownBlock ∧ some k_ ≠ (v170 : Value).ownBlock ∧ some k_ ≠ (v174 : Value).ownBlock ∧ some k_ ≠ (v176 : Value).ownBlock)) k_ ∧ some k_ ≠ (.slice none 0 0 : Value).ownBlock) rfl rfl ?aO ?aR (fun _ hk => hk) ?aF ?aB ?aS ?aL ?_; (case aR => exact (by skip; exact Kd.N_F (Kd.N_mono (ok' := (fun k_ => ((fun k_ => some k_ ≠ (.slice Ao51 t153.length co51 : Value).ownBlock ∧ some k_ ≠ (v168 : Value).ownBlock ∧ some k_ ≠ (v170 : Value).ownBlock ∧ some k_ ≠ (v174 : Value).ownBlock ∧ some k_ ≠ (v176 : Value).ownBlock)) k_ ∧ some k_ ≠ (.slice none 0 0 : Value).ownBlock)) (HO_5.out) (fun k_ hk => ⟨⟨hk.1.1.1.1, ⟨hk.1.1.1.2, ⟨hk.1.1.2, ⟨hk.1.2, hk.2⟩⟩⟩⟩, (by simp [Value.ownBlock])⟩)))); (case aB => exact bA); (case aF => exact (fun k_ hk => ⟨Kd.fresh' (Kd.R_lt (kR HO_6)) k_ hk, Kd.fresh' (Kd.N_lt (by (with_reducible repeat (first | apply Kd.N_alloc | apply Kd.N_drewN | apply Kd.N_drew)); exact HO169.out)) k_ hk, Kd.fresh' (Kd.R_lt (kR HO171)) k_ hk, Kd.fresh' (Kd.N_lt (by (with_reducible repeat (first | apply Kd.N_alloc | apply Kd.N_drewN | apply Kd.N_drew)); exact HO175.out)) k_ hk, Kd.fresh' (Kd.R_lt (kR HO177)) k_ hk⟩)); (case aO => exact ((Kd.N_nil _ _ _ _ (fun k_ => some k_ ≠ (.slice Ao51 t153.length co51 : Value).ownBlock ∧ some k_ ≠ (v168 : Value).ownBlock ∧ some k_ ≠ (v170 : Value).ownBlock ∧ some k_ ≠ (v174 : Value).ownBlock ∧ some k_ ≠ (v176 : Value).ownBlock)))); (case aS => exact (below_size bA)); (case aL => have := LMc49.out; omega); intro v179 w54 ho hb hg hat; rw [← Ny178.out] at ho; have n0_ := Aside0.mk (Kd.N_afterv (Kd.N_apart_nil (by (with_reducible repeat (first | apply Kd.N_alloc | apply Kd.N_drewN | apply Kd.N_drew)); exact HO_5.out)) hg hat); have n1_ := Aside0.mk (Kd.R_grown (kR HO_6) hg (fun _ _ => by simp [Value.ownBlock])); have n2_ := Aside0.mk (Kd.N_afterv (Kd.N_apart_nil (by (with_reducible repeat (first | apply Kd.N_alloc | apply Kd.N_drewN | apply Kd.N_drew)); exact HO169.out)) hg hat); have n3_ := Aside0.mk (Kd.R_grown (kR HO171) hg (fun _ _ => by simp [Value.ownBlock])); have n4_ := Aside0.mk (Kd.N_afterv (Kd.N_apart_nil (by (with_reducible repeat (first | apply Kd.N_alloc | apply Kd.N_drewN | apply Kd.N_drew)); exact HO175.out)) hg hat); have n5_ := Aside0.mk (Kd.R_grown (kR HO177) hg (fun _ _ => by simp [Value.ownBlock])); have n6_ := Aside0.mk (hb); have n7_ := Aside0.mk (ho); clear HO_5; clear HO_6; clear HO169; clear HO171; clear HO175; clear HO177; clear HB; have HO_5 := n0_; have HO_6 := n1_; have HO169 := n2_; have HO171 := n3_; have HO175 := n4_; have HO177 := n5_; have HB := n6_; have HO180 := n7_; clear n0_ n1_ n2_ n3_ n4_ n5_ n6_ n7_; clear ho hb hg hat)))
                (try simp only [Act.put, List.setIfInBounds_toArray, List.set_cons_zero, List.set_cons_succ])
                go_cut [144] (fun v144 wc => ∃ (kq : Nat) (x144_49 : Bool), v144 = .bool x144_49 ∧ Aside0 (flonglaw05_LinesOrder.j5 kq x7_2 t166 t172 y178 x144_49 = some r) ∧ Aside0 (kq ≤ k4) ∧ Aside0 (Kd.N k35 35 wc w.heap.size (fun k_ => some k_ ≠ (v174 : Value).ownBlock ∧ some k_ ≠ (v179 : Value).ownBlock) v168 t166) ∧ Aside0 (Kd.N k35 35 wc w.heap.size (fun k_ => some k_ ≠ (v168 : Value).ownBlock ∧ some k_ ≠ (v179 : Value).ownBlock) v174 t172) ∧ Aside0 (Kd.N k35 35 wc w.heap.size (fun k_ => some k_ ≠ (v168 : Value).ownBlock ∧ some k_ ≠ (v174 : Value).ownBlock) v179 y178) ∧ Aside0 (Below w.heap.size w wc))
                case first =>
                 have H := HC50.out
                 clear HC50
                 by_cases c55 : a0.toList = ([] : List UInt8)
                 ·rw [if_pos c55] at H
                  have c55b0 : (a0.toList == ([] : List UInt8)) = true := beq_iff_eq.mpr c55
                  have c55b1 : (a0.toList != ([] : List UInt8)) = false := bne_eq_false_iff_eq.mpr c55
                  clear c55
                  (first | rw [c55b0] | (simp only [i64_w, i32_w]; rw [c55b0]) | skip)
                  have H' := Aside0.mk H
                  clear H
                  go_wp2
                  repeat (go_quiet (fail); try go_wp2)
                  go_meet
                  case rel => exact ⟨_, (true), sA, H', ⟨by have := HJ2.out; have := HK2.out; have := HK3.out; have := HK4.out; first | omega | exact Nat.le_refl _⟩, ⟨by (with_reducible repeat (first | apply Kd.N_alloc | apply Kd.N_drewN | apply Kd.N_drew)); exact Kd.N_mono HO169.out (fun _ hk => ⟨hk.1.1.2, hk.2⟩)⟩, ⟨by (with_reducible repeat (first | apply Kd.N_alloc | apply Kd.N_drewN | apply Kd.N_drew)); exact Kd.N_mono HO175.out (fun _ hk => ⟨hk.1.2.2.2.1, hk.2⟩)⟩, ⟨by (with_reducible repeat (first | apply Kd.N_alloc | apply Kd.N_drewN | apply Kd.N_drew)); exact Kd.N_mono HO180.out (fun _ hk => ⟨hk.2.1, hk.2.2.2.1⟩)⟩, ⟨bA⟩⟩
                 ·rw [if_neg c55] at H
                  have c55b0 : (a0.toList == ([] : List UInt8)) = false := beq_eq_false_iff_ne.mpr c55
                  have c55b1 : (a0.toList != ([] : List UInt8)) = true := bne_iff_ne.mpr c55
                  (first | rw [c55b0] | (simp only [i64_w, i32_w]; rw [c55b0]) | skip)
                  obtain ⟨ji56, hji56⟩ : ∃ j_ : Int, (wrap64 ((a0.size : Int) - 1)) = j_ := ⟨_, rfl⟩
                  replace H : (if 0 ≤ (ji56) then (if (ji56) < (a0.size : Int) then (flonglaw05_LinesOrder.j5 k4 x7_2 t166 t172 y178 ((bt a0 (ji56)) == 10)) else (none)) else (none)) = some r := by first | (rw [hji56] at H; exact H) | (simp only [hji56] at H ⊢; exact H)
                  have hji56w : (IntKind.i64.wrap ((a0.size : Int) - 1)) = ji56 := (i64_w _).trans hji56
                  by_cases c57 : 0 ≤ (ji56)
                  ·rw [if_pos c57] at H
                   have c57b0 : decide (0 ≤ (ji56)) = true := decide_eq_true c57
                   clear c57
                   by_cases c58 : (ji56) < (a0.size : Int)
                   ·rw [if_pos c58] at H
                    have c58b0 : decide ((ji56) < (a0.size : Int)) = true := decide_eq_true c58
                    clear c58
                    have H' := Aside0.mk H
                    clear H
                    have p59 : 0 ≤ ((ji56) : Int) := of_decide_eq_true asA
                    have q59 : (ji56) < (a0.size : Int) := of_decide_eq_true asA
                    have hx59 := bt_at a0 (ji56)
                    replace p59 := eq_true p59
                    replace q59 := eq_true q59
                    go_wp2
                    repeat (go_quiet (fail); try go_wp2)
                    go_meet
                    case rel => exact ⟨_, (((bt a0 (ji56)) == 10)), (by first | rfl | (simp; done) | (simp only [← hji56] <;> (first | rfl | simp)) | (simp [*]; done)), H', ⟨by have := HJ2.out; have := HK2.out; have := HK3.out; have := HK4.out; first | omega | exact Nat.le_refl _⟩, ⟨by (with_reducible repeat (first | apply Kd.N_alloc | apply Kd.N_drewN | apply Kd.N_drew)); exact Kd.N_mono HO169.out (fun _ hk => ⟨hk.1.1.2, hk.2⟩)⟩, ⟨by (with_reducible repeat (first | apply Kd.N_alloc | apply Kd.N_drewN | apply Kd.N_drew)); exact Kd.N_mono HO175.out (fun _ hk => ⟨hk.1.2.2.2.1, hk.2⟩)⟩, ⟨by (with_reducible repeat (first | apply Kd.N_alloc | apply Kd.N_drewN | apply Kd.N_drew)); exact Kd.N_mono HO180.out (fun _ hk => ⟨hk.2.1, hk.2.2.2.1⟩)⟩, ⟨bA⟩⟩
                   ·rw [if_neg c58] at H
                    exact absurd H (by simp)
                  ·rw [if_neg c57] at H
                   exact absurd H (by simp)
                case rest =>
                 clear HC50
                 try clear c1
                 try clear p1
                 try clear q1
                 try clear hx1
                 try clear c2
                 try clear p2
                 try clear c3
                 try clear c4
                 try clear c4b0
                 try clear c4b1
                 try clear c5
                 try clear p5
                 try clear q5
                 try clear hx5
                 try clear p6
                 try clear c10
                 try clear c10b0
                 try clear c11
                 try clear c11b0
                 try clear p12
                 try clear q12
                 try clear hx12
                 try clear c13
                 try clear c13b0
                 try clear c13b1
                 try clear p14
                 try clear q14
                 try clear hx14
                 try clear c15
                 try clear c15b0
                 try clear c15b1
                 try clear c16
                 try clear p16
                 try clear q16
                 try clear hx16
                 try clear p18
                 try clear q18
                 try clear hx18
                 try clear c19
                 try clear c19b0
                 try clear c19b1
                 try clear c22
                 try clear c22b0
                 try clear c23
                 try clear c23b0
                 try clear c24
                 try clear c24b0
                 try clear c26
                 try clear c26b0
                 try clear c28
                 try clear c28b0
                 try clear c30
                 try clear c30b0
                 try clear c31
                 try clear c31b0
                 try clear c32
                 try clear c32b0
                 try clear c37
                 try clear c37b0
                 try clear c39
                 try clear c39b0
                 try clear c40
                 try clear c41
                 try clear c41b0
                 try clear c42
                 try clear c42b0
                 try clear c43
                 try clear c43b0
                 try clear c44
                 try clear c46
                 try clear c46b0
                 try clear c46b1
                 try clear c46b2
                 try clear c47
                 try clear c47b0
                 try clear c47b1
                 try clear c47b2
                 try clear c49
                 try clear c55
                 try clear c55b0
                 try clear c55b1
                 try clear c57
                 try clear c57b0
                 try clear c58
                 try clear c58b0
                 try clear p59
                 try clear q59
                 try clear hx59
                 try clear hx160_0
                 try clear hx160_1
                 try clear hx160_2
                 try clear hx160_3
                 try clear hx161_0
                 try clear hx161_1
                 try clear hx161_2
                 try clear hx161_3
                 try clear hx162_0
                 try clear hx162_1
                 try clear hx162_2
                 try clear hx162_3
                 try clear hx163_0
                 try clear hx163_1
                 try clear hx163_2
                 try clear hx163_3
                 try clear hx164_0
                 try clear hx164_1
                 try clear hx164_2
                 try clear hx164_3
                 try clear hx165_0
                 try clear hx165_1
                 try clear hx165_2
                 try clear p1
                 try clear p12
                 try clear p14
                 try clear p16
                 try clear p160
                 try clear p161
                 try clear p162
                 try clear p163
                 try clear p164
                 try clear p165
                 try clear p18
                 try clear p2
                 try clear p59
                 try clear p6
                 try clear q1
                 try clear q12
                 try clear q14
                 try clear q16
                 try clear q160
                 try clear q161
                 try clear q162
                 try clear q163
                 try clear q164
                 try clear q165
                 try clear q18
                 try clear q59
                 obtain ⟨kq, x144_49, rfl, HA, HJ49, HO_13, HO_15, HO_17, HB⟩ := hcut
                 cases kq with
                 | zero => exact absurd HA.out (by simp [flonglaw05_LinesOrder.j5])
                 | succ kj49 =>
                  have H := HA.out
                  clear HA
                  simp only [flonglaw05_LinesOrder.j5] at H
                  have HC60 := Aside0.mk H
                  clear H
                  go_upto_if 144 with (fail)
                  repeat (go_quiet (fail); go_upto_if 144 with (fail))
                  go_cut [17] (fun v17 wc => ∃ (kq : Nat) (x17_59 : List (S35)), Aside0 (flonglaw05_LinesOrder.j6 kq x7_2 t166 t172 x17_59 = some r) ∧ Aside0 (kq ≤ kj49) ∧ Aside0 (Kd.N k35 35 wc w.heap.size (fun k_ => some k_ ≠ (v174 : Value).ownBlock ∧ some k_ ≠ (v17 : Value).ownBlock) v168 t166) ∧ Aside0 (Kd.N k35 35 wc w.heap.size (fun k_ => some k_ ≠ (v168 : Value).ownBlock ∧ some k_ ≠ (v17 : Value).ownBlock) v174 t172) ∧ Aside0 (Kd.N k35 35 wc w.heap.size (fun k_ => some k_ ≠ (v168 : Value).ownBlock ∧ some k_ ≠ (v174 : Value).ownBlock) v17 x17_59) ∧ Aside0 (Below w.heap.size w wc))
                  case first =>
                   have H := HC60.out
                   clear HC60
                   by_cases c61 : x144_49 = true
                   ·subst c61
                    have H1 : (if y178.length < 2199023255552 then (flonglaw05_LinesOrder.j6 kj49 x7_2 t166 t172 (y178 ++ [(⟨wrap64 (x7_2 + 1), (⟨#[]⟩ : ByteArray), ([] : List ByteArray), (⟨#[]⟩ : ByteArray)⟩ : S35)])) else (none)) = some r := by rw [if_pos rfl] at H; exact H
                    clear H
                    have H := H1
                    clear H1
                    by_cases c62 : y178.length < 2199023255552
                    ·rw [if_pos c62] at H
                     have LMc62 := Aside0.mk c62
                     clear c62
                     obtain ⟨y181, hy181⟩ : ∃ y_ : List (S35), y_ = (y178 ++ [(⟨wrap64 (x7_2 + 1), (⟨#[]⟩ : ByteArray), ([] : List ByteArray), (⟨#[]⟩ : ByteArray)⟩ : S35)]) := ⟨_, rfl⟩
                     replace H : (flonglaw05_LinesOrder.j6 kj49 x7_2 t166 t172 y181) = some r := hyA hy181 H
                     have Ny181 := Aside0.mk hy181
                     clear hy181
                     have H' := Aside0.mk H
                     clear H
                     go_wp2_with (first | ((with_reducible refine gate_builtin (b := .append) (xs := #[.tmp 145, .tmp 149]) rfl ?_); (try (refine gate_guard (by rfl) ?_; dsimp only)); at_builtin; refine Kd.N_append k35 (w0 := w) w.heap.size rfl (.tmp 145) (.tmp 149) 30 35 (.agg #[(.int .i64 0), (.string ⟨#[]⟩), (.slice none 0 0), (.string ⟨#[]⟩)]) 64 rfl Tryd.underlying30 info35 rfl (by decide) (by omega) v179 y178 (⟨wrap64 (x7_2 + 1), (⟨#[]⟩ : ByteArray), ([] : List ByteArray), (⟨#[]⟩ : ByteArray)⟩ : S35) [.int .i64 (wrap64 (x7_2 + 1)), .string (⟨#[]⟩ : ByteArray), .slice none 0 0, .string (⟨#[]⟩ : ByteArray)] (fun k_ => some k_ ≠ (v168 : Value).ownBlock ∧ some k_ ≠ (v174 : Value).ownBlock) (fun k_ => ((fun k_ => some k_ ≠ (v168 : Value).ownBlock ∧ some k_ ≠ (v174 : Value).ownBlock)) k_ ∧ some k_ ≠ (v179 : Value).ownBlock) rfl rfl ?aP (fun _ hk => hk) ?aF ?aO ?aB ?aS ?aL ?_; (case aP => exact (k35_mkF _ _ (⟨wrap64 (x7_2 + 1), (⟨#[]⟩ : ByteArray), ([] : List ByteArray), (⟨#[]⟩ : ByteArray)⟩ : S35) (Nat.le_refl _) (Kd.F_nil _ _ _))); (case aB => exact bA); (case aF => exact (fun k_ hk => ⟨Kd.fresh' (Kd.N_lt (by (with_reducible repeat (first | apply Kd.N_alloc | apply Kd.N_drewN | apply Kd.N_drew)); exact HO_13.out)) k_ hk, Kd.fresh' (Kd.N_lt (by (with_reducible repeat (first | apply Kd.N_alloc | apply Kd.N_drewN | apply Kd.N_drew)); exact HO_15.out)) k_ hk⟩)); (case aO => exact (by (with_reducible repeat (first | apply Kd.N_alloc | apply Kd.N_drewN | apply Kd.N_drew)); exact HO_17.out)); (case aS => exact (below_size bA)); (case aL => have := LMc62.out; omega); intro v182 w63 ho hb hg hat; rw [← Ny181.out] at ho; have n0_ := Aside0.mk (Kd.N_afterv (ok := (fun k_ => some k_ ≠ (v174 : Value).ownBlock)) (by (with_reducible repeat (first | apply Kd.N_alloc | apply Kd.N_drewN | apply Kd.N_drew)); exact HO_13.out) hg hat); have n1_ := Aside0.mk (Kd.N_afterv (ok := (fun k_ => some k_ ≠ (v168 : Value).ownBlock)) (by (with_reducible repeat (first | apply Kd.N_alloc | apply Kd.N_drewN | apply Kd.N_drew)); exact HO_15.out) hg hat); have n2_ := Aside0.mk (hb); have n3_ := Aside0.mk (ho); clear HO_13; clear HO_15; clear HB; clear HO_17; have HO_13 := n0_; have HO_15 := n1_; have HB := n2_; have HO183 := n3_; clear n0_ n1_ n2_ n3_; clear ho hb hg hat))
                     repeat (go_quiet (first | ((with_reducible refine gate_builtin (b := .append) (xs := #[.tmp 145, .tmp 149]) rfl ?_); (try (refine gate_guard (by rfl) ?_; dsimp only)); at_builtin; refine Kd.N_append k35 (w0 := w) w.heap.size rfl (.tmp 145) (.tmp 149) 30 35 (.agg #[(.int .i64 0), (.string ⟨#[]⟩), (.slice none 0 0), (.string ⟨#[]⟩)]) 64 rfl Tryd.underlying30 info35 rfl (by decide) (by omega) v179 y178 (⟨wrap64 (x7_2 + 1), (⟨#[]⟩ : ByteArray), ([] : List ByteArray), (⟨#[]⟩ : ByteArray)⟩ : S35) [.int .i64 (wrap64 (x7_2 + 1)), .string (⟨#[]⟩ : ByteArray), .slice none 0 0, .string (⟨#[]⟩ : ByteArray)] (fun k_ => some k_ ≠ (v168 : Value).ownBlock ∧ some k_ ≠ (v174 : Value).ownBlock) (fun k_ => ((fun k_ => some k_ ≠ (v168 : Value).ownBlock ∧ some k_ ≠ (v174 : Value).ownBlock)) k_ ∧ some k_ ≠ (v179 : Value).ownBlock) rfl rfl ?aP (fun _ hk => hk) ?aF ?aO ?aB ?aS ?aL ?_; (case aP => exact (k35_mkF _ _ (⟨wrap64 (x7_2 + 1), (⟨#[]⟩ : ByteArray), ([] : List ByteArray), (⟨#[]⟩ : ByteArray)⟩ : S35) (Nat.le_refl _) (Kd.F_nil _ _ _))); (case aB => exact bA); (case aF => exact (fun k_ hk => ⟨Kd.fresh' (Kd.N_lt (by (with_reducible repeat (first | apply Kd.N_alloc | apply Kd.N_drewN | apply Kd.N_drew)); exact HO_13.out)) k_ hk, Kd.fresh' (Kd.N_lt (by (with_reducible repeat (first | apply Kd.N_alloc | apply Kd.N_drewN | apply Kd.N_drew)); exact HO_15.out)) k_ hk⟩)); (case aO => exact (by (with_reducible repeat (first | apply Kd.N_alloc | apply Kd.N_drewN | apply Kd.N_drew)); exact HO_17.out)); (case aS => exact (below_size bA)); (case aL => have := LMc62.out; omega); intro v182 w63 ho hb hg hat; rw [← Ny181.out] at ho; have n0_ := Aside0.mk (Kd.N_afterv (ok := (fun k_ => some k_ ≠ (v174 : Value).ownBlock)) (by (with_reducible repeat (first | apply Kd.N_alloc | apply Kd.N_drewN | apply Kd.N_drew)); exact HO_13.out) hg hat); have n1_ := Aside0.mk (Kd.N_afterv (ok := (fun k_ => some k_ ≠ (v168 : Value).ownBlock)) (by (with_reducible repeat (first | apply Kd.N_alloc | apply Kd.N_drewN | apply Kd.N_drew)); exact HO_15.out) hg hat); have n2_ := Aside0.mk (hb); have n3_ := Aside0.mk (ho); clear HO_13; clear HO_15; clear HB; clear HO_17; have HO_13 := n0_; have HO_15 := n1_; have HB := n2_; have HO183 := n3_; clear n0_ n1_ n2_ n3_; clear ho hb hg hat)); try go_wp2_with (first | ((with_reducible refine gate_builtin (b := .append) (xs := #[.tmp 145, .tmp 149]) rfl ?_); (try (refine gate_guard (by rfl) ?_; dsimp only)); at_builtin; refine Kd.N_append k35 (w0 := w) w.heap.size rfl (.tmp 145) (.tmp 149) 30 35 (.agg #[(.int .i64 0), (.string ⟨#[]⟩), (.slice none 0 0), (.string ⟨#[]⟩)]) 64 rfl Tryd.underlying30 info35 rfl (by decide) (by omega) v179 y178 (⟨wrap64 (x7_2 + 1), (⟨#[]⟩ : ByteArray), ([] : List ByteArray), (⟨#[]⟩ : ByteArray)⟩ : S35) [.int .i64 (wrap64 (x7_2 + 1)), .string (⟨#[]⟩ : ByteArray), .slice none 0 0, .string (⟨#[]⟩ : ByteArray)] (fun k_ => some k_ ≠ (v168 : Value).ownBlock ∧ some k_ ≠ (v174 : Value).ownBlock) (fun k_ => ((fun k_ => some k_ ≠ (v168 : Value).ownBlock ∧ some k_ ≠ (v174 : Value).ownBlock)) k_ ∧ some k_ ≠ (v179 : Value).ownBlock) rfl rfl ?aP (fun _ hk => hk) ?aF ?aO ?aB ?aS ?aL ?_; (case aP => exact (k35_mkF _ _ (⟨wrap64 (x7_2 + 1), (⟨#[]⟩ : ByteArray), ([] : List ByteArray), (⟨#[]⟩ : ByteArray)⟩ : S35) (Nat.le_refl _) (Kd.F_nil _ _ _))); (case aB => exact bA); (case aF => exact (fun k_ hk => ⟨Kd.fresh' (Kd.N_lt (by (with_reducible repeat (first | apply Kd.N_alloc | apply Kd.N_drewN | apply Kd.N_drew)); exact HO_13.out)) k_ hk, Kd.fresh' (Kd.N_lt (by (with_reducible repeat (first | apply Kd.N_alloc | apply Kd.N_drewN | apply Kd.N_drew)); exact HO_15.out)) k_ hk⟩)); (case aO => exact (by (with_reducible repeat (first | apply Kd.N_alloc | apply Kd.N_drewN | apply Kd.N_drew)); exact HO_17.out)); (case aS => exact (below_size bA)); (case aL => have := LMc62.out; omega); intro v182 w63 ho hb hg hat; rw [← Ny181.out] at ho; have n0_ := Aside0.mk (Kd.N_afterv (ok := (fun k_ => some k_ ≠ (v174 : Value).ownBlock)) (by (with_reducible repeat (first | apply Kd.N_alloc | apply Kd.N_drewN | apply Kd.N_drew)); exact HO_13.out) hg hat); have n1_ := Aside0.mk (Kd.N_afterv (ok := (fun k_ => some k_ ≠ (v168 : Value).ownBlock)) (by (with_reducible repeat (first | apply Kd.N_alloc | apply Kd.N_drewN | apply Kd.N_drew)); exact HO_15.out) hg hat); have n2_ := Aside0.mk (hb); have n3_ := Aside0.mk (ho); clear HO_13; clear HO_15; clear HB; clear HO_17; have HO_13 := n0_; have HO_15 := n1_; have HB := n2_; have HO183 := n3_; clear n0_ n1_ n2_ n3_; clear ho hb hg hat)))
                     go_meet
                     case rel => exact ⟨_, (y181), H', ⟨by have := HJ2.out; have := HK2.out; have := HK3.out; have := HK4.out; have := HJ49.out; first | omega | exact Nat.le_refl _⟩, ⟨by (with_reducible repeat (first | apply Kd.N_alloc | apply Kd.N_drewN | apply Kd.N_drew)); exact HO_13.out⟩, ⟨by (with_reducible repeat (first | apply Kd.N_alloc | apply Kd.N_drewN | apply Kd.N_drew)); exact HO_15.out⟩, ⟨by (with_reducible repeat (first | apply Kd.N_alloc | apply Kd.N_drewN | apply Kd.N_drew)); exact HO183.out⟩, ⟨bA⟩⟩
                    ·rw [if_neg c62] at H
                     exact absurd H (by simp)
                   ·replace c61 := Bool.eq_false_iff.mpr c61
                    subst c61
                    have H1 : (flonglaw05_LinesOrder.j6 kj49 x7_2 t166 t172 y178) = some r := by rw [if_neg (show ¬ (false = true) by decide)] at H; exact H
                    clear H
                    have H := H1
                    clear H1
                    have H' := Aside0.mk H
                    clear H
                    go_wp2
                    repeat (go_quiet (fail); try go_wp2)
                    go_meet
                    case rel => exact ⟨_, (y178), H', ⟨by have := HJ2.out; have := HK2.out; have := HK3.out; have := HK4.out; have := HJ49.out; first | omega | exact Nat.le_refl _⟩, ⟨by (with_reducible repeat (first | apply Kd.N_alloc | apply Kd.N_drewN | apply Kd.N_drew)); exact HO_13.out⟩, ⟨by (with_reducible repeat (first | apply Kd.N_alloc | apply Kd.N_drewN | apply Kd.N_drew)); exact HO_15.out⟩, ⟨by (with_reducible repeat (first | apply Kd.N_alloc | apply Kd.N_drewN | apply Kd.N_drew)); exact HO_17.out⟩, ⟨bA⟩⟩
                  case rest =>
                   clear HC60
                   try clear c1
                   try clear p1
                   try clear q1
                   try clear hx1
                   try clear c2
                   try clear p2
                   try clear c3
                   try clear c4
                   try clear c4b0
                   try clear c4b1
                   try clear c5
                   try clear p5
                   try clear q5
                   try clear hx5
                   try clear c6
                   try clear p6
                   try clear c10
                   try clear c10b0
                   try clear c11
                   try clear c11b0
                   try clear p12
                   try clear q12
                   try clear hx12
                   try clear c13
                   try clear c13b0
                   try clear c13b1
                   try clear p14
                   try clear q14
                   try clear hx14
                   try clear c15
                   try clear c15b0
                   try clear c15b1
                   try clear c16
                   try clear p16
                   try clear q16
                   try clear hx16
                   try clear p18
                   try clear q18
                   try clear hx18
                   try clear c19
                   try clear c19b0
                   try clear c19b1
                   try clear c22
                   try clear c22b0
                   try clear c23
                   try clear c23b0
                   try clear c24
                   try clear c24b0
                   try clear c26
                   try clear c26b0
                   try clear c28
                   try clear c28b0
                   try clear c30
                   try clear c30b0
                   try clear c31
                   try clear c31b0
                   try clear c32
                   try clear c32b0
                   try clear c37
                   try clear c37b0
                   try clear c39
                   try clear c39b0
                   try clear c40
                   try clear c41
                   try clear c41b0
                   try clear c42
                   try clear c42b0
                   try clear c43
                   try clear c43b0
                   try clear c44
                   try clear c46
                   try clear c46b0
                   try clear c46b1
                   try clear c46b2
                   try clear c47
                   try clear c47b0
                   try clear c47b1
                   try clear c47b2
                   try clear c49
                   try clear c55
                   try clear c55b0
                   try clear c55b1
                   try clear c57
                   try clear c57b0
                   try clear c58
                   try clear c58b0
                   try clear p59
                   try clear q59
                   try clear hx59
                   try clear c61
                   try clear c62
                   try clear hx160_0
                   try clear hx160_1
                   try clear hx160_2
                   try clear hx160_3
                   try clear hx161_0
                   try clear hx161_1
                   try clear hx161_2
                   try clear hx161_3
                   try clear hx162_0
                   try clear hx162_1
                   try clear hx162_2
                   try clear hx162_3
                   try clear hx163_0
                   try clear hx163_1
                   try clear hx163_2
                   try clear hx163_3
                   try clear hx164_0
                   try clear hx164_1
                   try clear hx164_2
                   try clear hx164_3
                   try clear hx165_0
                   try clear hx165_1
                   try clear hx165_2
                   try clear p1
                   try clear p12
                   try clear p14
                   try clear p16
                   try clear p160
                   try clear p161
                   try clear p162
                   try clear p163
                   try clear p164
                   try clear p165
                   try clear p18
                   try clear p2
                   try clear p5
                   try clear p59
                   try clear p6
                   try clear q1
                   try clear q12
                   try clear q14
                   try clear q16
                   try clear q160
                   try clear q161
                   try clear q162
                   try clear q163
                   try clear q164
                   try clear q165
                   try clear q18
                   try clear q5
                   try clear q59
                   obtain ⟨kq, x17_59, HA, HJ59, HO_13, HO_15, HO_17, HB⟩ := hcut
                   cases kq with
                   | zero => exact absurd HA.out (by simp [flonglaw05_LinesOrder.j6])
                   | succ kj59 =>
                    have H := HA.out
                    clear HA
                    simp only [flonglaw05_LinesOrder.j6] at H
                    have H' := Aside0.mk H
                    clear H
                    go_wp2
                    repeat (go_quiet (fail); try go_wp2)
                    go_loopg [17, 18] kj59 (fun kq v17 v18 w' => ∃ (x17_7 : List (S35)) (x18_7 : Int), v18 = .int .i64 x18_7 ∧ Aside0 (flonglaw05_LinesOrder.l4 kq x7_2 t166 t172 x17_7 x18_7 = some r) ∧ Aside0 (kq ≤ kj59) ∧ Aside0 (Kd.N k35 35 w' w.heap.size (fun k_ => some k_ ≠ (v174 : Value).ownBlock ∧ some k_ ≠ (v17 : Value).ownBlock) v168 t166) ∧ Aside0 (Kd.N k35 35 w' w.heap.size (fun k_ => some k_ ≠ (v168 : Value).ownBlock ∧ some k_ ≠ (v17 : Value).ownBlock) v174 t172) ∧ Aside0 (Kd.N k35 35 w' w.heap.size (fun k_ => some k_ ≠ (v168 : Value).ownBlock ∧ some k_ ≠ (v174 : Value).ownBlock) v17 x17_7) ∧ Aside0 (Below w.heap.size w w'))
                    case atStart => exact ⟨(x17_59), (0), sA, H', ⟨Nat.le_refl _⟩, ⟨by (with_reducible repeat (first | apply Kd.N_alloc | apply Kd.N_drewN | apply Kd.N_drew)); exact HO_13.out⟩, ⟨by (with_reducible repeat (first | apply Kd.N_alloc | apply Kd.N_drewN | apply Kd.N_drew)); exact HO_15.out⟩, ⟨by (with_reducible repeat (first | apply Kd.N_alloc | apply Kd.N_drewN | apply Kd.N_drew)); exact HO_17.out⟩, ⟨bA⟩⟩
                    case round =>
                     clear H'
                     try clear c1
                     try clear p1
                     try clear q1
                     try clear hx1
                     try clear c2
                     try clear p2
                     try clear c3
                     try clear c4
                     try clear c4b0
                     try clear c4b1
                     try clear c5
                     try clear p5
                     try clear q5
                     try clear hx5
                     try clear c6
                     try clear p6
                     try clear c10
                     try clear c10b0
                     try clear c11
                     try clear c11b0
                     try clear p12
                     try clear q12
                     try clear hx12
                     try clear c13
                     try clear c13b0
                     try clear c13b1
                     try clear p14
                     try clear q14
                     try clear hx14
                     try clear c15
                     try clear c15b0
                     try clear c15b1
                     try clear c16
                     try clear p16
                     try clear q16
                     try clear hx16
                     try clear p18
                     try clear q18
                     try clear hx18
                     try clear c19
                     try clear c19b0
                     try clear c19b1
                     try clear c22
                     try clear c22b0
                     try clear c23
                     try clear c23b0
                     try clear c24
                     try clear c24b0
                     try clear c26
                     try clear c26b0
                     try clear c28
                     try clear c28b0
                     try clear c30
                     try clear c30b0
                     try clear c31
                     try clear c31b0
                     try clear c32
                     try clear c32b0
                     try clear c37
                     try clear c37b0
                     try clear c39
                     try clear c39b0
                     try clear c40
                     try clear c41
                     try clear c41b0
                     try clear c42
                     try clear c42b0
                     try clear c43
                     try clear c43b0
                     try clear c44
                     try clear c46
                     try clear c46b0
                     try clear c46b1
                     try clear c46b2
                     try clear c47
                     try clear c47b0
                     try clear c47b1
                     try clear c47b2
                     try clear c49
                     try clear c55
                     try clear c55b0
                     try clear c55b1
                     try clear c57
                     try clear c57b0
                     try clear c58
                     try clear c58b0
                     try clear p59
                     try clear q59
                     try clear hx59
                     try clear c61
                     try clear c62
                     try clear hx160_0
                     try clear hx160_1
                     try clear hx160_2
                     try clear hx160_3
                     try clear hx161_0
                     try clear hx161_1
                     try clear hx161_2
                     try clear hx161_3
                     try clear hx162_0
                     try clear hx162_1
                     try clear hx162_2
                     try clear hx162_3
                     try clear hx163_0
                     try clear hx163_1
                     try clear hx163_2
                     try clear hx163_3
                     try clear hx164_0
                     try clear hx164_1
                     try clear hx164_2
                     try clear hx164_3
                     try clear hx165_0
                     try clear hx165_1
                     try clear hx165_2
                     try clear p1
                     try clear p12
                     try clear p14
                     try clear p16
                     try clear p160
                     try clear p161
                     try clear p162
                     try clear p163
                     try clear p164
                     try clear p165
                     try clear p18
                     try clear p2
                     try clear p5
                     try clear p59
                     try clear p6
                     try clear q1
                     try clear q12
                     try clear q14
                     try clear q16
                     try clear q160
                     try clear q161
                     try clear q162
                     try clear q163
                     try clear q164
                     try clear q165
                     try clear q18
                     try clear q5
                     try clear q59
                     obtain ⟨x17_7, x18_7, rfl, HA, HK7, HO_13, HO_15, HO_17, HB⟩ := hrel
                     cases gk with
                     | zero => exact absurd HA.out (by simp [flonglaw05_LinesOrder.l4])
                     | succ k7 =>
                      have H := HA.out
                      clear HA
                      simp only [flonglaw05_LinesOrder.l4] at H
                      by_cases c64 : x18_7 < (t166.length : Int)
                      ·rw [if_pos c64] at H
                       have c64b0 : decide (x18_7 < (t166.length : Int)) = true := decide_eq_true c64
                       clear c64
                       by_cases c65 : 0 ≤ x18_7
                       ·rw [if_pos c65] at H
                        have c65b0 : decide (0 ≤ x18_7) = true := decide_eq_true c65
                        clear c65
                        by_cases c66 : x17_7.length < 2199023255552
                        ·rw [if_pos c66] at H
                         have LMc66 := Aside0.mk c66
                         clear c66
                         obtain ⟨y186, hy186⟩ : ∃ y_ : List (S35), y_ = (x17_7 ++ [(⟨wrap64 ((wrap64 (((rd_T35 t166 x18_7).f0) + x7_2)) + 1), (rd_T35 t166 x18_7).f1, (rd_T35 t166 x18_7).f2, (rd_T35 t166 x18_7).f3⟩ : S35)]) := ⟨_, rfl⟩
                         replace H : (flonglaw05_LinesOrder.l4 k7 x7_2 t166 t172 y186 (wrap64 (x18_7 + 1))) = some r := hyA hy186 H
                         have Ny186 := Aside0.mk hy186
                         clear hy186
                         have H' := Aside0.mk H
                         clear H
                         obtain ⟨Ao67, co67, eo67⟩ := Kd.N_slice HO_13.out
                         subst eo67
                         have p184 : 0 ≤ (x18_7 : Int) := of_decide_eq_true asA
                         have q184 : x18_7 < (t166.length : Int) := of_decide_eq_true asA
                         obtain ⟨ad184, A184_2, c184_2, e184, hx184_0, hx184_1, hx184_2, hx184_3, hl184_2, hi184_2⟩ := at_T35 (Kd.N_reads' HO_13.out).2.2 x18_7 p184 q184
                         cases e184
                         obtain ⟨ce184, hce184, hMe184, hcc184⟩ := Kd.N_get HO_13.out z35 x18_7 p184 (by first | exact q184 | exact of_decide_eq_true asA | (have e_ := (Kd.N_reads' HO_13.out).1; omega))
                         obtain ⟨ua184_2, uc184_2, rfl, ul184_2, ge184_2⟩ := k35_openF hMe184
                         have hv184_2 := hcc184 2 _ rfl
                         rw [add_field _ _ 2 (by omega)] at hv184_2
                         replace hv184_2 := Option.some.inj (hv184_2.symm.trans hx184_2)
                         injection hv184_2 with hva_ hvn_ hvc_
                         rw [hva_] at ge184_2
                         rw [hvc_] at ul184_2
                         have HL184_2 := Aside0.mk (show Kd.V Kd.string 9 _ w.heap.size _ _ ((rd_T35 t166 x18_7).f2) from Kd.V_mk ul184_2 ge184_2)
                         clear hva_ hvn_ hvc_ ge184_2 ul184_2
                         clear hcc184 hce184
                         have HR184_2 := Aside0.mk hi184_2
                         have HC184_2 := Aside0.mk hl184_2
                         clear hi184_2 hl184_2
                         replace p184 := eq_true p184
                         replace q184 := eq_true q184
                         go_wp2_with (first | ((with_reducible refine gate_dst (N := 19) rfl ?_); (try (refine gate_guard (by rfl) ?_; dsimp only)); refine box_event ?hg (N := 19) ?hd (cs := #[.int .i64 0, .string (⟨#[]⟩ : ByteArray), .slice none 0 0, .string (⟨#[]⟩ : ByteArray)]) (t := 35) ?hr ?_; (case hd => rfl); (case hg => rfl); (case hr => first | (go_simp; done) | (go_simp; rfl)); intro gb185 hg w68 hbox hb; have n0_ := Aside0.mk (Kd.N_below (Kd.N_elderB (by (with_reducible repeat (first | apply Kd.N_alloc | apply Kd.N_drewN | apply Kd.N_drew)); exact HO_13.out) gb185 (Nat.le_of_eq hg.symm)) hb); have n1_ := Aside0.mk (Kd.N_below (Kd.N_elderB (by (with_reducible repeat (first | apply Kd.N_alloc | apply Kd.N_drewN | apply Kd.N_drew)); exact HO_15.out) gb185 (Nat.le_of_eq hg.symm)) hb); have n2_ := Aside0.mk (Kd.N_below (Kd.N_elderB (by (with_reducible repeat (first | apply Kd.N_alloc | apply Kd.N_drewN | apply Kd.N_drew)); exact HO_17.out) gb185 (Nat.le_of_eq hg.symm)) hb); have n3_ := Aside0.mk (Kd.V_below (Kd.V_elderB (kV HL184_2) gb185 (Nat.le_of_eq hg.symm)) hb); have n4_ := Aside0.mk (Kd.C_below (by repeat (first | (with_reducible exact HR184_2.out) | (with_reducible refine Kd.C_alloc ?_ _) | (with_reducible refine Kd.C_drewN ?_ _) | (with_reducible refine Kd.C_drew ?_) | exact HR184_2.out)) hb); have n5_ := Aside0.mk (below_step bA hb); have n6_ := Aside0.mk (hbox); have n7_ := Aside0.mk ((geA hg : w.heap.size ≤ gb185)); have n8_ := Aside0.mk ((geA hg : w.heap.size ≤ gb185)); clear HO_13; clear HO_15; clear HO_17; clear HL184_2; clear HR184_2; clear HB; have HO_13 := n0_; have HO_15 := n1_; have HO_17 := n2_; have HL184_2 := n3_; have HR184_2 := n4_; have HB := n5_; have BK185 := n6_; have GW185 := n7_; have GE185 := n8_; clear n0_ n1_ n2_ n3_ n4_ n5_ n6_ n7_ n8_; clear hb hbox hg; have hcz69_0 : w68.cell? ⟨gb185, 0, none⟩ = some (.int .i64 0) := (blk_cell BK185.out 0).trans rfl; have hcz69_1 : w68.cell? ⟨gb185, 1, none⟩ = some (.string (⟨#[]⟩ : ByteArray)) := (blk_cell BK185.out 1).trans rfl; have hcz69_2 : w68.cell? ⟨gb185, 2, none⟩ = some (.slice none 0 0) := (blk_cell BK185.out 2).trans rfl; have hcz69_3 : w68.cell? ⟨gb185, 3, none⟩ = some (.string (⟨#[]⟩ : ByteArray)) := (blk_cell BK185.out 3).trans rfl; have hfz69_0 := blk_frozen BK185.out 0; have hfz69_1 := blk_frozen BK185.out 1; have hfz69_2 := blk_frozen BK185.out 2; have hfz69_3 := blk_frozen BK185.out 3) | ((with_reducible refine gate_store (t := 35) (p := 19) rfl ?_); (try (rw [drewN_self w68]; generalize hq_ : World.drewN w68 _ = w68; have n0_ := Aside0.mk (Kd.N_at hq_ HO_13.out); have n1_ := Aside0.mk (Kd.N_at hq_ HO_15.out); have n2_ := Aside0.mk (Kd.N_at hq_ HO_17.out); have n3_ := Aside0.mk (Kd.V_at hq_ HL184_2.out); have n4_ := Aside0.mk (blk_at hq_ BK185.out); have n5_ := Aside0.mk (Kd.C_at hq_ HR184_2.out); have n6_ := Aside0.mk (below_at hq_ HB.out); clear hq_ HO_13 HO_15 HO_17 HL184_2 BK185 HR184_2 HB; have HO_13 := n0_; have HO_15 := n1_; have HO_17 := n2_; have HL184_2 := n3_; have BK185 := n4_; have HR184_2 := n5_; have HB := n6_; clear n0_ n1_ n2_ n3_ n4_ n5_ n6_)); refine store_event (t := 35) (p := 19) (v := ?vo_w70) (w1 := ((((w68.setCell ⟨gb185, 0, none⟩ (.int .i64 ((rd_T35 t166 x18_7).f0))).setCell ⟨gb185, 1, none⟩ (.string ((rd_T35 t166 x18_7).f1))).setCell ⟨gb185, 2, none⟩ (.slice A184_2 ((rd_T35 t166 x18_7).f2).length c184_2)).setCell ⟨gb185, 3, none⟩ (.string ((rd_T35 t166 x18_7).f3)))) ?hg ?ho ?hn ?hr ?_; (case ho => rfl); (case hg => rfl); (case hn => rfl); (case hr => first | (go_simp; done) | (go_simp; rfl)); intro w70 hw; have n0_ : Aside0 (Kd.N k35 35 w70 w.heap.size (fun k_ => some k_ ≠ (v174 : Value).ownBlock ∧ some k_ ≠ (u17 : Value).ownBlock ∧ k_ ≠ gb185) (.slice (some ad184) t166.length co67) t166) := ⟨(by rw [hw]; exact (by (with_reducible repeat (first | apply Kd.N_alloc | apply Kd.N_drewN | apply Kd.N_drew)); exact Kd.N_mono (Kd.N_far (p := ⟨gb185, 3, none⟩) (Kd.N_far (p := ⟨gb185, 2, none⟩) (Kd.N_far (p := ⟨gb185, 1, none⟩) (Kd.N_far (p := ⟨gb185, 0, none⟩) (Kd.N_mono HO_13.out (fun k_ hk => (⟨hk, hk.2⟩ : _ ∧ k_ ≠ gb185))) (fun _ hk => hk.2) (.int .i64 ((rd_T35 t166 x18_7).f0))) (fun _ hk => hk.2) (.string ((rd_T35 t166 x18_7).f1))) (fun _ hk => hk.2) (.slice A184_2 ((rd_T35 t166 x18_7).f2).length c184_2)) (fun _ hk => hk.2) (.string ((rd_T35 t166 x18_7).f3))) (fun _ hk => ⟨hk.1.1.1, ⟨hk.1.1.2, hk.1.2⟩⟩)))⟩; have n1_ : Aside0 (Kd.N k35 35 w70 w.heap.size (fun k_ => some k_ ≠ (.slice (some ad184) t166.length co67 : Value).ownBlock ∧ some k_ ≠ (u17 : Value).ownBlock ∧ k_ ≠ gb185) v174 t172) := ⟨(by rw [hw]; exact (by (with_reducible repeat (first | apply Kd.N_alloc | apply Kd.N_drewN | apply Kd.N_drew)); exact Kd.N_mono (Kd.N_far (p := ⟨gb185, 3, none⟩) (Kd.N_far (p := ⟨gb185, 2, none⟩) (Kd.N_far (p := ⟨gb185, 1, none⟩) (Kd.N_far (p := ⟨gb185, 0, none⟩) (Kd.N_mono HO_15.out (fun k_ hk => (⟨hk, hk.2⟩ : _ ∧ k_ ≠ gb185))) (fun _ hk => hk.2) (.int .i64 ((rd_T35 t166 x18_7).f0))) (fun _ hk => hk.2) (.string ((rd_T35 t166 x18_7).f1))) (fun _ hk => hk.2) (.slice A184_2 ((rd_T35 t166 x18_7).f2).length c184_2)) (fun _ hk => hk.2) (.string ((rd_T35 t166 x18_7).f3))) (fun _ hk => ⟨hk.1.1.1, ⟨hk.1.1.2, hk.1.2⟩⟩)))⟩; have n2_ : Aside0 (Kd.N k35 35 w70 w.heap.size (fun k_ => some k_ ≠ (.slice (some ad184) t166.length co67 : Value).ownBlock ∧ some k_ ≠ (v174 : Value).ownBlock ∧ k_ ≠ gb185) u17 x17_7) := ⟨(by rw [hw]; exact (by (with_reducible repeat (first | apply Kd.N_alloc | apply Kd.N_drewN | apply Kd.N_drew)); exact Kd.N_mono (Kd.N_far (p := ⟨gb185, 3, none⟩) (Kd.N_far (p := ⟨gb185, 2, none⟩) (Kd.N_far (p := ⟨gb185, 1, none⟩) (Kd.N_far (p := ⟨gb185, 0, none⟩) (Kd.N_mono HO_17.out (fun k_ hk => (⟨hk, hk.2⟩ : _ ∧ k_ ≠ gb185))) (fun _ hk => hk.2) (.int .i64 ((rd_T35 t166 x18_7).f0))) (fun _ hk => hk.2) (.string ((rd_T35 t166 x18_7).f1))) (fun _ hk => hk.2) (.slice A184_2 ((rd_T35 t166 x18_7).f2).length c184_2)) (fun _ hk => hk.2) (.string ((rd_T35 t166 x18_7).f3))) (fun _ hk => ⟨hk.1.1.1, ⟨hk.1.1.2, hk.1.2⟩⟩)))⟩; have n3_ : Aside0 (Kd.V Kd.string 9 w70 w.heap.size (fun k_ => some k_ ≠ (.slice (some ad184) t166.length co67 : Value).ownBlock ∧ some k_ ≠ (v174 : Value).ownBlock ∧ some k_ ≠ (u17 : Value).ownBlock ∧ k_ ≠ gb185) (.slice A184_2 ((rd_T35 t166 x18_7).f2).length c184_2) ((rd_T35 t166 x18_7).f2)) := ⟨(by rw [hw]; exact (by (with_reducible repeat (first | apply Kd.V_alloc | apply Kd.V_drewN | apply Kd.V_drew)); exact Kd.V_mono (Kd.V_far (p := ⟨gb185, 3, none⟩) (Kd.V_far (p := ⟨gb185, 2, none⟩) (Kd.V_far (p := ⟨gb185, 1, none⟩) (Kd.V_far (p := ⟨gb185, 0, none⟩) (Kd.V_mono HL184_2.out (fun k_ hk => (⟨hk, hk.2⟩ : _ ∧ k_ ≠ gb185))) (fun _ hk => hk.2) (.int .i64 ((rd_T35 t166 x18_7).f0))) (fun _ hk => hk.2) (.string ((rd_T35 t166 x18_7).f1))) (fun _ hk => hk.2) (.slice A184_2 ((rd_T35 t166 x18_7).f2).length c184_2)) (fun _ hk => hk.2) (.string ((rd_T35 t166 x18_7).f3))) (fun _ hk => ⟨hk.1.1.2, ⟨hk.1.1.1.1, ⟨hk.1.1.1.2, hk.1.2⟩⟩⟩)))⟩; have n4_ : Aside0 (w70.heap[gb185]? = some (.cells #[.int .i64 ((rd_T35 t166 x18_7).f0), .string ((rd_T35 t166 x18_7).f1), .slice A184_2 ((rd_T35 t166 x18_7).f2).length c184_2, .string ((rd_T35 t166 x18_7).f3)] 35 (0, 0))) := ⟨(by rw [hw]; exact (by (with_reducible repeat (first | refine blk_drewN ?_ _ | refine blk_drew ?_ | refine blk_alloc ?_ _)); refine blk_put (cs := #[.int .i64 ((rd_T35 t166 x18_7).f0), .string ((rd_T35 t166 x18_7).f1), .slice A184_2 ((rd_T35 t166 x18_7).f2).length c184_2, .string (⟨#[]⟩ : ByteArray)]) ?_ 3 _ rfl; (with_reducible repeat (first | refine blk_drewN ?_ _ | refine blk_drew ?_ | refine blk_alloc ?_ _)); refine blk_put (cs := #[.int .i64 ((rd_T35 t166 x18_7).f0), .string ((rd_T35 t166 x18_7).f1), .slice none 0 0, .string (⟨#[]⟩ : ByteArray)]) ?_ 2 _ rfl; (with_reducible repeat (first | refine blk_drewN ?_ _ | refine blk_drew ?_ | refine blk_alloc ?_ _)); refine blk_put (cs := #[.int .i64 ((rd_T35 t166 x18_7).f0), .string (⟨#[]⟩ : ByteArray), .slice none 0 0, .string (⟨#[]⟩ : ByteArray)]) ?_ 1 _ rfl; (with_reducible repeat (first | refine blk_drewN ?_ _ | refine blk_drew ?_ | refine blk_alloc ?_ _)); refine blk_put (cs := #[.int .i64 0, .string (⟨#[]⟩ : ByteArray), .slice none 0 0, .string (⟨#[]⟩ : ByteArray)]) ?_ 0 _ rfl; (with_reducible repeat (first | refine blk_drewN ?_ _ | refine blk_drew ?_ | refine blk_alloc ?_ _)); exact BK185.out))⟩; have n5_ : Aside0 (Below w.heap.size w w70) := ⟨(by rw [hw]; exact bG)⟩; clear hw; clear HO_13; clear HO_15; clear HO_17; clear HL184_2; clear BK185; clear HB; have HO_13 := n0_; have HO_15 := n1_; have HO_17 := n2_; have HL184_2 := n3_; have BK185 := n4_; have HB := n5_; clear n0_ n1_ n2_ n3_ n4_ n5_; have hcz71_0 : w70.cell? ⟨gb185, 0, none⟩ = some (.int .i64 ((rd_T35 t166 x18_7).f0)) := (blk_cell BK185.out 0).trans rfl; have hcz71_1 : w70.cell? ⟨gb185, 1, none⟩ = some (.string ((rd_T35 t166 x18_7).f1)) := (blk_cell BK185.out 1).trans rfl; have hcz71_2 : w70.cell? ⟨gb185, 2, none⟩ = some (.slice A184_2 ((rd_T35 t166 x18_7).f2).length c184_2) := (blk_cell BK185.out 2).trans rfl; have hcz71_3 : w70.cell? ⟨gb185, 3, none⟩ = some (.string ((rd_T35 t166 x18_7).f3)) := (blk_cell BK185.out 3).trans rfl; have hfz71_0 := blk_frozen BK185.out 0; have hfz71_1 := blk_frozen BK185.out 1; have hfz71_2 := blk_frozen BK185.out 2; have hfz71_3 := blk_frozen BK185.out 3) | ((with_reducible refine gate_store (t := 3) (p := 166) rfl ?_); (try (rw [drewN_self w70]; generalize hq_ : World.drewN w70 _ = w70; have n0_ := Aside0.mk (Kd.N_at hq_ HO_13.out); have n1_ := Aside0.mk (Kd.N_at hq_ HO_15.out); have n2_ := Aside0.mk (Kd.N_at hq_ HO_17.out); have n3_ := Aside0.mk (Kd.V_at hq_ HL184_2.out); have n4_ := Aside0.mk (blk_at hq_ BK185.out); have n5_ := Aside0.mk (Kd.C_at hq_ HR184_2.out); have n6_ := Aside0.mk (below_at hq_ HB.out); clear hq_ HO_13 HO_15 HO_17 HL184_2 BK185 HR184_2 HB; have HO_13 := n0_; have HO_15 := n1_; have HO_17 := n2_; have HL184_2 := n3_; have BK185 := n4_; have HR184_2 := n5_; have HB := n6_; clear n0_ n1_ n2_ n3_ n4_ n5_ n6_)); refine store_event (t := 3) (p := 166) (v := ?vo_w72) (w1 := (w70.setCell ⟨gb185, 0, none⟩ (.int .i64 (wrap64 ((wrap64 (((rd_T35 t166 x18_7).f0) + x7_2)) + 1))))) ?hg ?ho ?hn ?hr ?_; (case ho => rfl); (case hg => rfl); (case hn => rfl); (case hr => first | (go_simp; done) | (go_simp; rfl)); intro w72 hw; have n0_ : Aside0 (Kd.N k35 35 w72 w.heap.size (fun k_ => some k_ ≠ (v174 : Value).ownBlock ∧ some k_ ≠ (u17 : Value).ownBlock ∧ k_ ≠ gb185) (.slice (some ad184) t166.length co67) t166) := ⟨(by rw [hw]; exact (by (with_reducible repeat (first | apply Kd.N_alloc | apply Kd.N_drewN | apply Kd.N_drew)); exact Kd.N_mono (Kd.N_far (p := ⟨gb185, 0, none⟩) (Kd.N_mono HO_13.out (fun k_ hk => (⟨hk, hk.2.2⟩ : _ ∧ k_ ≠ gb185))) (fun _ hk => hk.2) (.int .i64 (wrap64 ((wrap64 (((rd_T35 t166 x18_7).f0) + x7_2)) + 1)))) (fun _ hk => ⟨hk.1.1, ⟨hk.1.2.1, hk.1.2.2⟩⟩)))⟩; have n1_ : Aside0 (Kd.N k35 35 w72 w.heap.size (fun k_ => some k_ ≠ (.slice (some ad184) t166.length co67 : Value).ownBlock ∧ some k_ ≠ (u17 : Value).ownBlock ∧ k_ ≠ gb185) v174 t172) := ⟨(by rw [hw]; exact (by (with_reducible repeat (first | apply Kd.N_alloc | apply Kd.N_drewN | apply Kd.N_drew)); exact Kd.N_mono (Kd.N_far (p := ⟨gb185, 0, none⟩) (Kd.N_mono HO_15.out (fun k_ hk => (⟨hk, hk.2.2⟩ : _ ∧ k_ ≠ gb185))) (fun _ hk => hk.2) (.int .i64 (wrap64 ((wrap64 (((rd_T35 t166 x18_7).f0) + x7_2)) + 1)))) (fun _ hk => ⟨hk.1.1, ⟨hk.1.2.1, hk.1.2.2⟩⟩)))⟩; have n2_ : Aside0 (Kd.N k35 35 w72 w.heap.size (fun k_ => some k_ ≠ (.slice (some ad184) t166.length co67 : Value).ownBlock ∧ some k_ ≠ (v174 : Value).ownBlock ∧ k_ ≠ gb185) u17 x17_7) := ⟨(by rw [hw]; exact (by (with_reducible repeat (first | apply Kd.N_alloc | apply Kd.N_drewN | apply Kd.N_drew)); exact Kd.N_mono (Kd.N_far (p := ⟨gb185, 0, none⟩) (Kd.N_mono HO_17.out (fun k_ hk => (⟨hk, hk.2.2⟩ : _ ∧ k_ ≠ gb185))) (fun _ hk => hk.2) (.int .i64 (wrap64 ((wrap64 (((rd_T35 t166 x18_7).f0) + x7_2)) + 1)))) (fun _ hk => ⟨hk.1.1, ⟨hk.1.2.1, hk.1.2.2⟩⟩)))⟩; have n3_ : Aside0 (Kd.V Kd.string 9 w72 w.heap.size (fun k_ => some k_ ≠ (.slice (some ad184) t166.length co67 : Value).ownBlock ∧ some k_ ≠ (v174 : Value).ownBlock ∧ some k_ ≠ (u17 : Value).ownBlock ∧ k_ ≠ gb185) (.slice A184_2 ((rd_T35 t166 x18_7).f2).length c184_2) ((rd_T35 t166 x18_7).f2)) := ⟨(by rw [hw]; exact (by (with_reducible repeat (first | apply Kd.V_alloc | apply Kd.V_drewN | apply Kd.V_drew)); exact Kd.V_mono (Kd.V_far (p := ⟨gb185, 0, none⟩) (Kd.V_mono HL184_2.out (fun k_ hk => (⟨hk, hk.2.2.2⟩ : _ ∧ k_ ≠ gb185))) (fun _ hk => hk.2) (.int .i64 (wrap64 ((wrap64 (((rd_T35 t166 x18_7).f0) + x7_2)) + 1)))) (fun _ hk => ⟨hk.1.1, ⟨hk.1.2.1, ⟨hk.1.2.2.1, hk.1.2.2.2⟩⟩⟩)))⟩; have n4_ : Aside0 (w72.heap[gb185]? = some (.cells #[.int .i64 (wrap64 ((wrap64 (((rd_T35 t166 x18_7).f0) + x7_2)) + 1)), .string ((rd_T35 t166 x18_7).f1), .slice A184_2 ((rd_T35 t166 x18_7).f2).length c184_2, .string ((rd_T35 t166 x18_7).f3)] 35 (0, 0))) := ⟨(by rw [hw]; exact (by (with_reducible repeat (first | refine blk_drewN ?_ _ | refine blk_drew ?_ | refine blk_alloc ?_ _)); refine blk_put (cs := #[.int .i64 ((rd_T35 t166 x18_7).f0), .string ((rd_T35 t166 x18_7).f1), .slice A184_2 ((rd_T35 t166 x18_7).f2).length c184_2, .string ((rd_T35 t166 x18_7).f3)]) ?_ 0 _ rfl; (with_reducible repeat (first | refine blk_drewN ?_ _ | refine blk_drew ?_ | refine blk_alloc ?_ _)); exact BK185.out))⟩; have n5_ : Aside0 (Below w.heap.size w w72) := ⟨(by rw [hw]; exact bG)⟩; clear hw; clear HO_13; clear HO_15; clear HO_17; clear HL184_2; clear BK185; clear HB; have HO_13 := n0_; have HO_15 := n1_; have HO_17 := n2_; have HL184_2 := n3_; have BK185 := n4_; have HB := n5_; clear n0_ n1_ n2_ n3_ n4_ n5_; have hcz73_0 : w72.cell? ⟨gb185, 0, none⟩ = some (.int .i64 (wrap64 ((wrap64 (((rd_T35 t166 x18_7).f0) + x7_2)) + 1))) := (blk_cell BK185.out 0).trans rfl; have hcz73_1 : w72.cell? ⟨gb185, 1, none⟩ = some (.string ((rd_T35 t166 x18_7).f1)) := (blk_cell BK185.out 1).trans rfl; have hcz73_2 : w72.cell? ⟨gb185, 2, none⟩ = some (.slice A184_2 ((rd_T35 t166 x18_7).f2).length c184_2) := (blk_cell BK185.out 2).trans rfl; have hcz73_3 : w72.cell? ⟨gb185, 3, none⟩ = some (.string ((rd_T35 t166 x18_7).f3)) := (blk_cell BK185.out 3).trans rfl; have hfz73_0 := blk_frozen BK185.out 0; have hfz73_1 := blk_frozen BK185.out 1; have hfz73_2 := blk_frozen BK185.out 2; have hfz73_3 := blk_frozen BK185.out 3) | ((with_reducible refine gate_builtin (b := .append) (xs := #[.tmp 167, .tmp 169]) rfl ?_); (try (refine gate_guard (by rfl) ?_; dsimp only)); at_builtin; refine Kd.N_append k35 (w0 := w) w.heap.size rfl (.tmp 167) (.tmp 169) 30 35 (.agg #[(.int .i64 0), (.string ⟨#[]⟩), (.slice none 0 0), (.string ⟨#[]⟩)]) 64 rfl Tryd.underlying30 info35 rfl (by decide) (by omega) u17 x17_7 (⟨wrap64 ((wrap64 (((rd_T35 t166 x18_7).f0) + x7_2)) + 1), (rd_T35 t166 x18_7).f1, (rd_T35 t166 x18_7).f2, (rd_T35 t166 x18_7).f3⟩ : S35) [.int .i64 (wrap64 ((wrap64 (((rd_T35 t166 x18_7).f0) + x7_2)) + 1)), .string ((rd_T35 t166 x18_7).f1), .slice A184_2 ((rd_T35 t166 x18_7).f2).length c184_2, .string ((rd_T35 t166 x18_7).f3)] (fun k_ => some k_ ≠ (.slice (some ad184) t166.length co67 : Value).ownBlock ∧ some k_ ≠ (v174 : Value).ownBlock ∧ k_ ≠ gb185) (fun k_ => ((fun k_ => some k_ ≠ (.slice (some ad184) t166.length co67 : Value).ownBlock ∧ some k_ ≠ (v174 : Value).ownBlock ∧ k_ ≠ gb185)) k_ ∧ some k_ ≠ (u17 : Value).ownBlock) rfl rfl ?aP (fun _ hk => hk) ?aF ?aO ?aB ?aS ?aL ?_; (case aP => exact (k35_mkF _ _ (⟨wrap64 ((wrap64 (((rd_T35 t166 x18_7).f0) + x7_2)) + 1), (rd_T35 t166 x18_7).f1, (rd_T35 t166 x18_7).f2, (rd_T35 t166 x18_7).f3⟩ : S35) (Kd.V_reads' (Kd.V_mono (ok' := (fun k_ => ((fun k_ => some k_ ≠ (.slice (some ad184) t166.length co67 : Value).ownBlock ∧ some k_ ≠ (v174 : Value).ownBlock ∧ k_ ≠ gb185)) k_ ∧ some k_ ≠ (u17 : Value).ownBlock)) (HL184_2.out) (fun k_ hk => ⟨⟨hk.1, ⟨hk.2.1, hk.2.2.2⟩⟩, hk.2.2.1⟩))).2.1 (Kd.V_F (Kd.V_mono (ok' := (fun k_ => ((fun k_ => some k_ ≠ (.slice (some ad184) t166.length co67 : Value).ownBlock ∧ some k_ ≠ (v174 : Value).ownBlock ∧ k_ ≠ gb185)) k_ ∧ some k_ ≠ (u17 : Value).ownBlock)) (HL184_2.out) (fun k_ hk => ⟨⟨hk.1, ⟨hk.2.1, hk.2.2.2⟩⟩, hk.2.2.1⟩))))); (case aB => exact bG); (case aF => exact (fun k_ hk => ⟨Kd.fresh' (Kd.N_lt (by (with_reducible repeat (first | apply Kd.N_alloc | apply Kd.N_drewN | apply Kd.N_drew)); exact HO_13.out)) k_ hk, Kd.fresh' (Kd.N_lt (by (with_reducible repeat (first | apply Kd.N_alloc | apply Kd.N_drewN | apply Kd.N_drew)); exact HO_15.out)) k_ hk, Kd.freshB (g := gb185) (o := .cells #[.int .i64 (wrap64 ((wrap64 (((rd_T35 t166 x18_7).f0) + x7_2)) + 1)), .string ((rd_T35 t166 x18_7).f1), .slice A184_2 ((rd_T35 t166 x18_7).f2).length c184_2, .string ((rd_T35 t166 x18_7).f3)] 35 (0, 0)) (kB BK185) k_ hk⟩)); (case aO => exact (by (with_reducible repeat (first | apply Kd.N_alloc | apply Kd.N_drewN | apply Kd.N_drew)); exact HO_17.out)); (case aS => exact (below_size bG)); (case aL => have := LMc66.out; omega); intro v187 w74 ho hb hg hat; rw [← Ny186.out] at ho; have n0_ := Aside0.mk (Kd.N_afterv (ok := (fun k_ => some k_ ≠ (v174 : Value).ownBlock ∧ k_ ≠ gb185)) (by (with_reducible repeat (first | apply Kd.N_alloc | apply Kd.N_drewN | apply Kd.N_drew)); exact Kd.N_mono HO_13.out (fun _ hk => ⟨⟨hk.1, hk.2.2⟩, hk.2.1⟩)) hg hat); have n1_ := Aside0.mk (Kd.N_afterv (ok := (fun k_ => some k_ ≠ (.slice (some ad184) t166.length co67 : Value).ownBlock ∧ k_ ≠ gb185)) (by (with_reducible repeat (first | apply Kd.N_alloc | apply Kd.N_drewN | apply Kd.N_drew)); exact Kd.N_mono HO_15.out (fun _ hk => ⟨⟨hk.1, hk.2.2⟩, hk.2.1⟩)) hg hat); have n2_ := Aside0.mk (Kd.V_afterv (ok := (fun k_ => some k_ ≠ (.slice (some ad184) t166.length co67 : Value).ownBlock ∧ some k_ ≠ (v174 : Value).ownBlock ∧ k_ ≠ gb185)) (by (with_reducible repeat (first | apply Kd.V_alloc | apply Kd.V_drewN | apply Kd.V_drew)); exact Kd.V_mono HL184_2.out (fun _ hk => ⟨⟨hk.1, ⟨hk.2.1, hk.2.2.2⟩⟩, hk.2.2.1⟩)) hg hat); have n3_ := Aside0.mk (blk_grown (g := gb185) (o := .cells #[.int .i64 (wrap64 ((wrap64 (((rd_T35 t166 x18_7).f0) + x7_2)) + 1)), .string ((rd_T35 t166 x18_7).f1), .slice A184_2 ((rd_T35 t166 x18_7).f2).length c184_2, .string ((rd_T35 t166 x18_7).f3)] 35 (0, 0)) (kB BK185) hg (Kd.N_away HO_17.out (fun _ hk => hk.2.2))); have n4_ := Aside0.mk (hb); have n5_ := Aside0.mk (ho); clear HO_13; clear HO_15; clear HL184_2; clear BK185; clear HB; clear HO_17; have HO_13 := n0_; have HO_15 := n1_; have HL184_2 := n2_; have BK185 := n3_; have HB := n4_; have HO188 := n5_; clear n0_ n1_ n2_ n3_ n4_ n5_; clear ho hb hg hat))
                         repeat (go_quiet (first | ((with_reducible refine gate_dst (N := 19) rfl ?_); (try (refine gate_guard (by rfl) ?_; dsimp only)); refine box_event ?hg (N := 19) ?hd (cs := #[.int .i64 0, .string (⟨#[]⟩ : ByteArray), .slice none 0 0, .string (⟨#[]⟩ : ByteArray)]) (t := 35) ?hr ?_; (case hd => rfl); (case hg => rfl); (case hr => first | (go_simp; done) | (go_simp; rfl)); intro gb185 hg w68 hbox hb; have n0_ := Aside0.mk (Kd.N_below (Kd.N_elderB (by (with_reducible repeat (first | apply Kd.N_alloc | apply Kd.N_drewN | apply Kd.N_drew)); exact HO_13.out) gb185 (Nat.le_of_eq hg.symm)) hb); have n1_ := Aside0.mk (Kd.N_below (Kd.N_elderB (by (with_reducible repeat (first | apply Kd.N_alloc | apply Kd.N_drewN | apply Kd.N_drew)); exact HO_15.out) gb185 (Nat.le_of_eq hg.symm)) hb); have n2_ := Aside0.mk (Kd.N_below (Kd.N_elderB (by (with_reducible repeat (first | apply Kd.N_alloc | apply Kd.N_drewN | apply Kd.N_drew)); exact HO_17.out) gb185 (Nat.le_of_eq hg.symm)) hb); have n3_ := Aside0.mk (Kd.V_below (Kd.V_elderB (kV HL184_2) gb185 (Nat.le_of_eq hg.symm)) hb); have n4_ := Aside0.mk (Kd.C_below (by repeat (first | (with_reducible exact HR184_2.out) | (with_reducible refine Kd.C_alloc ?_ _) | (with_reducible refine Kd.C_drewN ?_ _) | (with_reducible refine Kd.C_drew ?_) | exact HR184_2.out)) hb); have n5_ := Aside0.mk (below_step bA hb); have n6_ := Aside0.mk (hbox); have n7_ := Aside0.mk ((geA hg : w.heap.size ≤ gb185)); have n8_ := Aside0.mk ((geA hg : w.heap.size ≤ gb185)); clear HO_13; clear HO_15; clear HO_17; clear HL184_2; clear HR184_2; clear HB; have HO_13 := n0_; have HO_15 := n1_; have HO_17 := n2_; have HL184_2 := n3_; have HR184_2 := n4_; have HB := n5_; have BK185 := n6_; have GW185 := n7_; have GE185 := n8_; clear n0_ n1_ n2_ n3_ n4_ n5_ n6_ n7_ n8_; clear hb hbox hg; have hcz69_0 : w68.cell? ⟨gb185, 0, none⟩ = some (.int .i64 0) := (blk_cell BK185.out 0).trans rfl; have hcz69_1 : w68.cell? ⟨gb185, 1, none⟩ = some (.string (⟨#[]⟩ : ByteArray)) := (blk_cell BK185.out 1).trans rfl; have hcz69_2 : w68.cell? ⟨gb185, 2, none⟩ = some (.slice none 0 0) := (blk_cell BK185.out 2).trans rfl; have hcz69_3 : w68.cell? ⟨gb185, 3, none⟩ = some (.string (⟨#[]⟩ : ByteArray)) := (blk_cell BK185.out 3).trans rfl; have hfz69_0 := blk_frozen BK185.out 0; have hfz69_1 := blk_frozen BK185.out 1; have hfz69_2 := blk_frozen BK185.out 2; have hfz69_3 := blk_frozen BK185.out 3) | ((with_reducible refine gate_store (t := 35) (p := 19) rfl ?_); (try (rw [drewN_self w68]; generalize hq_ : World.drewN w68 _ = w68; have n0_ := Aside0.mk (Kd.N_at hq_ HO_13.out); have n1_ := Aside0.mk (Kd.N_at hq_ HO_15.out); have n2_ := Aside0.mk (Kd.N_at hq_ HO_17.out); have n3_ := Aside0.mk (Kd.V_at hq_ HL184_2.out); have n4_ := Aside0.mk (blk_at hq_ BK185.out); have n5_ := Aside0.mk (Kd.C_at hq_ HR184_2.out); have n6_ := Aside0.mk (below_at hq_ HB.out); clear hq_ HO_13 HO_15 HO_17 HL184_2 BK185 HR184_2 HB; have HO_13 := n0_; have HO_15 := n1_; have HO_17 := n2_; have HL184_2 := n3_; have BK185 := n4_; have HR184_2 := n5_; have HB := n6_; clear n0_ n1_ n2_ n3_ n4_ n5_ n6_)); refine store_event (t := 35) (p := 19) (v := ?vo_w70) (w1 := ((((w68.setCell ⟨gb185, 0, none⟩ (.int .i64 ((rd_T35 t166 x18_7).f0))).setCell ⟨gb185, 1, none⟩ (.string ((rd_T35 t166 x18_7).f1))).setCell ⟨gb185, 2, none⟩ (.slice A184_2 ((rd_T35 t166 x18_7).f2).length c184_2)).setCell ⟨gb185, 3, none⟩ (.string ((rd_T35 t166 x18_7).f3)))) ?hg ?ho ?hn ?hr ?_; (case ho => rfl); (case hg => rfl); (case hn => rfl); (case hr => first | (go_simp; done) | (go_simp; rfl)); intro w70 hw; have n0_ : Aside0 (Kd.N k35 35 w70 w.heap.size (fun k_ => some k_ ≠ (v174 : Value).ownBlock ∧ some k_ ≠ (u17 : Value).ownBlock ∧ k_ ≠ gb185) (.slice (some ad184) t166.length co67) t166) := ⟨(by rw [hw]; exact (by (with_reducible repeat (first | apply Kd.N_alloc | apply Kd.N_drewN | apply Kd.N_drew)); exact Kd.N_mono (Kd.N_far (p := ⟨gb185, 3, none⟩) (Kd.N_far (p := ⟨gb185, 2, none⟩) (Kd.N_far (p := ⟨gb185, 1, none⟩) (Kd.N_far (p := ⟨gb185, 0, none⟩) (Kd.N_mono HO_13.out (fun k_ hk => (⟨hk, hk.2⟩ : _ ∧ k_ ≠ gb185))) (fun _ hk => hk.2) (.int .i64 ((rd_T35 t166 x18_7).f0))) (fun _ hk => hk.2) (.string ((rd_T35 t166 x18_7).f1))) (fun _ hk => hk.2) (.slice A184_2 ((rd_T35 t166 x18_7).f2).length c184_2)) (fun _ hk => hk.2) (.string ((rd_T35 t166 x18_7).f3))) (fun _ hk => ⟨hk.1.1.1, ⟨hk.1.1.2, hk.1.2⟩⟩)))⟩; have n1_ : Aside0 (Kd.N k35 35 w70 w.heap.size (fun k_ => some k_ ≠ (.slice (some ad184) t166.length co67 : Value).ownBlock ∧ some k_ ≠ (u17 : Value).ownBlock ∧ k_ ≠ gb185) v174 t172) := ⟨(by rw [hw]; exact (by (with_reducible repeat (first | apply Kd.N_alloc | apply Kd.N_drewN | apply Kd.N_drew)); exact Kd.N_mono (Kd.N_far (p := ⟨gb185, 3, none⟩) (Kd.N_far (p := ⟨gb185, 2, none⟩) (Kd.N_far (p := ⟨gb185, 1, none⟩) (Kd.N_far (p := ⟨gb185, 0, none⟩) (Kd.N_mono HO_15.out (fun k_ hk => (⟨hk, hk.2⟩ : _ ∧ k_ ≠ gb185))) (fun _ hk => hk.2) (.int .i64 ((rd_T35 t166 x18_7).f0))) (fun _ hk => hk.2) (.string ((rd_T35 t166 x18_7).f1))) (fun _ hk => hk.2) (.slice A184_2 ((rd_T35 t166 x18_7).f2).length c184_2)) (fun _ hk => hk.2) (.string ((rd_T35 t166 x18_7).f3))) (fun _ hk => ⟨hk.1.1.1, ⟨hk.1.1.2, hk.1.2⟩⟩)))⟩; have n2_ : Aside0 (Kd.N k35 35 w70 w.heap.size (fun k_ => some k_ ≠ (.slice (some ad184) t166.length co67 : Value).ownBlock ∧ some k_ ≠ (v174 : Value).ownBlock ∧ k_ ≠ gb185) u17 x17_7) := ⟨(by rw [hw]; exact (by (with_reducible repeat (first | apply Kd.N_alloc | apply Kd.N_drewN | apply Kd.N_drew)); exact Kd.N_mono (Kd.N_far (p := ⟨gb185, 3, none⟩) (Kd.N_far (p := ⟨gb185, 2, none⟩) (Kd.N_far (p := ⟨gb185, 1, none⟩) (Kd.N_far (p := ⟨gb185, 0, none⟩) (Kd.N_mono HO_17.out (fun k_ hk => (⟨hk, hk.2⟩ : _ ∧ k_ ≠ gb185))) (fun _ hk => hk.2) (.int .i64 ((rd_T35 t166 x18_7).f0))) (fun _ hk => hk.2) (.string ((rd_T35 t166 x18_7).f1))) (fun _ hk => hk.2) (.slice A184_2 ((rd_T35 t166 x18_7).f2).length c184_2)) (fun _ hk => hk.2) (.string ((rd_T35 t166 x18_7).f3))) (fun _ hk => ⟨hk.1.1.1, ⟨hk.1.1.2, hk.1.2⟩⟩)))⟩; have n3_ : Aside0 (Kd.V Kd.string 9 w70 w.heap.size (fun k_ => some k_ ≠ (.slice (some ad184) t166.length co67 : Value).ownBlock ∧ some k_ ≠ (v174 : Value).ownBlock ∧ some k_ ≠ (u17 : Value).ownBlock ∧ k_ ≠ gb185) (.slice A184_2 ((rd_T35 t166 x18_7).f2).length c184_2) ((rd_T35 t166 x18_7).f2)) := ⟨(by rw [hw]; exact (by (with_reducible repeat (first | apply Kd.V_alloc | apply Kd.V_drewN | apply Kd.V_drew)); exact Kd.V_mono (Kd.V_far (p := ⟨gb185, 3, none⟩) (Kd.V_far (p := ⟨gb185, 2, none⟩) (Kd.V_far (p := ⟨gb185, 1, none⟩) (Kd.V_far (p := ⟨gb185, 0, none⟩) (Kd.V_mono HL184_2.out (fun k_ hk => (⟨hk, hk.2⟩ : _ ∧ k_ ≠ gb185))) (fun _ hk => hk.2) (.int .i64 ((rd_T35 t166 x18_7).f0))) (fun _ hk => hk.2) (.string ((rd_T35 t166 x18_7).f1))) (fun _ hk => hk.2) (.slice A184_2 ((rd_T35 t166 x18_7).f2).length c184_2)) (fun _ hk => hk.2) (.string ((rd_T35 t166 x18_7).f3))) (fun _ hk => ⟨hk.1.1.2, ⟨hk.1.1.1.1, ⟨hk.1.1.1.2, hk.1.2⟩⟩⟩)))⟩; have n4_ : Aside0 (w70.heap[gb185]? = some (.cells #[.int .i64 ((rd_T35 t166 x18_7).f0), .string ((rd_T35 t166 x18_7).f1), .slice A184_2 ((rd_T35 t166 x18_7).f2).length c184_2, .string ((rd_T35 t166 x18_7).f3)] 35 (0, 0))) := ⟨(by rw [hw]; exact (by (with_reducible repeat (first | refine blk_drewN ?_ _ | refine blk_drew ?_ | refine blk_alloc ?_ _)); refine blk_put (cs := #[.int .i64 ((rd_T35 t166 x18_7).f0), .string ((rd_T35 t166 x18_7).f1), .slice A184_2 ((rd_T35 t166 x18_7).f2).length c184_2, .string (⟨#[]⟩ : ByteArray)]) ?_ 3 _ rfl; (with_reducible repeat (first | refine blk_drewN ?_ _ | refine blk_drew ?_ | refine blk_alloc ?_ _)); refine blk_put (cs := #[.int .i64 ((rd_T35 t166 x18_7).f0), .string ((rd_T35 t166 x18_7).f1), .slice none 0 0, .string (⟨#[]⟩ : ByteArray)]) ?_ 2 _ rfl; (with_reducible repeat (first | refine blk_drewN ?_ _ | refine blk_drew ?_ | refine blk_alloc ?_ _)); refine blk_put (cs := #[.int .i64 ((rd_T35 t166 x18_7).f0), .string (⟨#[]⟩ : ByteArray), .slice none 0 0, .string (⟨#[]⟩ : ByteArray)]) ?_ 1 _ rfl; (with_reducible repeat (first | refine blk_drewN ?_ _ | refine blk_drew ?_ | refine blk_alloc ?_ _)); refine blk_put (cs := #[.int .i64 0, .string (⟨#[]⟩ : ByteArray), .slice none 0 0, .string (⟨#[]⟩ : ByteArray)]) ?_ 0 _ rfl; (with_reducible repeat (first | refine blk_drewN ?_ _ | refine blk_drew ?_ | refine blk_alloc ?_ _)); exact BK185.out))⟩; have n5_ : Aside0 (Below w.heap.size w w70) := ⟨(by rw [hw]; exact bG)⟩; clear hw; clear HO_13; clear HO_15; clear HO_17; clear HL184_2; clear BK185; clear HB; have HO_13 := n0_; have HO_15 := n1_; have HO_17 := n2_; have HL184_2 := n3_; have BK185 := n4_; have HB := n5_; clear n0_ n1_ n2_ n3_ n4_ n5_; have hcz71_0 : w70.cell? ⟨gb185, 0, none⟩ = some (.int .i64 ((rd_T35 t166 x18_7).f0)) := (blk_cell BK185.out 0).trans rfl; have hcz71_1 : w70.cell? ⟨gb185, 1, none⟩ = some (.string ((rd_T35 t166 x18_7).f1)) := (blk_cell BK185.out 1).trans rfl; have hcz71_2 : w70.cell? ⟨gb185, 2, none⟩ = some (.slice A184_2 ((rd_T35 t166 x18_7).f2).length c184_2) := (blk_cell BK185.out 2).trans rfl; have hcz71_3 : w70.cell? ⟨gb185, 3, none⟩ = some (.string ((rd_T35 t166 x18_7).f3)) := (blk_cell BK185.out 3).trans rfl; have hfz71_0 := blk_frozen BK185.out 0; have hfz71_1 := blk_frozen BK185.out 1; have hfz71_2 := blk_frozen BK185.out 2; have hfz71_3 := blk_frozen BK185.out 3) | ((with_reducible refine gate_store (t := 3) (p := 166) rfl ?_); (try (rw [drewN_self w70]; generalize hq_ : World.drewN w70 _ = w70; have n0_ := Aside0.mk (Kd.N_at hq_ HO_13.out); have n1_ := Aside0.mk (Kd.N_at hq_ HO_15.out); have n2_ := Aside0.mk (Kd.N_at hq_ HO_17.out); have n3_ := Aside0.mk (Kd.V_at hq_ HL184_2.out); have n4_ := Aside0.mk (blk_at hq_ BK185.out); have n5_ := Aside0.mk (Kd.C_at hq_ HR184_2.out); have n6_ := Aside0.mk (below_at hq_ HB.out); clear hq_ HO_13 HO_15 HO_17 HL184_2 BK185 HR184_2 HB; have HO_13 := n0_; have HO_15 := n1_; have HO_17 := n2_; have HL184_2 := n3_; have BK185 := n4_; have HR184_2 := n5_; have HB := n6_; clear n0_ n1_ n2_ n3_ n4_ n5_ n6_)); refine store_event (t := 3) (p := 166) (v := ?vo_w72) (w1 := (w70.setCell ⟨gb185, 0, none⟩ (.int .i64 (wrap64 ((wrap64 (((rd_T35 t166 x18_7).f0) + x7_2)) + 1))))) ?hg ?ho ?hn ?hr ?_; (case ho => rfl); (case hg => rfl); (case hn => rfl); (case hr => first | (go_simp; done) | (go_simp; rfl)); intro w72 hw; have n0_ : Aside0 (Kd.N k35 35 w72 w.heap.size (fun k_ => some k_ ≠ (v174 : Value).ownBlock ∧ some k_ ≠ (u17 : Value).ownBlock ∧ k_ ≠ gb185) (.slice (some ad184) t166.length co67) t166) := ⟨(by rw [hw]; exact (by (with_reducible repeat (first | apply Kd.N_alloc | apply Kd.N_drewN | apply Kd.N_drew)); exact Kd.N_mono (Kd.N_far (p := ⟨gb185, 0, none⟩) (Kd.N_mono HO_13.out (fun k_ hk => (⟨hk, hk.2.2⟩ : _ ∧ k_ ≠ gb185))) (fun _ hk => hk.2) (.int .i64 (wrap64 ((wrap64 (((rd_T35 t166 x18_7).f0) + x7_2)) + 1)))) (fun _ hk => ⟨hk.1.1, ⟨hk.1.2.1, hk.1.2.2⟩⟩)))⟩; have n1_ : Aside0 (Kd.N k35 35 w72 w.heap.size (fun k_ => some k_ ≠ (.slice (some ad184) t166.length co67 : Value).ownBlock ∧ some k_ ≠ (u17 : Value).ownBlock ∧ k_ ≠ gb185) v174 t172) := ⟨(by rw [hw]; exact (by (with_reducible repeat (first | apply Kd.N_alloc | apply Kd.N_drewN | apply Kd.N_drew)); exact Kd.N_mono (Kd.N_far (p := ⟨gb185, 0, none⟩) (Kd.N_mono HO_15.out (fun k_ hk => (⟨hk, hk.2.2⟩ : _ ∧ k_ ≠ gb185))) (fun _ hk => hk.2) (.int .i64 (wrap64 ((wrap64 (((rd_T35 t166 x18_7).f0) + x7_2)) + 1)))) (fun _ hk => ⟨hk.1.1, ⟨hk.1.2.1, hk.1.2.2⟩⟩)))⟩; have n2_ : Aside0 (Kd.N k35 35 w72 w.heap.size (fun k_ => some k_ ≠ (.slice (some ad184) t166.length co67 : Value).ownBlock ∧ some k_ ≠ (v174 : Value).ownBlock ∧ k_ ≠ gb185) u17 x17_7) := ⟨(by rw [hw]; exact (by (with_reducible repeat (first | apply Kd.N_alloc | apply Kd.N_drewN | apply Kd.N_drew)); exact Kd.N_mono (Kd.N_far (p := ⟨gb185, 0, none⟩) (Kd.N_mono HO_17.out (fun k_ hk => (⟨hk, hk.2.2⟩ : _ ∧ k_ ≠ gb185))) (fun _ hk => hk.2) (.int .i64 (wrap64 ((wrap64 (((rd_T35 t166 x18_7).f0) + x7_2)) + 1)))) (fun _ hk => ⟨hk.1.1, ⟨hk.1.2.1, hk.1.2.2⟩⟩)))⟩; have n3_ : Aside0 (Kd.V Kd.string 9 w72 w.heap.size (fun k_ => some k_ ≠ (.slice (some ad184) t166.length co67 : Value).ownBlock ∧ some k_ ≠ (v174 : Value).ownBlock ∧ some k_ ≠ (u17 : Value).ownBlock ∧ k_ ≠ gb185) (.slice A184_2 ((rd_T35 t166 x18_7).f2).length c184_2) ((rd_T35 t166 x18_7).f2)) := ⟨(by rw [hw]; exact (by (with_reducible repeat (first | apply Kd.V_alloc | apply Kd.V_drewN | apply Kd.V_drew)); exact Kd.V_mono (Kd.V_far (p := ⟨gb185, 0, none⟩) (Kd.V_mono HL184_2.out (fun k_ hk => (⟨hk, hk.2.2.2⟩ : _ ∧ k_ ≠ gb185))) (fun _ hk => hk.2) (.int .i64 (wrap64 ((wrap64 (((rd_T35 t166 x18_7).f0) + x7_2)) + 1)))) (fun _ hk => ⟨hk.1.1, ⟨hk.1.2.1, ⟨hk.1.2.2.1, hk.1.2.2.2⟩⟩⟩)))⟩; have n4_ : Aside0 (w72.heap[gb185]? = some (.cells #[.int .i64 (wrap64 ((wrap64 (((rd_T35 t166 x18_7).f0) + x7_2)) + 1)), .string ((rd_T35 t166 x18_7).f1), .slice A184_2 ((rd_T35 t166 x18_7).f2).length c184_2, .string ((rd_T35 t166 x18_7).f3)] 35 (0, 0))) := ⟨(by rw [hw]; exact (by (with_reducible repeat (first | refine blk_drewN ?_ _ | refine blk_drew ?_ | refine blk_alloc ?_ _)); refine blk_put (cs := #[.int .i64 ((rd_T35 t166 x18_7).f0), .string ((rd_T35 t166 x18_7).f1), .slice A184_2 ((rd_T35 t166 x18_7).f2).length c184_2, .string ((rd_T35 t166 x18_7).f3)]) ?_ 0 _ rfl; (with_reducible repeat (first | refine blk_drewN ?_ _ | refine blk_drew ?_ | refine blk_alloc ?_ _)); exact BK185.out))⟩; have n5_ : Aside0 (Below w.heap.size w w72) := ⟨(by rw [hw]; exact bG)⟩; clear hw; clear HO_13; clear HO_15; clear HO_17; clear HL184_2; clear BK185; clear HB; have HO_13 := n0_; have HO_15 := n1_; have HO_17 := n2_; have HL184_2 := n3_; have BK185 := n4_; have HB := n5_; clear n0_ n1_ n2_ n3_ n4_ n5_; have hcz73_0 : w72.cell? ⟨gb185, 0, none⟩ = some (.int .i64 (wrap64 ((wrap64 (((rd_T35 t166 x18_7).f0) + x7_2)) + 1))) := (blk_cell BK185.out 0).trans rfl; have hcz73_1 : w72.cell? ⟨gb185, 1, none⟩ = some (.string ((rd_T35 t166 x18_7).f1)) := (blk_cell BK185.out 1).trans rfl; have hcz73_2 : w72.cell? ⟨gb185, 2, none⟩ = some (.slice A184_2 ((rd_T35 t166 x18_7).f2).length c184_2) := (blk_cell BK185.out 2).trans rfl; have hcz73_3 : w72.cell? ⟨gb185, 3, none⟩ = some (.string ((rd_T35 t166 x18_7).f3)) := (blk_cell BK185.out 3).trans rfl; have hfz73_0 := blk_frozen BK185.out 0; have hfz73_1 := blk_frozen BK185.out 1; have hfz73_2 := blk_frozen BK185.out 2; have hfz73_3 := blk_frozen BK185.out 3) | ((with_reducible refine gate_builtin (b := .append) (xs := #[.tmp 167, .tmp 169]) rfl ?_); (try (refine gate_guard (by rfl) ?_; dsimp only)); at_builtin; refine Kd.N_append k35 (w0 := w) w.heap.size rfl (.tmp 167) (.tmp 169) 30 35 (.agg #[(.int .i64 0), (.string ⟨#[]⟩), (.slice none 0 0), (.string ⟨#[]⟩)]) 64 rfl Tryd.underlying30 info35 rfl (by decide) (by omega) u17 x17_7 (⟨wrap64 ((wrap64 (((rd_T35 t166 x18_7).f0) + x7_2)) + 1), (rd_T35 t166 x18_7).f1, (rd_T35 t166 x18_7).f2, (rd_T35 t166 x18_7).f3⟩ : S35) [.int .i64 (wrap64 ((wrap64 (((rd_T35 t166 x18_7).f0) + x7_2)) + 1)), .string ((rd_T35 t166 x18_7).f1), .slice A184_2 ((rd_T35 t166 x18_7).f2).length c184_2, .string ((rd_T35 t166 x18_7).f3)] (fun k_ => some k_ ≠ (.slice (some ad184) t166.length co67 : Value).ownBlock ∧ some k_ ≠ (v174 : Value).ownBlock ∧ k_ ≠ gb185) (fun k_ => ((fun k_ => some k_ ≠ (.slice (some ad184) t166.length co67 : Value).ownBlock ∧ some k_ ≠ (v174 : Value).ownBlock ∧ k_ ≠ gb185)) k_ ∧ some k_ ≠ (u17 : Value).ownBlock) rfl rfl ?aP (fun _ hk => hk) ?aF ?aO ?aB ?aS ?aL ?_; (case aP => exact (k35_mkF _ _ (⟨wrap64 ((wrap64 (((rd_T35 t166 x18_7).f0) + x7_2)) + 1), (rd_T35 t166 x18_7).f1, (rd_T35 t166 x18_7).f2, (rd_T35 t166 x18_7).f3⟩ : S35) (Kd.V_reads' (Kd.V_mono (ok' := (fun k_ => ((fun k_ => some k_ ≠ (.slice (some ad184) t166.length co67 : Value).ownBlock ∧ some k_ ≠ (v174 : Value).ownBlock ∧ k_ ≠ gb185)) k_ ∧ some k_ ≠ (u17 : Value).ownBlock)) (HL184_2.out) (fun k_ hk => ⟨⟨hk.1, ⟨hk.2.1, hk.2.2.2⟩⟩, hk.2.2.1⟩))).2.1 (Kd.V_F (Kd.V_mono (ok' := (fun k_ => ((fun k_ => some k_ ≠ (.slice (some ad184) t166.length co67 : Value).ownBlock ∧ some k_ ≠ (v174 : Value).ownBlock ∧ k_ ≠ gb185)) k_ ∧ some k_ ≠ (u17 : Value).ownBlock)) (HL184_2.out) (fun k_ hk => ⟨⟨hk.1, ⟨hk.2.1, hk.2.2.2⟩⟩, hk.2.2.1⟩))))); (case aB => exact bG); (case aF => exact (fun k_ hk => ⟨Kd.fresh' (Kd.N_lt (by (with_reducible repeat (first | apply Kd.N_alloc | apply Kd.N_drewN | apply Kd.N_drew)); exact HO_13.out)) k_ hk, Kd.fresh' (Kd.N_lt (by (with_reducible repeat (first | apply Kd.N_alloc | apply Kd.N_drewN | apply Kd.N_drew)); exact HO_15.out)) k_ hk, Kd.freshB (g := gb185) (o := .cells #[.int .i64 (wrap64 ((wrap64 (((rd_T35 t166 x18_7).f0) + x7_2)) + 1)), .string ((rd_T35 t166 x18_7).f1), .slice A184_2 ((rd_T35 t166 x18_7).f2).length c184_2, .string ((rd_T35 t166 x18_7).f3)] 35 (0, 0)) (kB BK185) k_ hk⟩)); (case aO => exact (by (with_reducible repeat (first | apply Kd.N_alloc | apply Kd.N_drewN | apply Kd.N_drew)); exact HO_17.out)); (case aS => exact (below_size bG)); (case aL => have := LMc66.out; omega); intro v187 w74 ho hb hg hat; rw [← Ny186.out] at ho; have n0_ := Aside0.mk (Kd.N_afterv (ok := (fun k_ => some k_ ≠ (v174 : Value).ownBlock ∧ k_ ≠ gb185)) (by (with_reducible repeat (first | apply Kd.N_alloc | apply Kd.N_drewN | apply Kd.N_drew)); exact Kd.N_mono HO_13.out (fun _ hk => ⟨⟨hk.1, hk.2.2⟩, hk.2.1⟩)) hg hat); have n1_ := Aside0.mk (Kd.N_afterv (ok := (fun k_ => some k_ ≠ (.slice (some ad184) t166.length co67 : Value).ownBlock ∧ k_ ≠ gb185)) (by (with_reducible repeat (first | apply Kd.N_alloc | apply Kd.N_drewN | apply Kd.N_drew)); exact Kd.N_mono HO_15.out (fun _ hk => ⟨⟨hk.1, hk.2.2⟩, hk.2.1⟩)) hg hat); have n2_ := Aside0.mk (Kd.V_afterv (ok := (fun k_ => some k_ ≠ (.slice (some ad184) t166.length co67 : Value).ownBlock ∧ some k_ ≠ (v174 : Value).ownBlock ∧ k_ ≠ gb185)) (by (with_reducible repeat (first | apply Kd.V_alloc | apply Kd.V_drewN | apply Kd.V_drew)); exact Kd.V_mono HL184_2.out (fun _ hk => ⟨⟨hk.1, ⟨hk.2.1, hk.2.2.2⟩⟩, hk.2.2.1⟩)) hg hat); have n3_ := Aside0.mk (blk_grown (g := gb185) (o := .cells #[.int .i64 (wrap64 ((wrap64 (((rd_T35 t166 x18_7).f0) + x7_2)) + 1)), .string ((rd_T35 t166 x18_7).f1), .slice A184_2 ((rd_T35 t166 x18_7).f2).length c184_2, .string ((rd_T35 t166 x18_7).f3)] 35 (0, 0)) (kB BK185) hg (Kd.N_away HO_17.out (fun _ hk => hk.2.2))); have n4_ := Aside0.mk (hb); have n5_ := Aside0.mk (ho); clear HO_13; clear HO_15; clear HL184_2; clear BK185; clear HB; clear HO_17; have HO_13 := n0_; have HO_15 := n1_; have HL184_2 := n2_; have BK185 := n3_; have HB := n4_; have HO188 := n5_; clear n0_ n1_ n2_ n3_ n4_ n5_; clear ho hb hg hat)); try go_wp2_with (first | ((with_reducible refine gate_dst (N := 19) rfl ?_); (try (refine gate_guard (by rfl) ?_; dsimp only)); refine box_event ?hg (N := 19) ?hd (cs := #[.int .i64 0, .string (⟨#[]⟩ : ByteArray), .slice none 0 0, .string (⟨#[]⟩ : ByteArray)]) (t := 35) ?hr ?_; (case hd => rfl); (case hg => rfl); (case hr => first | (go_simp; done) | (go_simp; rfl)); intro gb185 hg w68 hbox hb; have n0_ := Aside0.mk (Kd.N_below (Kd.N_elderB (by (with_reducible repeat (first | apply Kd.N_alloc | apply Kd.N_drewN | apply Kd.N_drew)); exact HO_13.out) gb185 (Nat.le_of_eq hg.symm)) hb); have n1_ := Aside0.mk (Kd.N_below (Kd.N_elderB (by (with_reducible repeat (first | apply Kd.N_alloc | apply Kd.N_drewN | apply Kd.N_drew)); exact HO_15.out) gb185 (Nat.le_of_eq hg.symm)) hb); have n2_ := Aside0.mk (Kd.N_below (Kd.N_elderB (by (with_reducible repeat (first | apply Kd.N_alloc | apply Kd.N_drewN | apply Kd.N_drew)); exact HO_17.out) gb185 (Nat.le_of_eq hg.symm)) hb); have n3_ := Aside0.mk (Kd.V_below (Kd.V_elderB (kV HL184_2) gb185 (Nat.le_of_eq hg.symm)) hb); have n4_ := Aside0.mk (Kd.C_below (by repeat (first | (with_reducible exact HR184_2.out) | (with_reducible refine Kd.C_alloc ?_ _) | (with_reducible refine Kd.C_drewN ?_ _) | (with_reducible refine Kd.C_drew ?_) | exact HR184_2.out)) hb); have n5_ := Aside0.mk (below_step bA hb); have n6_ := Aside0.mk (hbox); have n7_ := Aside0.mk ((geA hg : w.heap.size ≤ gb185)); have n8_ := Aside0.mk ((geA hg : w.heap.size ≤ gb185)); clear HO_13; clear HO_15; clear HO_17; clear HL184_2; clear HR184_2; clear HB; have HO_13 := n0_; have HO_15 := n1_; have HO_17 := n2_; have HL184_2 := n3_; have HR184_2 := n4_; have HB := n5_; have BK185 := n6_; have GW185 := n7_; have GE185 := n8_; clear n0_ n1_ n2_ n3_ n4_ n5_ n6_ n7_ n8_; clear hb hbox hg; have hcz69_0 : w68.cell? ⟨gb185, 0, none⟩ = some (.int .i64 0) := (blk_cell BK185.out 0).trans rfl; have hcz69_1 : w68.cell? ⟨gb185, 1, none⟩ = some (.string (⟨#[]⟩ : ByteArray)) := (blk_cell BK185.out 1).trans rfl; have hcz69_2 : w68.cell? ⟨gb185, 2, none⟩ = some (.slice none 0 0) := (blk_cell BK185.out 2).trans rfl; have hcz69_3 : w68.cell? ⟨gb185, 3, none⟩ = some (.string (⟨#[]⟩ : ByteArray)) := (blk_cell BK185.out 3).trans rfl; have hfz69_0 := blk_frozen BK185.out 0; have hfz69_1 := blk_frozen BK185.out 1; have hfz69_2 := blk_frozen BK185.out 2; have hfz69_3 := blk_frozen BK185.out 3) | ((with_reducible refine gate_store (t := 35) (p := 19) rfl ?_); (try (rw [drewN_self w68]; generalize hq_ : World.drewN w68 _ = w68; have n0_ := Aside0.mk (Kd.N_at hq_ HO_13.out); have n1_ := Aside0.mk (Kd.N_at hq_ HO_15.out); have n2_ := Aside0.mk (Kd.N_at hq_ HO_17.out); have n3_ := Aside0.mk (Kd.V_at hq_ HL184_2.out); have n4_ := Aside0.mk (blk_at hq_ BK185.out); have n5_ := Aside0.mk (Kd.C_at hq_ HR184_2.out); have n6_ := Aside0.mk (below_at hq_ HB.out); clear hq_ HO_13 HO_15 HO_17 HL184_2 BK185 HR184_2 HB; have HO_13 := n0_; have HO_15 := n1_; have HO_17 := n2_; have HL184_2 := n3_; have BK185 := n4_; have HR184_2 := n5_; have HB := n6_; clear n0_ n1_ n2_ n3_ n4_ n5_ n6_)); refine store_event (t := 35) (p := 19) (v := ?vo_w70) (w1 := ((((w68.setCell ⟨gb185, 0, none⟩ (.int .i64 ((rd_T35 t166 x18_7).f0))).setCell ⟨gb185, 1, none⟩ (.string ((rd_T35 t166 x18_7).f1))).setCell ⟨gb185, 2, none⟩ (.slice A184_2 ((rd_T35 t166 x18_7).f2).length c184_2)).setCell ⟨gb185, 3, none⟩ (.string ((rd_T35 t166 x18_7).f3)))) ?hg ?ho ?hn ?hr ?_; (case ho => rfl); (case hg => rfl); (case hn => rfl); (case hr => first | (go_simp; done) | (go_simp; rfl)); intro w70 hw; have n0_ : Aside0 (Kd.N k35 35 w70 w.heap.size (fun k_ => some k_ ≠ (v174 : Value).ownBlock ∧ some k_ ≠ (u17 : Value).ownBlock ∧ k_ ≠ gb185) (.slice (some ad184) t166.length co67) t166) := ⟨(by rw [hw]; exact (by (with_reducible repeat (first | apply Kd.N_alloc | apply Kd.N_drewN | apply Kd.N_drew)); exact Kd.N_mono (Kd.N_far (p := ⟨gb185, 3, none⟩) (Kd.N_far (p := ⟨gb185, 2, none⟩) (Kd.N_far (p := ⟨gb185, 1, none⟩) (Kd.N_far (p := ⟨gb185, 0, none⟩) (Kd.N_mono HO_13.out (fun k_ hk => (⟨hk, hk.2⟩ : _ ∧ k_ ≠ gb185))) (fun _ hk => hk.2) (.int .i64 ((rd_T35 t166 x18_7).f0))) (fun _ hk => hk.2) (.string ((rd_T35 t166 x18_7).f1))) (fun _ hk => hk.2) (.slice A184_2 ((rd_T35 t166 x18_7).f2).length c184_2)) (fun _ hk => hk.2) (.string ((rd_T35 t166 x18_7).f3))) (fun _ hk => ⟨hk.1.1.1, ⟨hk.1.1.2, hk.1.2⟩⟩)))⟩; have n1_ : Aside0 (Kd.N k35 35 w70 w.heap.size (fun k_ => some k_ ≠ (.slice (some ad184) t166.length co67 : Value).ownBlock ∧ some k_ ≠ (u17 : Value).ownBlock ∧ k_ ≠ gb185) v174 t172) := ⟨(by rw [hw]; exact (by (with_reducible repeat (first | apply Kd.N_alloc | apply Kd.N_drewN | apply Kd.N_drew)); exact Kd.N_mono (Kd.N_far (p := ⟨gb185, 3, none⟩) (Kd.N_far (p := ⟨gb185, 2, none⟩) (Kd.N_far (p := ⟨gb185, 1, none⟩) (Kd.N_far (p := ⟨gb185, 0, none⟩) (Kd.N_mono HO_15.out (fun k_ hk => (⟨hk, hk.2⟩ : _ ∧ k_ ≠ gb185))) (fun _ hk => hk.2) (.int .i64 ((rd_T35 t166 x18_7).f0))) (fun _ hk => hk.2) (.string ((rd_T35 t166 x18_7).f1))) (fun _ hk => hk.2) (.slice A184_2 ((rd_T35 t166 x18_7).f2).length c184_2)) (fun _ hk => hk.2) (.string ((rd_T35 t166 x18_7).f3))) (fun _ hk => ⟨hk.1.1.1, ⟨hk.1.1.2, hk.1.2⟩⟩)))⟩; have n2_ : Aside0 (Kd.N k35 35 w70 w.heap.size (fun k_ => some k_ ≠ (.slice (some ad184) t166.length co67 : Value).ownBlock ∧ some k_ ≠ (v174 : Value).ownBlock ∧ k_ ≠ gb185) u17 x17_7) := ⟨(by rw [hw]; exact (by (with_reducible repeat (first | apply Kd.N_alloc | apply Kd.N_drewN | apply Kd.N_drew)); exact Kd.N_mono (Kd.N_far (p := ⟨gb185, 3, none⟩) (Kd.N_far (p := ⟨gb185, 2, none⟩) (Kd.N_far (p := ⟨gb185, 1, none⟩) (Kd.N_far (p := ⟨gb185, 0, none⟩) (Kd.N_mono HO_17.out (fun k_ hk => (⟨hk, hk.2⟩ : _ ∧ k_ ≠ gb185))) (fun _ hk => hk.2) (.int .i64 ((rd_T35 t166 x18_7).f0))) (fun _ hk => hk.2) (.string ((rd_T35 t166 x18_7).f1))) (fun _ hk => hk.2) (.slice A184_2 ((rd_T35 t166 x18_7).f2).length c184_2)) (fun _ hk => hk.2) (.string ((rd_T35 t166 x18_7).f3))) (fun _ hk => ⟨hk.1.1.1, ⟨hk.1.1.2, hk.1.2⟩⟩)))⟩; have n3_ : Aside0 (Kd.V Kd.string 9 w70 w.heap.size (fun k_ => some k_ ≠ (.slice (some ad184) t166.length co67 : Value).ownBlock ∧ some k_ ≠ (v174 : Value).ownBlock ∧ some k_ ≠ (u17 : Value).ownBlock ∧ k_ ≠ gb185) (.slice A184_2 ((rd_T35 t166 x18_7).f2).length c184_2) ((rd_T35 t166 x18_7).f2)) := ⟨(by rw [hw]; exact (by (with_reducible repeat (first | apply Kd.V_alloc | apply Kd.V_drewN | apply Kd.V_drew)); exact Kd.V_mono (Kd.V_far (p := ⟨gb185, 3, none⟩) (Kd.V_far (p := ⟨gb185, 2, none⟩) (Kd.V_far (p := ⟨gb185, 1, none⟩) (Kd.V_far (p := ⟨gb185, 0, none⟩) (Kd.V_mono HL184_2.out (fun k_ hk => (⟨hk, hk.2⟩ : _ ∧ k_ ≠ gb185))) (fun _ hk => hk.2) (.int .i64 ((rd_T35 t166 x18_7).f0))) (fun _ hk => hk.2) (.string ((rd_T35 t166 x18_7).f1))) (fun _ hk => hk.2) (.slice A184_2 ((rd_T35 t166 x18_7).f2).length c184_2)) (fun _ hk => hk.2) (.string ((rd_T35 t166 x18_7).f3))) (fun _ hk => ⟨hk.1.1.2, ⟨hk.1.1.1.1, ⟨hk.1.1.1.2, hk.1.2⟩⟩⟩)))⟩; have n4_ : Aside0 (w70.heap[gb185]? = some (.cells #[.int .i64 ((rd_T35 t166 x18_7).f0), .string ((rd_T35 t166 x18_7).f1), .slice A184_2 ((rd_T35 t166 x18_7).f2).length c184_2, .string ((rd_T35 t166 x18_7).f3)] 35 (0, 0))) := ⟨(by rw [hw]; exact (by (with_reducible repeat (first | refine blk_drewN ?_ _ | refine blk_drew ?_ | refine blk_alloc ?_ _)); refine blk_put (cs := #[.int .i64 ((rd_T35 t166 x18_7).f0), .string ((rd_T35 t166 x18_7).f1), .slice A184_2 ((rd_T35 t166 x18_7).f2).length c184_2, .string (⟨#[]⟩ : ByteArray)]) ?_ 3 _ rfl; (with_reducible repeat (first | refine blk_drewN ?_ _ | refine blk_drew ?_ | refine blk_alloc ?_ _)); refine blk_put (cs := #[.int .i64 ((rd_T35 t166 x18_7).f0), .string ((rd_T35 t166 x18_7).f1), .slice none 0 0, .string (⟨#[]⟩ : ByteArray)]) ?_ 2 _ rfl; (with_reducible repeat (first | refine blk_drewN ?_ _ | refine blk_drew ?_ | refine blk_alloc ?_ _)); refine blk_put (cs := #[.int .i64 ((rd_T35 t166 x18_7).f0), .string (⟨#[]⟩ : ByteArray), .slice none 0 0, .string (⟨#[]⟩ : ByteArray)]) ?_ 1 _ rfl; (with_reducible repeat (first | refine blk_drewN ?_ _ | refine blk_drew ?_ | refine blk_alloc ?_ _)); refine blk_put (cs := #[.int .i64 0, .string (⟨#[]⟩ : ByteArray), .slice none 0 0, .string (⟨#[]⟩ : ByteArray)]) ?_ 0 _ rfl; (with_reducible repeat (first | refine blk_drewN ?_ _ | refine blk_drew ?_ | refine blk_alloc ?_ _)); exact BK185.out))⟩; have n5_ : Aside0 (Below w.heap.size w w70) := ⟨(by rw [hw]; exact bG)⟩; clear hw; clear HO_13; clear HO_15; clear HO_17; clear HL184_2; clear BK185; clear HB; have HO_13 := n0_; have HO_15 := n1_; have HO_17 := n2_; have HL184_2 := n3_; have BK185 := n4_; have HB := n5_; clear n0_ n1_ n2_ n3_ n4_ n5_; have hcz71_0 : w70.cell? ⟨gb185, 0, none⟩ = some (.int .i64 ((rd_T35 t166 x18_7).f0)) := (blk_cell BK185.out 0).trans rfl; have hcz71_1 : w70.cell? ⟨gb185, 1, none⟩ = some (.string ((rd_T35 t166 x18_7).f1)) := (blk_cell BK185.out 1).trans rfl; have hcz71_2 : w70.cell? ⟨gb185, 2, none⟩ = some (.slice A184_2 ((rd_T35 t166 x18_7).f2).length c184_2) := (blk_cell BK185.out 2).trans rfl; have hcz71_3 : w70.cell? ⟨gb185, 3, none⟩ = some (.string ((rd_T35 t166 x18_7).f3)) := (blk_cell BK185.out 3).trans rfl; have hfz71_0 := blk_frozen BK185.out 0; have hfz71_1 := blk_frozen BK185.out 1; have hfz71_2 := blk_frozen BK185.out 2; have hfz71_3 := blk_frozen BK185.out 3) | ((with_reducible refine gate_store (t := 3) (p := 166) rfl ?_); (try (rw [drewN_self w70]; generalize hq_ : World.drewN w70 _ = w70; have n0_ := Aside0.mk (Kd.N_at hq_ HO_13.out); have n1_ := Aside0.mk (Kd.N_at hq_ HO_15.out); have n2_ := Aside0.mk (Kd.N_at hq_ HO_17.out); have n3_ := Aside0.mk (Kd.V_at hq_ HL184_2.out); have n4_ := Aside0.mk (blk_at hq_ BK185.out); have n5_ := Aside0.mk (Kd.C_at hq_ HR184_2.out); have n6_ := Aside0.mk (below_at hq_ HB.out); clear hq_ HO_13 HO_15 HO_17 HL184_2 BK185 HR184_2 HB; have HO_13 := n0_; have HO_15 := n1_; have HO_17 := n2_; have HL184_2 := n3_; have BK185 := n4_; have HR184_2 := n5_; have HB := n6_; clear n0_ n1_ n2_ n3_ n4_ n5_ n6_)); refine store_event (t := 3) (p := 166) (v := ?vo_w72) (w1 := (w70.setCell ⟨gb185, 0, none⟩ (.int .i64 (wrap64 ((wrap64 (((rd_T35 t166 x18_7).f0) + x7_2)) + 1))))) ?hg ?ho ?hn ?hr ?_; (case ho => rfl); (case hg => rfl); (case hn => rfl); (case hr => first | (go_simp; done) | (go_simp; rfl)); intro w72 hw; have n0_ : Aside0 (Kd.N k35 35 w72 w.heap.size (fun k_ => some k_ ≠ (v174 : Value).ownBlock ∧ some k_ ≠ (u17 : Value).ownBlock ∧ k_ ≠ gb185) (.slice (some ad184) t166.length co67) t166) := ⟨(by rw [hw]; exact (by (with_reducible repeat (first | apply Kd.N_alloc | apply Kd.N_drewN | apply Kd.N_drew)); exact Kd.N_mono (Kd.N_far (p := ⟨gb185, 0, none⟩) (Kd.N_mono HO_13.out (fun k_ hk => (⟨hk, hk.2.2⟩ : _ ∧ k_ ≠ gb185))) (fun _ hk => hk.2) (.int .i64 (wrap64 ((wrap64 (((rd_T35 t166 x18_7).f0) + x7_2)) + 1)))) (fun _ hk => ⟨hk.1.1, ⟨hk.1.2.1, hk.1.2.2⟩⟩)))⟩; have n1_ : Aside0 (Kd.N k35 35 w72 w.heap.size (fun k_ => some k_ ≠ (.slice (some ad184) t166.length co67 : Value).ownBlock ∧ some k_ ≠ (u17 : Value).ownBlock ∧ k_ ≠ gb185) v174 t172) := ⟨(by rw [hw]; exact (by (with_reducible repeat (first | apply Kd.N_alloc | apply Kd.N_drewN | apply Kd.N_drew)); exact Kd.N_mono (Kd.N_far (p := ⟨gb185, 0, none⟩) (Kd.N_mono HO_15.out (fun k_ hk => (⟨hk, hk.2.2⟩ : _ ∧ k_ ≠ gb185))) (fun _ hk => hk.2) (.int .i64 (wrap64 ((wrap64 (((rd_T35 t166 x18_7).f0) + x7_2)) + 1)))) (fun _ hk => ⟨hk.1.1, ⟨hk.1.2.1, hk.1.2.2⟩⟩)))⟩; have n2_ : Aside0 (Kd.N k35 35 w72 w.heap.size (fun k_ => some k_ ≠ (.slice (some ad184) t166.length co67 : Value).ownBlock ∧ some k_ ≠ (v174 : Value).ownBlock ∧ k_ ≠ gb185) u17 x17_7) := ⟨(by rw [hw]; exact (by (with_reducible repeat (first | apply Kd.N_alloc | apply Kd.N_drewN | apply Kd.N_drew)); exact Kd.N_mono (Kd.N_far (p := ⟨gb185, 0, none⟩) (Kd.N_mono HO_17.out (fun k_ hk => (⟨hk, hk.2.2⟩ : _ ∧ k_ ≠ gb185))) (fun _ hk => hk.2) (.int .i64 (wrap64 ((wrap64 (((rd_T35 t166 x18_7).f0) + x7_2)) + 1)))) (fun _ hk => ⟨hk.1.1, ⟨hk.1.2.1, hk.1.2.2⟩⟩)))⟩; have n3_ : Aside0 (Kd.V Kd.string 9 w72 w.heap.size (fun k_ => some k_ ≠ (.slice (some ad184) t166.length co67 : Value).ownBlock ∧ some k_ ≠ (v174 : Value).ownBlock ∧ some k_ ≠ (u17 : Value).ownBlock ∧ k_ ≠ gb185) (.slice A184_2 ((rd_T35 t166 x18_7).f2).length c184_2) ((rd_T35 t166 x18_7).f2)) := ⟨(by rw [hw]; exact (by (with_reducible repeat (first | apply Kd.V_alloc | apply Kd.V_drewN | apply Kd.V_drew)); exact Kd.V_mono (Kd.V_far (p := ⟨gb185, 0, none⟩) (Kd.V_mono HL184_2.out (fun k_ hk => (⟨hk, hk.2.2.2⟩ : _ ∧ k_ ≠ gb185))) (fun _ hk => hk.2) (.int .i64 (wrap64 ((wrap64 (((rd_T35 t166 x18_7).f0) + x7_2)) + 1)))) (fun _ hk => ⟨hk.1.1, ⟨hk.1.2.1, ⟨hk.1.2.2.1, hk.1.2.2.2⟩⟩⟩)))⟩; have n4_ : Aside0 (w72.heap[gb185]? = some (.cells #[.int .i64 (wrap64 ((wrap64 (((rd_T35 t166 x18_7).f0) + x7_2)) + 1)), .string ((rd_T35 t166 x18_7).f1), .slice A184_2 ((rd_T35 t166 x18_7).f2).length c184_2, .string ((rd_T35 t166 x18_7).f3)] 35 (0, 0))) := ⟨(by rw [hw]; exact (by (with_reducible repeat (first | refine blk_drewN ?_ _ | refine blk_drew ?_ | refine blk_alloc ?_ _)); refine blk_put (cs := #[.int .i64 ((rd_T35 t166 x18_7).f0), .string ((rd_T35 t166 x18_7).f1), .slice A184_2 ((rd_T35 t166 x18_7).f2).length c184_2, .string ((rd_T35 t166 x18_7).f3)]) ?_ 0 _ rfl; (with_reducible repeat (first | refine blk_drewN ?_ _ | refine blk_drew ?_ | refine blk_alloc ?_ _)); exact BK185.out))⟩; have n5_ : Aside0 (Below w.heap.size w w72) := ⟨(by rw [hw]; exact bG)⟩; clear hw; clear HO_13; clear HO_15; clear HO_17; clear HL184_2; clear BK185; clear HB; have HO_13 := n0_; have HO_15 := n1_; have HO_17 := n2_; have HL184_2 := n3_; have BK185 := n4_; have HB := n5_; clear n0_ n1_ n2_ n3_ n4_ n5_; have hcz73_0 : w72.cell? ⟨gb185, 0, none⟩ = some (.int .i64 (wrap64 ((wrap64 (((rd_T35 t166 x18_7).f0) + x7_2)) + 1))) := (blk_cell BK185.out 0).trans rfl; have hcz73_1 : w72.cell? ⟨gb185, 1, none⟩ = some (.string ((rd_T35 t166 x18_7).f1)) := (blk_cell BK185.out 1).trans rfl; have hcz73_2 : w72.cell? ⟨gb185, 2, none⟩ = some (.slice A184_2 ((rd_T35 t166 x18_7).f2).length c184_2) := (blk_cell BK185.out 2).trans rfl; have hcz73_3 : w72.cell? ⟨gb185, 3, none⟩ = some (.string ((rd_T35 t166 x18_7).f3)) := (blk_cell BK185.out 3).trans rfl; have hfz73_0 := blk_frozen BK185.out 0; have hfz73_1 := blk_frozen BK185.out 1; have hfz73_2 := blk_frozen BK185.out 2; have hfz73_3 := blk_frozen BK185.out 3) | ((with_reducible refine gate_builtin (b := .append) (xs := #[.tmp 167, .tmp 169]) rfl ?_); (try (refine gate_guard (by rfl) ?_; dsimp only)); at_builtin; refine Kd.N_append k35 (w0 := w) w.heap.size rfl (.tmp 167) (.tmp 169) 30 35 (.agg #[(.int .i64 0), (.string ⟨#[]⟩), (.slice none 0 0), (.string ⟨#[]⟩)]) 64 rfl Tryd.underlying30 info35 rfl (by decide) (by omega) u17 x17_7 (⟨wrap64 ((wrap64 (((rd_T35 t166 x18_7).f0) + x7_2)) + 1), (rd_T35 t166 x18_7).f1, (rd_T35 t166 x18_7).f2, (rd_T35 t166 x18_7).f3⟩ : S35) [.int .i64 (wrap64 ((wrap64 (((rd_T35 t166 x18_7).f0) + x7_2)) + 1)), .string ((rd_T35 t166 x18_7).f1), .slice A184_2 ((rd_T35 t166 x18_7).f2).length c184_2, .string ((rd_T35 t166 x18_7).f3)] (fun k_ => some k_ ≠ (.slice (some ad184) t166.length co67 : Value).ownBlock ∧ some k_ ≠ (v174 : Value).ownBlock ∧ k_ ≠ gb185) (fun k_ => ((fun k_ => some k_ ≠ (.slice (some ad184) t166.length co67 : Value).ownBlock ∧ some k_ ≠ (v174 : Value).ownBlock ∧ k_ ≠ gb185)) k_ ∧ some k_ ≠ (u17 : Value).ownBlock) rfl rfl ?aP (fun _ hk => hk) ?aF ?aO ?aB ?aS ?aL ?_; (case aP => exact (k35_mkF _ _ (⟨wrap64 ((wrap64 (((rd_T35 t166 x18_7).f0) + x7_2)) + 1), (rd_T35 t166 x18_7).f1, (rd_T35 t166 x18_7).f2, (rd_T35 t166 x18_7).f3⟩ : S35) (Kd.V_reads' (Kd.V_mono (ok' := (fun k_ => ((fun k_ => some k_ ≠ (.slice (some ad184) t166.length co67 : Value).ownBlock ∧ some k_ ≠ (v174 : Value).ownBlock ∧ k_ ≠ gb185)) k_ ∧ some k_ ≠ (u17 : Value).ownBlock)) (HL184_2.out) (fun k_ hk => ⟨⟨hk.1, ⟨hk.2.1, hk.2.2.2⟩⟩, hk.2.2.1⟩))).2.1 (Kd.V_F (Kd.V_mono (ok' := (fun k_ => ((fun k_ => some k_ ≠ (.slice (some ad184) t166.length co67 : Value).ownBlock ∧ some k_ ≠ (v174 : Value).ownBlock ∧ k_ ≠ gb185)) k_ ∧ some k_ ≠ (u17 : Value).ownBlock)) (HL184_2.out) (fun k_ hk => ⟨⟨hk.1, ⟨hk.2.1, hk.2.2.2⟩⟩, hk.2.2.1⟩))))); (case aB => exact bG); (case aF => exact (fun k_ hk => ⟨Kd.fresh' (Kd.N_lt (by (with_reducible repeat (first | apply Kd.N_alloc | apply Kd.N_drewN | apply Kd.N_drew)); exact HO_13.out)) k_ hk, Kd.fresh' (Kd.N_lt (by (with_reducible repeat (first | apply Kd.N_alloc | apply Kd.N_drewN | apply Kd.N_drew)); exact HO_15.out)) k_ hk, Kd.freshB (g := gb185) (o := .cells #[.int .i64 (wrap64 ((wrap64 (((rd_T35 t166 x18_7).f0) + x7_2)) + 1)), .string ((rd_T35 t166 x18_7).f1), .slice A184_2 ((rd_T35 t166 x18_7).f2).length c184_2, .string ((rd_T35 t166 x18_7).f3)] 35 (0, 0)) (kB BK185) k_ hk⟩)); (case aO => exact (by (with_reducible repeat (first | apply Kd.N_alloc | apply Kd.N_drewN | apply Kd.N_drew)); exact HO_17.out)); (case aS => exact (below_size bG)); (case aL => have := LMc66.out; omega); intro v187 w74 ho hb hg hat; rw [← Ny186.out] at ho; have n0_ := Aside0.mk (Kd.N_afterv (ok := (fun k_ => some k_ ≠ (v174 : Value).ownBlock ∧ k_ ≠ gb185)) (by (with_reducible repeat (first | apply Kd.N_alloc | apply Kd.N_drewN | apply Kd.N_drew)); exact Kd.N_mono HO_13.out (fun _ hk => ⟨⟨hk.1, hk.2.2⟩, hk.2.1⟩)) hg hat); have n1_ := Aside0.mk (Kd.N_afterv (ok := (fun k_ => some k_ ≠ (.slice (some ad184) t166.length co67 : Value).ownBlock ∧ k_ ≠ gb185)) (by (with_reducible repeat (first | apply Kd.N_alloc | apply Kd.N_drewN | apply Kd.N_drew)); exact Kd.N_mono HO_15.out (fun _ hk => ⟨⟨hk.1, hk.2.2⟩, hk.2.1⟩)) hg hat); have n2_ := Aside0.mk (Kd.V_afterv (ok := (fun k_ => some k_ ≠ (.slice (some ad184) t166.length co67 : Value).ownBlock ∧ some k_ ≠ (v174 : Value).ownBlock ∧ k_ ≠ gb185)) (by (with_reducible repeat (first | apply Kd.V_alloc | apply Kd.V_drewN | apply Kd.V_drew)); exact Kd.V_mono HL184_2.out (fun _ hk => ⟨⟨hk.1, ⟨hk.2.1, hk.2.2.2⟩⟩, hk.2.2.1⟩)) hg hat); have n3_ := Aside0.mk (blk_grown (g := gb185) (o := .cells #[.int .i64 (wrap64 ((wrap64 (((rd_T35 t166 x18_7).f0) + x7_2)) + 1)), .string ((rd_T35 t166 x18_7).f1), .slice A184_2 ((rd_T35 t166 x18_7).f2).length c184_2, .string ((rd_T35 t166 x18_7).f3)] 35 (0, 0)) (kB BK185) hg (Kd.N_away HO_17.out (fun _ hk => hk.2.2))); have n4_ := Aside0.mk (hb); have n5_ := Aside0.mk (ho); clear HO_13; clear HO_15; clear HL184_2; clear BK185; clear HB; clear HO_17; have HO_13 := n0_; have HO_15 := n1_; have HL184_2 := n2_; have BK185 := n3_; have HB := n4_; have HO188 := n5_; clear n0_ n1_ n2_ n3_ n4_ n5_; clear ho hb hg hat)))
                         go_roundg k7
                         case measure => have := HJ2.out; have := HK2.out; have := HK3.out; have := HK4.out; have := HJ49.out; have := HJ59.out; have := HK7.out; omega
                         case rel => exact ⟨(y186), (wrap64 (x18_7 + 1)), sA, H', ⟨by have := HJ2.out; have := HK2.out; have := HK3.out; have := HK4.out; have := HJ49.out; have := HJ59.out; have := HK7.out; omega⟩, ⟨by (with_reducible repeat (first | apply Kd.N_alloc | apply Kd.N_drewN | apply Kd.N_drew)); exact Kd.N_mono HO_13.out (fun _ hk => ⟨hk.1.1, hk.2⟩)⟩, ⟨by (with_reducible repeat (first | apply Kd.N_alloc | apply Kd.N_drewN | apply Kd.N_drew)); exact Kd.N_mono HO_15.out (fun _ hk => ⟨hk.1.1, hk.2⟩)⟩, ⟨by (with_reducible repeat (first | apply Kd.N_alloc | apply Kd.N_drewN | apply Kd.N_drew)); exact Kd.N_mono HO188.out (fun _ hk => ⟨hk.1, hk.2.1⟩)⟩, ⟨bG⟩⟩
                        ·rw [if_neg c66] at H
                         exact absurd H (by simp)
                       ·rw [if_neg c65] at H
                        exact absurd H (by simp)
                      ·rw [if_neg c64] at H
                       have c64b0 : decide (x18_7 < (t166.length : Int)) = false := decide_eq_false c64
                       clear c64
                       replace H := Option.bind_eq_some_iff.mp H
                       obtain ⟨t189, A750, H⟩ := H
                       replace H : (if t189 = true then ((flonglaw05_known.f k7).bind fun t190 => (some t190)) else (some false)) = some r := H
                       have A75 := Aside0.mk A750
                       clear A750
                       by_cases c76 : t189 = true
                       ·subst c76
                        have H1 : ((flonglaw05_known.f k7).bind fun t190 => (some t190)) = some r := by rw [if_pos rfl] at H; exact H
                        clear H
                        have H := H1
                        clear H1
                        replace H := Option.bind_eq_some_iff.mp H
                        obtain ⟨t190, A770, H⟩ := H
                        replace H : (some t190) = some r := H
                        have A77 := Aside0.mk A770
                        clear A770
                        obtain rfl := Option.some.inj H
                        obtain ⟨Ao78, co78, eo78⟩ := Kd.N_slice HO_13.out
                        subst eo78
                        obtain ⟨Ao79, co79, eo79⟩ := Kd.N_slice HO_15.out
                        subst eo79
                        obtain ⟨Ao80, co80, eo80⟩ := Kd.N_slice HO_17.out
                        subst eo80
                        go_wp2_with (first | (go_at_call 18; (with_reducible refine (flongref05_Same.calls k7 _ _ t172 _ _ x17_7 true _ ?side1 ?side2 ?side3 ?side4 A75.out).mono ?_); (case side1 => repeat (first | exact (Kd.N_reads' HO_15.out).2.2 | (with_reducible refine Kd.C_alloc ?_ _) | (with_reducible refine Kd.C_drewN ?_ _) | (with_reducible refine Kd.C_drew ?_))); (case side2 => exact (Kd.N_reads' HO_15.out).2.1); (case side3 => repeat (first | exact (Kd.N_reads' HO_17.out).2.2 | (with_reducible refine Kd.C_alloc ?_ _) | (with_reducible refine Kd.C_drewN ?_ _) | (with_reducible refine Kd.C_drew ?_))); (case side4 => exact (Kd.N_reads' HO_17.out).2.1); rintro e w81 ⟨rfl, hb⟩; have n0_ := Aside0.mk (Kd.N_below (by (with_reducible repeat (first | apply Kd.N_alloc | apply Kd.N_drewN | apply Kd.N_drew)); exact HO_13.out) hb); have n1_ := Aside0.mk (Kd.N_below (by (with_reducible repeat (first | apply Kd.N_alloc | apply Kd.N_drewN | apply Kd.N_drew)); exact HO_15.out) hb); have n2_ := Aside0.mk (Kd.N_below (by (with_reducible repeat (first | apply Kd.N_alloc | apply Kd.N_drewN | apply Kd.N_drew)); exact HO_17.out) hb); have n3_ := Aside0.mk (below_step bA hb); clear HO_13; clear HO_15; clear HO_17; clear HB; have HO_13 := n0_; have HO_15 := n1_; have HO_17 := n2_; have HB := n3_; clear n0_ n1_ n2_ n3_; (try clear hb); (try clear hb2); (try clear hk); (try clear hi)) | (go_at_call 11; (with_reducible refine (flonglaw05_known.calls k7  t190 _ ?side1 A77.out).mono ?_); (case side1 => exact GOK.of_below (GOK.sub HG.out rfl) bA); rintro e w82 ⟨rfl, hb⟩; have n0_ := Aside0.mk (Kd.N_below (by (with_reducible repeat (first | apply Kd.N_alloc | apply Kd.N_drewN | apply Kd.N_drew)); exact HO_13.out) hb); have n1_ := Aside0.mk (Kd.N_below (by (with_reducible repeat (first | apply Kd.N_alloc | apply Kd.N_drewN | apply Kd.N_drew)); exact HO_15.out) hb); have n2_ := Aside0.mk (Kd.N_below (by (with_reducible repeat (first | apply Kd.N_alloc | apply Kd.N_drewN | apply Kd.N_drew)); exact HO_17.out) hb); have n3_ := Aside0.mk (below_step bA hb); clear HO_13; clear HO_15; clear HO_17; clear HB; have HO_13 := n0_; have HO_15 := n1_; have HO_17 := n2_; have HB := n3_; clear n0_ n1_ n2_ n3_; (try clear hb); (try clear hb2); (try clear hk); (try clear hi)))
                        repeat (go_quiet (first | (go_at_call 18; (with_reducible refine (flongref05_Same.calls k7 _ _ t172 _ _ x17_7 true _ ?side1 ?side2 ?side3 ?side4 A75.out).mono ?_); (case side1 => repeat (first | exact (Kd.N_reads' HO_15.out).2.2 | (with_reducible refine Kd.C_alloc ?_ _) | (with_reducible refine Kd.C_drewN ?_ _) | (with_reducible refine Kd.C_drew ?_))); (case side2 => exact (Kd.N_reads' HO_15.out).2.1); (case side3 => repeat (first | exact (Kd.N_reads' HO_17.out).2.2 | (with_reducible refine Kd.C_alloc ?_ _) | (with_reducible refine Kd.C_drewN ?_ _) | (with_reducible refine Kd.C_drew ?_))); (case side4 => exact (Kd.N_reads' HO_17.out).2.1); rintro e w81 ⟨rfl, hb⟩; have n0_ := Aside0.mk (Kd.N_below (by (with_reducible repeat (first | apply Kd.N_alloc | apply Kd.N_drewN | apply Kd.N_drew)); exact HO_13.out) hb); have n1_ := Aside0.mk (Kd.N_below (by (with_reducible repeat (first | apply Kd.N_alloc | apply Kd.N_drewN | apply Kd.N_drew)); exact HO_15.out) hb); have n2_ := Aside0.mk (Kd.N_below (by (with_reducible repeat (first | apply Kd.N_alloc | apply Kd.N_drewN | apply Kd.N_drew)); exact HO_17.out) hb); have n3_ := Aside0.mk (below_step bA hb); clear HO_13; clear HO_15; clear HO_17; clear HB; have HO_13 := n0_; have HO_15 := n1_; have HO_17 := n2_; have HB := n3_; clear n0_ n1_ n2_ n3_; (try clear hb); (try clear hb2); (try clear hk); (try clear hi)) | (go_at_call 11; (with_reducible refine (flonglaw05_known.calls k7  t190 _ ?side1 A77.out).mono ?_); (case side1 => exact GOK.of_below (GOK.sub HG.out rfl) bA); rintro e w82 ⟨rfl, hb⟩; have n0_ := Aside0.mk (Kd.N_below (by (with_reducible repeat (first | apply Kd.N_alloc | apply Kd.N_drewN | apply Kd.N_drew)); exact HO_13.out) hb); have n1_ := Aside0.mk (Kd.N_below (by (with_reducible repeat (first | apply Kd.N_alloc | apply Kd.N_drewN | apply Kd.N_drew)); exact HO_15.out) hb); have n2_ := Aside0.mk (Kd.N_below (by (with_reducible repeat (first | apply Kd.N_alloc | apply Kd.N_drewN | apply Kd.N_drew)); exact HO_17.out) hb); have n3_ := Aside0.mk (below_step bA hb); clear HO_13; clear HO_15; clear HO_17; clear HB; have HO_13 := n0_; have HO_15 := n1_; have HO_17 := n2_; have HB := n3_; clear n0_ n1_ n2_ n3_; (try clear hb); (try clear hb2); (try clear hk); (try clear hi))); try go_wp2_with (first | (go_at_call 18; (with_reducible refine (flongref05_Same.calls k7 _ _ t172 _ _ x17_7 true _ ?side1 ?side2 ?side3 ?side4 A75.out).mono ?_); (case side1 => repeat (first | exact (Kd.N_reads' HO_15.out).2.2 | (with_reducible refine Kd.C_alloc ?_ _) | (with_reducible refine Kd.C_drewN ?_ _) | (with_reducible refine Kd.C_drew ?_))); (case side2 => exact (Kd.N_reads' HO_15.out).2.1); (case side3 => repeat (first | exact (Kd.N_reads' HO_17.out).2.2 | (with_reducible refine Kd.C_alloc ?_ _) | (with_reducible refine Kd.C_drewN ?_ _) | (with_reducible refine Kd.C_drew ?_))); (case side4 => exact (Kd.N_reads' HO_17.out).2.1); rintro e w81 ⟨rfl, hb⟩; have n0_ := Aside0.mk (Kd.N_below (by (with_reducible repeat (first | apply Kd.N_alloc | apply Kd.N_drewN | apply Kd.N_drew)); exact HO_13.out) hb); have n1_ := Aside0.mk (Kd.N_below (by (with_reducible repeat (first | apply Kd.N_alloc | apply Kd.N_drewN | apply Kd.N_drew)); exact HO_15.out) hb); have n2_ := Aside0.mk (Kd.N_below (by (with_reducible repeat (first | apply Kd.N_alloc | apply Kd.N_drewN | apply Kd.N_drew)); exact HO_17.out) hb); have n3_ := Aside0.mk (below_step bA hb); clear HO_13; clear HO_15; clear HO_17; clear HB; have HO_13 := n0_; have HO_15 := n1_; have HO_17 := n2_; have HB := n3_; clear n0_ n1_ n2_ n3_; (try clear hb); (try clear hb2); (try clear hk); (try clear hi)) | (go_at_call 11; (with_reducible refine (flonglaw05_known.calls k7  t190 _ ?side1 A77.out).mono ?_); (case side1 => exact GOK.of_below (GOK.sub HG.out rfl) bA); rintro e w82 ⟨rfl, hb⟩; have n0_ := Aside0.mk (Kd.N_below (by (with_reducible repeat (first | apply Kd.N_alloc | apply Kd.N_drewN | apply Kd.N_drew)); exact HO_13.out) hb); have n1_ := Aside0.mk (Kd.N_below (by (with_reducible repeat (first | apply Kd.N_alloc | apply Kd.N_drewN | apply Kd.N_drew)); exact HO_15.out) hb); have n2_ := Aside0.mk (Kd.N_below (by (with_reducible repeat (first | apply Kd.N_alloc | apply Kd.N_drewN | apply Kd.N_drew)); exact HO_17.out) hb); have n3_ := Aside0.mk (below_step bA hb); clear HO_13; clear HO_15; clear HO_17; clear HB; have HO_13 := n0_; have HO_15 := n1_; have HO_17 := n2_; have HB := n3_; clear n0_ n1_ n2_ n3_; (try clear hb); (try clear hb2); (try clear hk); (try clear hi))))
                        go_ret
                        exact ⟨eW, bA⟩
                       ·replace c76 := Bool.eq_false_iff.mpr c76
                        subst c76
                        have H1 : (some false) = some r := by rw [if_neg (show ¬ (false = true) by decide)] at H; exact H
                        clear H
                        have H := H1
                        clear H1
                        obtain rfl := Option.some.inj H
                        obtain ⟨Ao83, co83, eo83⟩ := Kd.N_slice HO_13.out
                        subst eo83
                        obtain ⟨Ao84, co84, eo84⟩ := Kd.N_slice HO_15.out
                        subst eo84
                        obtain ⟨Ao85, co85, eo85⟩ := Kd.N_slice HO_17.out
                        subst eo85
                        go_wp2_with (first | (go_at_call 18; (with_reducible refine (flongref05_Same.calls k7 _ _ t172 _ _ x17_7 false _ ?side1 ?side2 ?side3 ?side4 A75.out).mono ?_); (case side1 => repeat (first | exact (Kd.N_reads' HO_15.out).2.2 | (with_reducible refine Kd.C_alloc ?_ _) | (with_reducible refine Kd.C_drewN ?_ _) | (with_reducible refine Kd.C_drew ?_))); (case side2 => exact (Kd.N_reads' HO_15.out).2.1); (case side3 => repeat (first | exact (Kd.N_reads' HO_17.out).2.2 | (with_reducible refine Kd.C_alloc ?_ _) | (with_reducible refine Kd.C_drewN ?_ _) | (with_reducible refine Kd.C_drew ?_))); (case side4 => exact (Kd.N_reads' HO_17.out).2.1); rintro e w86 ⟨rfl, hb⟩; have n0_ := Aside0.mk (Kd.N_below (by (with_reducible repeat (first | apply Kd.N_alloc | apply Kd.N_drewN | apply Kd.N_drew)); exact HO_13.out) hb); have n1_ := Aside0.mk (Kd.N_below (by (with_reducible repeat (first | apply Kd.N_alloc | apply Kd.N_drewN | apply Kd.N_drew)); exact HO_15.out) hb); have n2_ := Aside0.mk (Kd.N_below (by (with_reducible repeat (first | apply Kd.N_alloc | apply Kd.N_drewN | apply Kd.N_drew)); exact HO_17.out) hb); have n3_ := Aside0.mk (below_step bA hb); clear HO_13; clear HO_15; clear HO_17; clear HB; have HO_13 := n0_; have HO_15 := n1_; have HO_17 := n2_; have HB := n3_; clear n0_ n1_ n2_ n3_; (try clear hb); (try clear hb2); (try clear hk); (try clear hi)))
                        repeat (go_quiet (first | (go_at_call 18; (with_reducible refine (flongref05_Same.calls k7 _ _ t172 _ _ x17_7 false _ ?side1 ?side2 ?side3 ?side4 A75.out).mono ?_); (case side1 => repeat (first | exact (Kd.N_reads' HO_15.out).2.2 | (with_reducible refine Kd.C_alloc ?_ _) | (with_reducible refine Kd.C_drewN ?_ _) | (with_reducible refine Kd.C_drew ?_))); (case side2 => exact (Kd.N_reads' HO_15.out).2.1); (case side3 => repeat (first | exact (Kd.N_reads' HO_17.out).2.2 | (with_reducible refine Kd.C_alloc ?_ _) | (with_reducible refine Kd.C_drewN ?_ _) | (with_reducible refine Kd.C_drew ?_))); (case side4 => exact (Kd.N_reads' HO_17.out).2.1); rintro e w86 ⟨rfl, hb⟩; have n0_ := Aside0.mk (Kd.N_below (by (with_reducible repeat (first | apply Kd.N_alloc | apply Kd.N_drewN | apply Kd.N_drew)); exact HO_13.out) hb); have n1_ := Aside0.mk (Kd.N_below (by (with_reducible repeat (first | apply Kd.N_alloc | apply Kd.N_drewN | apply Kd.N_drew)); exact HO_15.out) hb); have n2_ := Aside0.mk (Kd.N_below (by (with_reducible repeat (first | apply Kd.N_alloc | apply Kd.N_drewN | apply Kd.N_drew)); exact HO_17.out) hb); have n3_ := Aside0.mk (below_step bA hb); clear HO_13; clear HO_15; clear HO_17; clear HB; have HO_13 := n0_; have HO_15 := n1_; have HO_17 := n2_; have HB := n3_; clear n0_ n1_ n2_ n3_; (try clear hb); (try clear hb2); (try clear hk); (try clear hi))); try go_wp2_with (first | (go_at_call 18; (with_reducible refine (flongref05_Same.calls k7 _ _ t172 _ _ x17_7 false _ ?side1 ?side2 ?side3 ?side4 A75.out).mono ?_); (case side1 => repeat (first | exact (Kd.N_reads' HO_15.out).2.2 | (with_reducible refine Kd.C_alloc ?_ _) | (with_reducible refine Kd.C_drewN ?_ _) | (with_reducible refine Kd.C_drew ?_))); (case side2 => exact (Kd.N_reads' HO_15.out).2.1); (case side3 => repeat (first | exact (Kd.N_reads' HO_17.out).2.2 | (with_reducible refine Kd.C_alloc ?_ _) | (with_reducible refine Kd.C_drewN ?_ _) | (with_reducible refine Kd.C_drew ?_))); (case side4 => exact (Kd.N_reads' HO_17.out).2.1); rintro e w86 ⟨rfl, hb⟩; have n0_ := Aside0.mk (Kd.N_below (by (with_reducible repeat (first | apply Kd.N_alloc | apply Kd.N_drewN | apply Kd.N_drew)); exact HO_13.out) hb); have n1_ := Aside0.mk (Kd.N_below (by (with_reducible repeat (first | apply Kd.N_alloc | apply Kd.N_drewN | apply Kd.N_drew)); exact HO_15.out) hb); have n2_ := Aside0.mk (Kd.N_below (by (with_reducible repeat (first | apply Kd.N_alloc | apply Kd.N_drewN | apply Kd.N_drew)); exact HO_17.out) hb); have n3_ := Aside0.mk (below_step bA hb); clear HO_13; clear HO_15; clear HO_17; clear HB; have HO_13 := n0_; have HO_15 := n1_; have HO_17 := n2_; have HB := n3_; clear n0_ n1_ n2_ n3_; (try clear hb); (try clear hb2); (try clear hk); (try clear hi))))
                        go_ret
                        exact ⟨eW, bA⟩
               ·rw [if_neg c49] at H
                exact absurd H (by simp)
              ·rw [if_neg c47] at H
               exact absurd H (by simp)
             ·rw [if_neg c46] at H
              exact absurd H (by simp)

end Go.Proofs.YtmfkokjbjmahkaaDoor.X
