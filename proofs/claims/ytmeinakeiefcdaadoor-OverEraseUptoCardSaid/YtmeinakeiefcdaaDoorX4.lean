-- Written by this session's xprint.py (a variant of the kit's printer). Not trusted: Lean checks it.
import Derived.Test.YtmeinakeiefcdaaDoorX0
import Derived.Test.YtmeinakeiefcdaaDoorSlim
import Derived.Test.YtmeinakeiefcdaaDoorX1
import Derived.Test.YtmeinakeiefcdaaDoorX3
import Derived.WalkMore
import Derived.Test.YtmeinakeiefcdaaDoorHandA
import Derived.Test.YtmeinakeiefcdaaDoorHandO
namespace Go.Proofs.YtmeinakeiefcdaaDoor.X
open Go.Proofs.YtmeinakeiefcdaaDoor.Hand
open Go.RowKit Go.Proofs.YtmeinakeiefcdaaDoorW.PrintWords Go.Proofs.YtmeinakeiefcdaaDoorW.PrintLast Go.Proofs.YtmeinakeiefcdaaDoorW.PrintMore
attribute [local go_sem] max2_int min2_int max_two min_two max_three min_three max_four min_four   -- for this text's walks alone
set_option linter.unusedVariables false
set_option maxHeartbeats 8000000
set_option maxRecDepth 100000
set_option linter.unusedSimpArgs false

/-! ### over_Take: function 20 -/
mutual
def over_Take.l0 : Nat → ByteArray → Int → List Int → List Int → Int → Int → Option (Int × Int × Int × Int)
 | 0, _, _, _, _, _, _ => none
 | k + 1, x5, x6, x8, x36, x37, x38 => if x38 < x37 then (if 0 ≤ x38 then (if x38 < (x36.length : Int) then ((strings_Repeat.f (⟨#[95]⟩ : ByteArray) (rd x36 x38)).bind fun t287 => ((strings_Repeat.f (⟨#[8]⟩ : ByteArray) (rd x36 x38)).bind fun t288 => (if t287.size + t288.size ≤ 9223372036854775807 then ((strings_CutPrefix.f x5 (t287 ++ t288)).bind fun bt289 => (if bt289.2 = true then ((over_first.f k bt289.1).bind fun bt291 => (if bt291.2 = true then (if x8.length < 35184372088832 then (over_Take.l0 k x5 x6 (x8 ++ [bt291.1]) x36 x37 (wrap64 (x38 + 1))) else (none)) else (over_Take.l0 k x5 x6 x8 x36 x37 (wrap64 (x38 + 1))))) else (over_Take.l0 k x5 x6 x8 x36 x37 (wrap64 (x38 + 1))))) else (none)))) else (none)) else (none)) else (over_Take.l1 k x5 x8 0 0 x6 0)
def over_Take.l1 : Nat → ByteArray → List Int → Int → Int → Int → Int → Option (Int × Int × Int × Int)
 | 0, _, _, _, _, _, _ => none
 | k + 1, x5, x8, x16, x67, x297000, x297001 => if x67 < 4 then (if 0 ≤ x67 then (over_Take.l2 k x5 x8 x16 (rd ([3, 2, 1, 0] : List Int) x67) x67 x8 (x8.length : Int) 0 x297000 x297001) else (none)) else (if x16 = 0 then (some (0, 0, 0, 5)) else (some (x297000, x297001, x16, 0)))
def over_Take.l2 : Nat → ByteArray → List Int → Int → Int → Int → List Int → Int → Int → Int → Int → Option (Int × Int × Int × Int)
 | 0, _, _, _, _, _, _, _, _, _, _ => none
 | k + 1, x5, x8, x16, x18, x67, x70, x71, x72, x297000, x297001 => if x72 < x71 then (if 0 ≤ x72 then (if x72 < (x70.length : Int) then ((over_One.f k (rd x70 x72) x18).bind fun t299 => (if (rd x70 x72) = 32 then (over_Take.j3 k x5 x8 x16 x18 (rd x70 x72) t299 true x67 x70 x71 x72 x297000 x297001 (rd x70 x72) x18) else ((runes_Width.f (rd x70 x72)).bind fun t302 => (over_Take.j3 k x5 x8 x16 x18 (rd x70 x72) t299 (t302 == 0) x67 x70 x71 x72 x297000 x297001 (rd x70 x72) x18)))) else (none)) else (none)) else (over_Take.l1 k x5 x8 x16 (wrap64 (x67 + 1)) x297000 x297001)
def over_Take.j3 : Nat → ByteArray → List Int → Int → Int → Int → List Int → Bool → Int → List Int → Int → Int → Int → Int → Int → Int → Option (Int × Int × Int × Int)
 | 0, _, _, _, _, _, _, _, _, _, _, _, _, _, _, _ => none
 | k + 1, x5, x8, x16, x18, x20, x22, x23, x67, x70, x71, x72, x297000, x297001, x299000, x299001 => if x23 = true then (if x18 = 0 then (over_Take.j4 k x5 x8 x16 x18 x22 x67 x70 x71 x72 (x20 == 160) x297000 x297001 x299000 x299001) else (over_Take.j4 k x5 x8 x16 x18 x22 x67 x70 x71 x72 true x297000 x297001 x299000 x299001)) else (over_Take.j4 k x5 x8 x16 x18 x22 x67 x70 x71 x72 (x20 == 160) x297000 x297001 x299000 x299001)
def over_Take.j4 : Nat → ByteArray → List Int → Int → Int → List Int → Int → List Int → Int → Int → Bool → Int → Int → Int → Int → Option (Int × Int × Int × Int)
 | 0, _, _, _, _, _, _, _, _, _, _, _, _, _, _ => none
 | k + 1, x5, x8, x16, x18, x22, x67, x70, x71, x72, x96, x297000, x297001, x299000, x299001 => if x96 = true then (over_Take.l2 k x5 x8 x16 x18 x67 x70 x71 (wrap64 (x72 + 1)) x297000 x297001) else ((strings_HasPrefix.f x5 (strOfNums x22)).bind fun t303 => (if t303 = true then (if (x22.length : Int) = 0 then (some (0, 0, 0, 5)) else (some (x299000, x299001, (x22.length : Int), 0))) else (over_Take.l2 k x5 x8 x16 x18 x67 x70 x71 (wrap64 (x72 + 1)) x297000 x297001)))
end
def over_Take.f (k : Nat) (l0 : List Int) : Option (Int × Int × Int × Int) := (over_first.f k (strOfNums l0)).bind fun bt278 => (if bt278.2 = true then ((some (([1, 2] : List Int) : List Int)).bind fun y283 => (over_Take.l0 k (strOfNums l0) bt278.1 (([bt278.1] : List Int)) y283 (y283.length : Int) 0)) else (some (0, 0, 0, 5)))
theorem over_Take.mono_l : ∀ k, (∀ y0 y1 y2 y3 y4 y5, LeO (over_Take.l0 k y0 y1 y2 y3 y4 y5) (over_Take.l0 (k + 1) y0 y1 y2 y3 y4 y5)) ∧ (∀ y0 y1 y2 y3 y4 y5, LeO (over_Take.l1 k y0 y1 y2 y3 y4 y5) (over_Take.l1 (k + 1) y0 y1 y2 y3 y4 y5)) ∧ (∀ y0 y1 y2 y3 y4 y5 y6 y7 y8 y9, LeO (over_Take.l2 k y0 y1 y2 y3 y4 y5 y6 y7 y8 y9) (over_Take.l2 (k + 1) y0 y1 y2 y3 y4 y5 y6 y7 y8 y9)) ∧ (∀ y0 y1 y2 y3 y4 y5 y6 y7 y8 y9 y10 y11 y12 y13 y14, LeO (over_Take.j3 k y0 y1 y2 y3 y4 y5 y6 y7 y8 y9 y10 y11 y12 y13 y14) (over_Take.j3 (k + 1) y0 y1 y2 y3 y4 y5 y6 y7 y8 y9 y10 y11 y12 y13 y14)) ∧ (∀ y0 y1 y2 y3 y4 y5 y6 y7 y8 y9 y10 y11 y12 y13, LeO (over_Take.j4 k y0 y1 y2 y3 y4 y5 y6 y7 y8 y9 y10 y11 y12 y13) (over_Take.j4 (k + 1) y0 y1 y2 y3 y4 y5 y6 y7 y8 y9 y10 y11 y12 y13))
 | 0 => ⟨fun _ _ _ _ _ _ r h => by simp [over_Take.l0] at h, fun _ _ _ _ _ _ r h => by simp [over_Take.l1] at h, fun _ _ _ _ _ _ _ _ _ _ r h => by simp [over_Take.l2] at h, fun _ _ _ _ _ _ _ _ _ _ _ _ _ _ _ r h => by simp [over_Take.j3] at h, fun _ _ _ _ _ _ _ _ _ _ _ _ _ _ r h => by simp [over_Take.j4] at h⟩
 | k + 1 => by
  obtain ⟨ih0, ih1, ih2, ih3, ih4⟩ := over_Take.mono_l k
  refine ⟨?_, ?_, ?_, ?_, ?_⟩
  ·intro y0 y1 y2 y3 y4 y5
   unfold over_Take.l0
   repeat' first
   | (with_reducible exact ih0 _ _ _ _ _ _)
   | (with_reducible exact ih1 _ _ _ _ _ _)
   | (with_reducible exact ih2 _ _ _ _ _ _ _ _ _ _)
   | (with_reducible exact ih3 _ _ _ _ _ _ _ _ _ _ _ _ _ _ _)
   | (with_reducible exact ih4 _ _ _ _ _ _ _ _ _ _ _ _ _ _)
   | (with_reducible exact over_One.mono _ _ _)
   | (with_reducible exact over_first.mono _ _)
   | (with_reducible exact LeO.refl _)
   | (with_reducible exact LeO.none _)
   | (with_reducible refine LeO.ite ?_ ?_)
   | (with_reducible refine LeO.bind ?_ (fun _ => ?_))
  ·intro y0 y1 y2 y3 y4 y5
   unfold over_Take.l1
   repeat' first
   | (with_reducible exact ih0 _ _ _ _ _ _)
   | (with_reducible exact ih1 _ _ _ _ _ _)
   | (with_reducible exact ih2 _ _ _ _ _ _ _ _ _ _)
   | (with_reducible exact ih3 _ _ _ _ _ _ _ _ _ _ _ _ _ _ _)
   | (with_reducible exact ih4 _ _ _ _ _ _ _ _ _ _ _ _ _ _)
   | (with_reducible exact over_One.mono _ _ _)
   | (with_reducible exact over_first.mono _ _)
   | (with_reducible exact LeO.refl _)
   | (with_reducible exact LeO.none _)
   | (with_reducible refine LeO.ite ?_ ?_)
   | (with_reducible refine LeO.bind ?_ (fun _ => ?_))
  ·intro y0 y1 y2 y3 y4 y5 y6 y7 y8 y9
   unfold over_Take.l2
   repeat' first
   | (with_reducible exact ih0 _ _ _ _ _ _)
   | (with_reducible exact ih1 _ _ _ _ _ _)
   | (with_reducible exact ih2 _ _ _ _ _ _ _ _ _ _)
   | (with_reducible exact ih3 _ _ _ _ _ _ _ _ _ _ _ _ _ _ _)
   | (with_reducible exact ih4 _ _ _ _ _ _ _ _ _ _ _ _ _ _)
   | (with_reducible exact over_One.mono _ _ _)
   | (with_reducible exact over_first.mono _ _)
   | (with_reducible exact LeO.refl _)
   | (with_reducible exact LeO.none _)
   | (with_reducible refine LeO.ite ?_ ?_)
   | (with_reducible refine LeO.bind ?_ (fun _ => ?_))
  ·intro y0 y1 y2 y3 y4 y5 y6 y7 y8 y9 y10 y11 y12 y13 y14
   unfold over_Take.j3
   repeat' first
   | (with_reducible exact ih0 _ _ _ _ _ _)
   | (with_reducible exact ih1 _ _ _ _ _ _)
   | (with_reducible exact ih2 _ _ _ _ _ _ _ _ _ _)
   | (with_reducible exact ih3 _ _ _ _ _ _ _ _ _ _ _ _ _ _ _)
   | (with_reducible exact ih4 _ _ _ _ _ _ _ _ _ _ _ _ _ _)
   | (with_reducible exact over_One.mono _ _ _)
   | (with_reducible exact over_first.mono _ _)
   | (with_reducible exact LeO.refl _)
   | (with_reducible exact LeO.none _)
   | (with_reducible refine LeO.ite ?_ ?_)
   | (with_reducible refine LeO.bind ?_ (fun _ => ?_))
  ·intro y0 y1 y2 y3 y4 y5 y6 y7 y8 y9 y10 y11 y12 y13
   unfold over_Take.j4
   repeat' first
   | (with_reducible exact ih0 _ _ _ _ _ _)
   | (with_reducible exact ih1 _ _ _ _ _ _)
   | (with_reducible exact ih2 _ _ _ _ _ _ _ _ _ _)
   | (with_reducible exact ih3 _ _ _ _ _ _ _ _ _ _ _ _ _ _ _)
   | (with_reducible exact ih4 _ _ _ _ _ _ _ _ _ _ _ _ _ _)
   | (with_reducible exact over_One.mono _ _ _)
   | (with_reducible exact over_first.mono _ _)
   | (with_reducible exact LeO.refl _)
   | (with_reducible exact LeO.none _)
   | (with_reducible refine LeO.ite ?_ ?_)
   | (with_reducible refine LeO.bind ?_ (fun _ => ?_))
theorem over_Take.mono : ∀ a0 k, LeO (over_Take.f k a0) (over_Take.f (k + 1) a0) := by
 intro a0 k
 obtain ⟨ih0, ih1, ih2, ih3, ih4⟩ := over_Take.mono_l k
 unfold over_Take.f
 repeat' first
   | (with_reducible exact ih0 _ _ _ _ _ _)
   | (with_reducible exact ih1 _ _ _ _ _ _)
   | (with_reducible exact ih2 _ _ _ _ _ _ _ _ _ _)
   | (with_reducible exact ih3 _ _ _ _ _ _ _ _ _ _ _ _ _ _ _)
   | (with_reducible exact ih4 _ _ _ _ _ _ _ _ _ _ _ _ _ _)
   | (with_reducible exact over_One.mono _ _ _)
   | (with_reducible exact over_first.mono _ _)
   | (with_reducible exact LeO.refl _)
   | (with_reducible exact LeO.none _)
   | (with_reducible refine LeO.ite ?_ ?_)
   | (with_reducible refine LeO.bind ?_ (fun _ => ?_))
theorem over_Take.calls (k : Nat) (A0 : Option Addr) (c0 : Nat) (l0 : List Int) (r1 : Int) (r2 : Int) (r3 : Int) (r4 : Int) (w : World) (hr0 : Kd.C (Kd.int .u8) w A0 l0.length l0) (hc0 : l0.length ≤ c0) (hG : GOK [0,2] w) (h : over_Take.f k l0 = some (r1, r2, r3, r4)) :
  Calls Tryd.prog 20 #[.slice A0 l0.length c0] w fun e w' => e = .returned (.tuple #[.agg #[.int .i32 r1, .int .u8 r2], .int .i64 r3, .int .i64 r4]) ∧ Below w.heap.size w w' := by
 have hu35 := Tryd.underlying35
 have HG := Aside0.mk hG
 clear hG
 have HR0 := Aside0.mk hr0
 have HC0 := Aside0.mk hc0
 clear hr0 hc0
 have HB := Aside0.mk (Below.refl w.heap.size w)
 have H : ((over_first.f k (strOfNums l0)).bind fun bt278 => (if bt278.2 = true then ((some (([1, 2] : List Int) : List Int)).bind fun y283 => (over_Take.l0 k (strOfNums l0) bt278.1 (([bt278.1] : List Int)) y283 (y283.length : Int) 0)) else (some (0, 0, 0, 5)))) = some (r1, r2, r3, r4) := h
 clear h
 replace H := Option.bind_eq_some_iff.mp H
 obtain ⟨⟨t278, t279⟩, A20, H⟩ := H
 replace H : (if t279 = true then ((some (([1, 2] : List Int) : List Int)).bind fun y283 => (over_Take.l0 k (strOfNums l0) t278 (([t278] : List Int)) y283 (y283.length : Int) 0)) else (some (0, 0, 0, 5))) = some (r1, r2, r3, r4) := H
 have A2 := Aside0.mk A20
 clear A20
 by_cases c3 : t279 = true
 ·subst c3
  have H1 : ((some (([1, 2] : List Int) : List Int)).bind fun y283 => (over_Take.l0 k (strOfNums l0) t278 (([t278] : List Int)) y283 (y283.length : Int) 0)) = some (r1, r2, r3, r4) := by rw [if_pos rfl] at H; exact H
  clear H
  have H := H1
  clear H1
  obtain ⟨y280, hy280⟩ : ∃ y_ : List Int, y_ = (([t278] : List Int)) := ⟨_, rfl⟩
  replace H : ((some (([1, 2] : List Int) : List Int)).bind fun y283 => (over_Take.l0 k (strOfNums l0) t278 y280 y283 (y283.length : Int) 0)) = some (r1, r2, r3, r4) := hyA hy280 H
  have Ny280 := Aside0.mk hy280
  clear hy280
  obtain ⟨y283, hy283⟩ : ∃ y_ : List Int, y_ = (([1, 2] : List Int)) := ⟨_, rfl⟩
  replace H : (over_Take.l0 k (strOfNums l0) t278 y280 y283 (y283.length : Int) 0) = some (r1, r2, r3, r4) := hyA hy283 H
  have Ny283 := Aside0.mk hy283
  clear hy283
  have H' := Aside0.mk H
  clear H
  go_enter Tryd.func20, Tryd.ntmps20
  go_wp2_with (first | ((with_reducible refine gate_dst (N := 2) rfl ?_); refine box_event ?hg (N := 2) ?hd (cs := #[.int .i32 0, .int .u8 0]) (t := 35) ?hr ?_; (case hd => rfl); (case hg => rfl); (case hr => first | (go_simp; done) | (go_simp; rfl)); intro gb277 hg w4 hbox hb; have BK277 := Aside0.mk (hbox); have GW277 := Aside0.mk ((geA hg : w.heap.size ≤ gb277)); have GE277 := Aside0.mk ((geA hg : w.heap.size ≤ gb277)); replace HB := Aside0.mk (below_step bA hb); clear hb hbox hg; have hcv5 := Kd.C_string (P := Tryd.prog) (A := A0) (c := c0) Tryd.underlying25 Tryd.underlying5 Tryd.underlying9 (Kd.C_below HR0.out HB.out)) | ((with_reducible refine gate_callee (f := 45) rfl ?_); refine goesL_ (some 28) rfl rfl Tryd.func45 (by kernel_rfl) rfl #[.string (strOfNums l0)] rfl aP ?_; (with_reducible refine (over_first.calls k (strOfNums l0) t278 true _ A2.out).mono ?_); rintro e w6 ⟨rfl, hb⟩; refine ⟨_, rfl, ?_⟩; replace BK277 := Aside0.mk (blk_below (g := gb277) (o := .cells #[.int .i32 0, .int .u8 0] 35 (0, 0)) (kB BK277) hb); replace HB := Aside0.mk (below_step bG hb); (try clear hb); (try clear hb2); (try clear hk); (try clear hi)) | ((with_reducible refine gate_dst (N := 35) rfl ?_); refine Kd.R_lit (Kd.int .i32) _ 21 ?hg (N := 35) ?hd (xs := ([t278] : List Int)) (inner := [.int .i32 t278]) (ok := fun _ => True) (okp := fun _ => True) ?hr ?hp (fun _ hk => hk) trivial (Below.refl _ _) (Nat.le_refl _) (by simp) ?_; (case hd => rfl); (case hg => rfl); (case hr => first | (go_simp; done) | (go_simp; rfl)); (case hp => exact (Reps.one (show Kd.M (Kd.int .i32) _ _ _ t278 [.int .i32 t278] from rfl) (Reps.none _ _))); intro v281 w7 ho8 hb hg_ hnew_; clear hg_ hnew_; (first | rw [← Ny280.out] at ho8 | (simp only [Int.reduceToNat] at ho8; rw [← Ny280.out] at ho8)); have HO282 := Aside0.mk (Kd.R_lower ho8 (below_size bG)); replace BK277 := Aside0.mk (blk_below (g := gb277) (o := .cells #[.int .i32 0, .int .u8 0] 35 (0, 0)) (kB BK277) hb); replace HB := Aside0.mk (below_step bG hb); clear hb ho8) | ((with_reducible refine gate_dst (N := 36) rfl ?_); refine Kd.R_lit (Kd.int .i64) _ 3 ?hg (N := 36) ?hd (xs := ([1, 2] : List Int)) (inner := [.int .i64 1, .int .i64 2]) (ok := fun _ => True) (okp := fun _ => True) ?hr ?hp (fun _ hk => hk) trivial (Below.refl _ _) (Nat.le_refl _) (by simp) ?_; (case hd => rfl); (case hg => rfl); (case hr => first | (go_simp; done) | (go_simp; rfl)); (case hp => exact (Reps.one (show Kd.M (Kd.int .i64) _ _ _ 1 [.int .i64 1] from rfl) (Reps.one (show Kd.M (Kd.int .i64) _ _ _ 2 [.int .i64 2] from rfl) (Reps.none _ _)))); intro v284 w9 ho10 hb hg_ hnew_; clear hg_ hnew_; (first | rw [← Ny283.out] at ho10 | (simp only [Int.reduceToNat] at ho10; rw [← Ny283.out] at ho10)); replace HO282 := Aside0.mk (Kd.R_below (kR HO282) hb); have HO285 := Aside0.mk (Kd.R_lower ho10 (below_size bG)); replace BK277 := Aside0.mk (blk_below (g := gb277) (o := .cells #[.int .i32 0, .int .u8 0] 35 (0, 0)) (kB BK277) hb); replace HB := Aside0.mk (below_step bG hb); clear hb ho10; obtain ⟨Ao11, co11, eo11⟩ := Kd.R_slice HO285.out; subst eo11))
  all_goals (try (go_step3; go_wp2_with (first | ((with_reducible refine gate_dst (N := 2) rfl ?_); refine box_event ?hg (N := 2) ?hd (cs := #[.int .i32 0, .int .u8 0]) (t := 35) ?hr ?_; (case hd => rfl); (case hg => rfl); (case hr => first | (go_simp; done) | (go_simp; rfl)); intro gb277 hg w4 hbox hb; have BK277 := Aside0.mk (hbox); have GW277 := Aside0.mk ((geA hg : w.heap.size ≤ gb277)); have GE277 := Aside0.mk ((geA hg : w.heap.size ≤ gb277)); replace HB := Aside0.mk (below_step bA hb); clear hb hbox hg; have hcv5 := Kd.C_string (P := Tryd.prog) (A := A0) (c := c0) Tryd.underlying25 Tryd.underlying5 Tryd.underlying9 (Kd.C_below HR0.out HB.out)) | ((with_reducible refine gate_callee (f := 45) rfl ?_); refine goesL_ (some 28) rfl rfl Tryd.func45 (by kernel_rfl) rfl #[.string (strOfNums l0)] rfl aP ?_; (with_reducible refine (over_first.calls k (strOfNums l0) t278 true _ A2.out).mono ?_); rintro e w6 ⟨rfl, hb⟩; refine ⟨_, rfl, ?_⟩; replace BK277 := Aside0.mk (blk_below (g := gb277) (o := .cells #[.int .i32 0, .int .u8 0] 35 (0, 0)) (kB BK277) hb); replace HB := Aside0.mk (below_step bG hb); (try clear hb); (try clear hb2); (try clear hk); (try clear hi)) | ((with_reducible refine gate_dst (N := 35) rfl ?_); refine Kd.R_lit (Kd.int .i32) _ 21 ?hg (N := 35) ?hd (xs := ([t278] : List Int)) (inner := [.int .i32 t278]) (ok := fun _ => True) (okp := fun _ => True) ?hr ?hp (fun _ hk => hk) trivial (Below.refl _ _) (Nat.le_refl _) (by simp) ?_; (case hd => rfl); (case hg => rfl); (case hr => first | (go_simp; done) | (go_simp; rfl)); (case hp => exact (Reps.one (show Kd.M (Kd.int .i32) _ _ _ t278 [.int .i32 t278] from rfl) (Reps.none _ _))); intro v281 w7 ho8 hb hg_ hnew_; clear hg_ hnew_; (first | rw [← Ny280.out] at ho8 | (simp only [Int.reduceToNat] at ho8; rw [← Ny280.out] at ho8)); have HO282 := Aside0.mk (Kd.R_lower ho8 (below_size bG)); replace BK277 := Aside0.mk (blk_below (g := gb277) (o := .cells #[.int .i32 0, .int .u8 0] 35 (0, 0)) (kB BK277) hb); replace HB := Aside0.mk (below_step bG hb); clear hb ho8) | ((with_reducible refine gate_dst (N := 36) rfl ?_); refine Kd.R_lit (Kd.int .i64) _ 3 ?hg (N := 36) ?hd (xs := ([1, 2] : List Int)) (inner := [.int .i64 1, .int .i64 2]) (ok := fun _ => True) (okp := fun _ => True) ?hr ?hp (fun _ hk => hk) trivial (Below.refl _ _) (Nat.le_refl _) (by simp) ?_; (case hd => rfl); (case hg => rfl); (case hr => first | (go_simp; done) | (go_simp; rfl)); (case hp => exact (Reps.one (show Kd.M (Kd.int .i64) _ _ _ 1 [.int .i64 1] from rfl) (Reps.one (show Kd.M (Kd.int .i64) _ _ _ 2 [.int .i64 2] from rfl) (Reps.none _ _)))); intro v284 w9 ho10 hb hg_ hnew_; clear hg_ hnew_; (first | rw [← Ny283.out] at ho10 | (simp only [Int.reduceToNat] at ho10; rw [← Ny283.out] at ho10)); replace HO282 := Aside0.mk (Kd.R_below (kR HO282) hb); have HO285 := Aside0.mk (Kd.R_lower ho10 (below_size bG)); replace BK277 := Aside0.mk (blk_below (g := gb277) (o := .cells #[.int .i32 0, .int .u8 0] 35 (0, 0)) (kB BK277) hb); replace HB := Aside0.mk (below_step bG hb); clear hb ho10; obtain ⟨Ao11, co11, eo11⟩ := Kd.R_slice HO285.out; subst eo11))))
  all_goals (try (go_step3; go_wp2_with (first | ((with_reducible refine gate_dst (N := 2) rfl ?_); refine box_event ?hg (N := 2) ?hd (cs := #[.int .i32 0, .int .u8 0]) (t := 35) ?hr ?_; (case hd => rfl); (case hg => rfl); (case hr => first | (go_simp; done) | (go_simp; rfl)); intro gb277 hg w4 hbox hb; have BK277 := Aside0.mk (hbox); have GW277 := Aside0.mk ((geA hg : w.heap.size ≤ gb277)); have GE277 := Aside0.mk ((geA hg : w.heap.size ≤ gb277)); replace HB := Aside0.mk (below_step bA hb); clear hb hbox hg; have hcv5 := Kd.C_string (P := Tryd.prog) (A := A0) (c := c0) Tryd.underlying25 Tryd.underlying5 Tryd.underlying9 (Kd.C_below HR0.out HB.out)) | ((with_reducible refine gate_callee (f := 45) rfl ?_); refine goesL_ (some 28) rfl rfl Tryd.func45 (by kernel_rfl) rfl #[.string (strOfNums l0)] rfl aP ?_; (with_reducible refine (over_first.calls k (strOfNums l0) t278 true _ A2.out).mono ?_); rintro e w6 ⟨rfl, hb⟩; refine ⟨_, rfl, ?_⟩; replace BK277 := Aside0.mk (blk_below (g := gb277) (o := .cells #[.int .i32 0, .int .u8 0] 35 (0, 0)) (kB BK277) hb); replace HB := Aside0.mk (below_step bG hb); (try clear hb); (try clear hb2); (try clear hk); (try clear hi)) | ((with_reducible refine gate_dst (N := 35) rfl ?_); refine Kd.R_lit (Kd.int .i32) _ 21 ?hg (N := 35) ?hd (xs := ([t278] : List Int)) (inner := [.int .i32 t278]) (ok := fun _ => True) (okp := fun _ => True) ?hr ?hp (fun _ hk => hk) trivial (Below.refl _ _) (Nat.le_refl _) (by simp) ?_; (case hd => rfl); (case hg => rfl); (case hr => first | (go_simp; done) | (go_simp; rfl)); (case hp => exact (Reps.one (show Kd.M (Kd.int .i32) _ _ _ t278 [.int .i32 t278] from rfl) (Reps.none _ _))); intro v281 w7 ho8 hb hg_ hnew_; clear hg_ hnew_; (first | rw [← Ny280.out] at ho8 | (simp only [Int.reduceToNat] at ho8; rw [← Ny280.out] at ho8)); have HO282 := Aside0.mk (Kd.R_lower ho8 (below_size bG)); replace BK277 := Aside0.mk (blk_below (g := gb277) (o := .cells #[.int .i32 0, .int .u8 0] 35 (0, 0)) (kB BK277) hb); replace HB := Aside0.mk (below_step bG hb); clear hb ho8) | ((with_reducible refine gate_dst (N := 36) rfl ?_); refine Kd.R_lit (Kd.int .i64) _ 3 ?hg (N := 36) ?hd (xs := ([1, 2] : List Int)) (inner := [.int .i64 1, .int .i64 2]) (ok := fun _ => True) (okp := fun _ => True) ?hr ?hp (fun _ hk => hk) trivial (Below.refl _ _) (Nat.le_refl _) (by simp) ?_; (case hd => rfl); (case hg => rfl); (case hr => first | (go_simp; done) | (go_simp; rfl)); (case hp => exact (Reps.one (show Kd.M (Kd.int .i64) _ _ _ 1 [.int .i64 1] from rfl) (Reps.one (show Kd.M (Kd.int .i64) _ _ _ 2 [.int .i64 2] from rfl) (Reps.none _ _)))); intro v284 w9 ho10 hb hg_ hnew_; clear hg_ hnew_; (first | rw [← Ny283.out] at ho10 | (simp only [Int.reduceToNat] at ho10; rw [← Ny283.out] at ho10)); replace HO282 := Aside0.mk (Kd.R_below (kR HO282) hb); have HO285 := Aside0.mk (Kd.R_lower ho10 (below_size bG)); replace BK277 := Aside0.mk (blk_below (g := gb277) (o := .cells #[.int .i32 0, .int .u8 0] 35 (0, 0)) (kB BK277) hb); replace HB := Aside0.mk (below_step bG hb); clear hb ho10; obtain ⟨Ao11, co11, eo11⟩ := Kd.R_slice HO285.out; subst eo11))))
  go_loopg [8, 38] k (fun kq v8 v38 w' => ∃ (x8_1 : List Int) (x38_1 : Int), v38 = .int .i64 x38_1 ∧ Aside0 (over_Take.l0 kq (strOfNums l0) t278 x8_1 y283 (y283.length : Int) x38_1 = some (r1, r2, r3, r4)) ∧ Aside0 (kq ≤ k) ∧ Aside0 (Kd.R (Kd.int .i32) 21 w' w.heap.size (fun _ => True) v8 x8_1) ∧ Aside0 (Kd.R (Kd.int .i64) 3 w' w.heap.size (fun _ => True) (.slice Ao11 y283.length co11) y283) ∧ Aside0 (w'.heap[gb277]? = some (.cells #[.int .i32 0, .int .u8 0] 35 (0, 0))) ∧ Aside0 (Below w.heap.size w w'))
  case atStart => exact ⟨(y280), (0), sA, H', ⟨Nat.le_refl _⟩, ⟨kR HO282⟩, ⟨kR HO285⟩, ⟨kB BK277⟩, ⟨bG⟩⟩
  case round =>
   clear H'
   try clear c2
   try clear p2
   try clear c3
   try clear p3
   try clear c4
   try clear hcv5
   obtain ⟨x8_1, x38_1, rfl, HA, HK1, HO_8, HO_36, BK277, HB⟩ := hrel
   cases gk with
   | zero => exact absurd HA.out (by simp [over_Take.l0])
   | succ k1 =>
    have H := HA.out
    clear HA
    simp only [over_Take.l0] at H
    by_cases c12 : x38_1 < (y283.length : Int)
    ·rw [if_pos c12] at H
     have c12b0 : decide (x38_1 < (y283.length : Int)) = true := decide_eq_true c12
     clear c12
     by_cases c13 : 0 ≤ x38_1
     ·rw [if_pos c13] at H
      have c13b0 : decide (0 ≤ x38_1) = true := decide_eq_true c13
      clear c13
      by_cases c14 : x38_1 < (y283.length : Int)
      ·rw [if_pos c14] at H
       have c14b0 : decide (x38_1 < (y283.length : Int)) = true := decide_eq_true c14
       clear c14
       replace H := Option.bind_eq_some_iff.mp H
       obtain ⟨t287, A150, H⟩ := H
       replace H : ((strings_Repeat.f (⟨#[8]⟩ : ByteArray) (rd y283 x38_1)).bind fun t288 => (if t287.size + t288.size ≤ 9223372036854775807 then ((strings_CutPrefix.f (strOfNums l0) (t287 ++ t288)).bind fun bt289 => (if bt289.2 = true then ((over_first.f k1 bt289.1).bind fun bt291 => (if bt291.2 = true then (if x8_1.length < 35184372088832 then (over_Take.l0 k1 (strOfNums l0) t278 (x8_1 ++ [bt291.1]) y283 (y283.length : Int) (wrap64 (x38_1 + 1))) else (none)) else (over_Take.l0 k1 (strOfNums l0) t278 x8_1 y283 (y283.length : Int) (wrap64 (x38_1 + 1))))) else (over_Take.l0 k1 (strOfNums l0) t278 x8_1 y283 (y283.length : Int) (wrap64 (x38_1 + 1))))) else (none))) = some (r1, r2, r3, r4) := H
       have A15 := Aside0.mk A150
       clear A150
       replace H := Option.bind_eq_some_iff.mp H
       obtain ⟨t288, A160, H⟩ := H
       replace H : (if t287.size + t288.size ≤ 9223372036854775807 then ((strings_CutPrefix.f (strOfNums l0) (t287 ++ t288)).bind fun bt289 => (if bt289.2 = true then ((over_first.f k1 bt289.1).bind fun bt291 => (if bt291.2 = true then (if x8_1.length < 35184372088832 then (over_Take.l0 k1 (strOfNums l0) t278 (x8_1 ++ [bt291.1]) y283 (y283.length : Int) (wrap64 (x38_1 + 1))) else (none)) else (over_Take.l0 k1 (strOfNums l0) t278 x8_1 y283 (y283.length : Int) (wrap64 (x38_1 + 1))))) else (over_Take.l0 k1 (strOfNums l0) t278 x8_1 y283 (y283.length : Int) (wrap64 (x38_1 + 1))))) else (none)) = some (r1, r2, r3, r4) := H
       have A16 := Aside0.mk A160
       clear A160
       by_cases c17 : t287.size + t288.size ≤ 9223372036854775807
       ·rw [if_pos c17] at H
        have c17b0 := eq_true c17
        have c17b1 : decide (t287.size + t288.size ≤ 9223372036854775807) = true := decide_eq_true c17
        try have c17b2 : (9223372036854775807 < t287.size + t288.size) = False := eq_false (Nat.not_lt.2 c17)
        replace H := Option.bind_eq_some_iff.mp H
        obtain ⟨⟨t289, t290⟩, A180, H⟩ := H
        replace H : (if t290 = true then ((over_first.f k1 t289).bind fun bt291 => (if bt291.2 = true then (if x8_1.length < 35184372088832 then (over_Take.l0 k1 (strOfNums l0) t278 (x8_1 ++ [bt291.1]) y283 (y283.length : Int) (wrap64 (x38_1 + 1))) else (none)) else (over_Take.l0 k1 (strOfNums l0) t278 x8_1 y283 (y283.length : Int) (wrap64 (x38_1 + 1))))) else (over_Take.l0 k1 (strOfNums l0) t278 x8_1 y283 (y283.length : Int) (wrap64 (x38_1 + 1)))) = some (r1, r2, r3, r4) := H
        have A18 := Aside0.mk A180
        clear A180
        by_cases c19 : t290 = true
        ·subst c19
         have H1 : ((over_first.f k1 t289).bind fun bt291 => (if bt291.2 = true then (if x8_1.length < 35184372088832 then (over_Take.l0 k1 (strOfNums l0) t278 (x8_1 ++ [bt291.1]) y283 (y283.length : Int) (wrap64 (x38_1 + 1))) else (none)) else (over_Take.l0 k1 (strOfNums l0) t278 x8_1 y283 (y283.length : Int) (wrap64 (x38_1 + 1))))) = some (r1, r2, r3, r4) := by rw [if_pos rfl] at H; exact H
         clear H
         have H := H1
         clear H1
         replace H := Option.bind_eq_some_iff.mp H
         obtain ⟨⟨t291, t292⟩, A200, H⟩ := H
         replace H : (if t292 = true then (if x8_1.length < 35184372088832 then (over_Take.l0 k1 (strOfNums l0) t278 (x8_1 ++ [t291]) y283 (y283.length : Int) (wrap64 (x38_1 + 1))) else (none)) else (over_Take.l0 k1 (strOfNums l0) t278 x8_1 y283 (y283.length : Int) (wrap64 (x38_1 + 1)))) = some (r1, r2, r3, r4) := H
         have A20 := Aside0.mk A200
         clear A200
         by_cases c21 : t292 = true
         ·subst c21
          have H1 : (if x8_1.length < 35184372088832 then (over_Take.l0 k1 (strOfNums l0) t278 (x8_1 ++ [t291]) y283 (y283.length : Int) (wrap64 (x38_1 + 1))) else (none)) = some (r1, r2, r3, r4) := by rw [if_pos rfl] at H; exact H
          clear H
          have H := H1
          clear H1
          by_cases c22 : x8_1.length < 35184372088832
          ·rw [if_pos c22] at H
           have LMc22 := Aside0.mk c22
           clear c22
           obtain ⟨y293, hy293⟩ : ∃ y_ : List Int, y_ = (x8_1 ++ [t291]) := ⟨_, rfl⟩
           replace H : (over_Take.l0 k1 (strOfNums l0) t278 y293 y283 (y283.length : Int) (wrap64 (x38_1 + 1))) = some (r1, r2, r3, r4) := hyA hy293 H
           have Ny293 := Aside0.mk hy293
           clear hy293
           have H' := Aside0.mk H
           clear H
           have p286 : 0 ≤ (x38_1 : Int) := of_decide_eq_true asA
           have q286 : x38_1 < (y283.length : Int) := of_decide_eq_true asA
           obtain ⟨ad286, e286, hx286_0⟩ := Kd.at_int (Kd.R_reads' HO_36.out).2.2 x38_1 p286 q286
           cases e286
           replace p286 := eq_true p286
           replace q286 := eq_true q286
           go_wp2_with (first | ((with_reducible refine gate_callee (f := 38) rfl ?_); refine goesL_ (some 45) rfl rfl Tryd.func38 (by kernel_rfl) rfl #[.string (⟨#[95]⟩ : ByteArray), .int .i64 (rd y283 x38_1)] rfl aP ?_; (with_reducible refine (strings_Repeat.calls (⟨#[95]⟩ : ByteArray) (rd y283 x38_1) t287 _ A15.out).mono ?_); rintro e w23 ⟨rfl, hb⟩; refine ⟨_, rfl, ?_⟩; replace HO_8 := Aside0.mk (Kd.R_below (kR HO_8) hb); replace HO_36 := Aside0.mk (Kd.R_below (kR HO_36) hb); replace BK277 := Aside0.mk (blk_below (g := gb277) (o := .cells #[.int .i32 0, .int .u8 0] 35 (0, 0)) (kB BK277) hb); replace HB := Aside0.mk (below_step bG hb); (try clear hb); (try clear hb2); (try clear hk); (try clear hi)) | ((with_reducible refine gate_callee (f := 38) rfl ?_); refine goesL_ (some 47) rfl rfl Tryd.func38 (by kernel_rfl) rfl #[.string (⟨#[8]⟩ : ByteArray), .int .i64 (rd y283 x38_1)] rfl aP ?_; (with_reducible refine (strings_Repeat.calls (⟨#[8]⟩ : ByteArray) (rd y283 x38_1) t288 _ A16.out).mono ?_); rintro e w24 ⟨rfl, hb⟩; refine ⟨_, rfl, ?_⟩; replace HO_8 := Aside0.mk (Kd.R_below (kR HO_8) hb); replace HO_36 := Aside0.mk (Kd.R_below (kR HO_36) hb); replace BK277 := Aside0.mk (blk_below (g := gb277) (o := .cells #[.int .i32 0, .int .u8 0] 35 (0, 0)) (kB BK277) hb); replace HB := Aside0.mk (below_step bG hb); (try clear hb); (try clear hb2); (try clear hk); (try clear hi)) | ((with_reducible refine gate_callee (f := 46) rfl ?_); refine goesL_ (some 49) rfl rfl Tryd.func46 (by kernel_rfl) rfl #[.string (strOfNums l0), .string (t287 ++ t288)] rfl aP ?_; (with_reducible refine (strings_CutPrefix.calls (strOfNums l0) (t287 ++ t288) t289 true _ A18.out).mono ?_); rintro e w' ⟨rfl, ⟨nd, rfl⟩⟩; refine ⟨_, rfl, ?_⟩) | ((with_reducible refine gate_callee (f := 45) rfl ?_); refine goesL_ (some 55) rfl rfl Tryd.func45 (by kernel_rfl) rfl #[.string t289] rfl aP ?_; (with_reducible refine (over_first.calls k1 t289 t291 true _ A20.out).mono ?_); rintro e w25 ⟨rfl, hb⟩; refine ⟨_, rfl, ?_⟩; replace HO_8 := Aside0.mk (Kd.R_below (kR HO_8) hb); replace HO_36 := Aside0.mk (Kd.R_below (kR HO_36) hb); replace BK277 := Aside0.mk (blk_below (g := gb277) (o := .cells #[.int .i32 0, .int .u8 0] 35 (0, 0)) (kB BK277) hb); replace HB := Aside0.mk (below_step bG hb); (try clear hb); (try clear hb2); (try clear hk); (try clear hi)) | ((with_reducible refine gate_builtin (b := .append) (xs := #[.tmp 59, .tmp 61]) rfl ?_); at_builtin; refine Kd.R_append (Kd.int .i32) (w0 := w) w.heap.size rfl (.tmp 59) (.tmp 61) 77 21 (.int .i32 0) 4 rfl Tryd.underlying77 info21 rfl (by decide) (by omega) u8 x8_1 t291 [.int .i32 t291] (fun _ => True) (fun _ => False) rfl rfl ?aP (fun _ hk => hk.elim) ?aF ?aO ?aB ?aS ?aL ?_; (case aP => exact rfl); (case aB => exact bG); (case aF => exact (fun _ _ => trivial)); (case aO => exact (kR HO_8)); (case aS => exact (below_size bG)); (case aL => have := LMc22.out; omega); intro v294 w26 ho hb hg hat; rw [← Ny293.out] at ho; have n0_ := Aside0.mk (Kd.R_over' (kR HO_36) (Kd.R_typed (kR HO_8)) (by decide) hg); have n1_ := Aside0.mk (blk_grown (g := gb277) (o := .cells #[.int .i32 0, .int .u8 0] 35 (0, 0)) (kB BK277) hg (by first | exact Kd.R_ne HO_8.out BK277.out (by decide) | (intro e_; have h_ := HO_8.out.1 _ e_.symm; simp at h_))); have n2_ := Aside0.mk (hb); have n3_ := Aside0.mk (ho); clear HO_36; clear BK277; clear HB; clear HO_8; have HO_36 := n0_; have BK277 := n1_; have HB := n2_; have HO295 := n3_; clear n0_ n1_ n2_ n3_; clear ho hb hg hat))
           all_goals (try (go_step3; go_wp2_with (first | ((with_reducible refine gate_callee (f := 38) rfl ?_); refine goesL_ (some 45) rfl rfl Tryd.func38 (by kernel_rfl) rfl #[.string (⟨#[95]⟩ : ByteArray), .int .i64 (rd y283 x38_1)] rfl aP ?_; (with_reducible refine (strings_Repeat.calls (⟨#[95]⟩ : ByteArray) (rd y283 x38_1) t287 _ A15.out).mono ?_); rintro e w23 ⟨rfl, hb⟩; refine ⟨_, rfl, ?_⟩; replace HO_8 := Aside0.mk (Kd.R_below (kR HO_8) hb); replace HO_36 := Aside0.mk (Kd.R_below (kR HO_36) hb); replace BK277 := Aside0.mk (blk_below (g := gb277) (o := .cells #[.int .i32 0, .int .u8 0] 35 (0, 0)) (kB BK277) hb); replace HB := Aside0.mk (below_step bG hb); (try clear hb); (try clear hb2); (try clear hk); (try clear hi)) | ((with_reducible refine gate_callee (f := 38) rfl ?_); refine goesL_ (some 47) rfl rfl Tryd.func38 (by kernel_rfl) rfl #[.string (⟨#[8]⟩ : ByteArray), .int .i64 (rd y283 x38_1)] rfl aP ?_; (with_reducible refine (strings_Repeat.calls (⟨#[8]⟩ : ByteArray) (rd y283 x38_1) t288 _ A16.out).mono ?_); rintro e w24 ⟨rfl, hb⟩; refine ⟨_, rfl, ?_⟩; replace HO_8 := Aside0.mk (Kd.R_below (kR HO_8) hb); replace HO_36 := Aside0.mk (Kd.R_below (kR HO_36) hb); replace BK277 := Aside0.mk (blk_below (g := gb277) (o := .cells #[.int .i32 0, .int .u8 0] 35 (0, 0)) (kB BK277) hb); replace HB := Aside0.mk (below_step bG hb); (try clear hb); (try clear hb2); (try clear hk); (try clear hi)) | ((with_reducible refine gate_callee (f := 46) rfl ?_); refine goesL_ (some 49) rfl rfl Tryd.func46 (by kernel_rfl) rfl #[.string (strOfNums l0), .string (t287 ++ t288)] rfl aP ?_; (with_reducible refine (strings_CutPrefix.calls (strOfNums l0) (t287 ++ t288) t289 true _ A18.out).mono ?_); rintro e w' ⟨rfl, ⟨nd, rfl⟩⟩; refine ⟨_, rfl, ?_⟩) | ((with_reducible refine gate_callee (f := 45) rfl ?_); refine goesL_ (some 55) rfl rfl Tryd.func45 (by kernel_rfl) rfl #[.string t289] rfl aP ?_; (with_reducible refine (over_first.calls k1 t289 t291 true _ A20.out).mono ?_); rintro e w25 ⟨rfl, hb⟩; refine ⟨_, rfl, ?_⟩; replace HO_8 := Aside0.mk (Kd.R_below (kR HO_8) hb); replace HO_36 := Aside0.mk (Kd.R_below (kR HO_36) hb); replace BK277 := Aside0.mk (blk_below (g := gb277) (o := .cells #[.int .i32 0, .int .u8 0] 35 (0, 0)) (kB BK277) hb); replace HB := Aside0.mk (below_step bG hb); (try clear hb); (try clear hb2); (try clear hk); (try clear hi)) | ((with_reducible refine gate_builtin (b := .append) (xs := #[.tmp 59, .tmp 61]) rfl ?_); at_builtin; refine Kd.R_append (Kd.int .i32) (w0 := w) w.heap.size rfl (.tmp 59) (.tmp 61) 77 21 (.int .i32 0) 4 rfl Tryd.underlying77 info21 rfl (by decide) (by omega) u8 x8_1 t291 [.int .i32 t291] (fun _ => True) (fun _ => False) rfl rfl ?aP (fun _ hk => hk.elim) ?aF ?aO ?aB ?aS ?aL ?_; (case aP => exact rfl); (case aB => exact bG); (case aF => exact (fun _ _ => trivial)); (case aO => exact (kR HO_8)); (case aS => exact (below_size bG)); (case aL => have := LMc22.out; omega); intro v294 w26 ho hb hg hat; rw [← Ny293.out] at ho; have n0_ := Aside0.mk (Kd.R_over' (kR HO_36) (Kd.R_typed (kR HO_8)) (by decide) hg); have n1_ := Aside0.mk (blk_grown (g := gb277) (o := .cells #[.int .i32 0, .int .u8 0] 35 (0, 0)) (kB BK277) hg (by first | exact Kd.R_ne HO_8.out BK277.out (by decide) | (intro e_; have h_ := HO_8.out.1 _ e_.symm; simp at h_))); have n2_ := Aside0.mk (hb); have n3_ := Aside0.mk (ho); clear HO_36; clear BK277; clear HB; clear HO_8; have HO_36 := n0_; have BK277 := n1_; have HB := n2_; have HO295 := n3_; clear n0_ n1_ n2_ n3_; clear ho hb hg hat))))
           all_goals (try (go_step3; go_wp2_with (first | ((with_reducible refine gate_callee (f := 38) rfl ?_); refine goesL_ (some 45) rfl rfl Tryd.func38 (by kernel_rfl) rfl #[.string (⟨#[95]⟩ : ByteArray), .int .i64 (rd y283 x38_1)] rfl aP ?_; (with_reducible refine (strings_Repeat.calls (⟨#[95]⟩ : ByteArray) (rd y283 x38_1) t287 _ A15.out).mono ?_); rintro e w23 ⟨rfl, hb⟩; refine ⟨_, rfl, ?_⟩; replace HO_8 := Aside0.mk (Kd.R_below (kR HO_8) hb); replace HO_36 := Aside0.mk (Kd.R_below (kR HO_36) hb); replace BK277 := Aside0.mk (blk_below (g := gb277) (o := .cells #[.int .i32 0, .int .u8 0] 35 (0, 0)) (kB BK277) hb); replace HB := Aside0.mk (below_step bG hb); (try clear hb); (try clear hb2); (try clear hk); (try clear hi)) | ((with_reducible refine gate_callee (f := 38) rfl ?_); refine goesL_ (some 47) rfl rfl Tryd.func38 (by kernel_rfl) rfl #[.string (⟨#[8]⟩ : ByteArray), .int .i64 (rd y283 x38_1)] rfl aP ?_; (with_reducible refine (strings_Repeat.calls (⟨#[8]⟩ : ByteArray) (rd y283 x38_1) t288 _ A16.out).mono ?_); rintro e w24 ⟨rfl, hb⟩; refine ⟨_, rfl, ?_⟩; replace HO_8 := Aside0.mk (Kd.R_below (kR HO_8) hb); replace HO_36 := Aside0.mk (Kd.R_below (kR HO_36) hb); replace BK277 := Aside0.mk (blk_below (g := gb277) (o := .cells #[.int .i32 0, .int .u8 0] 35 (0, 0)) (kB BK277) hb); replace HB := Aside0.mk (below_step bG hb); (try clear hb); (try clear hb2); (try clear hk); (try clear hi)) | ((with_reducible refine gate_callee (f := 46) rfl ?_); refine goesL_ (some 49) rfl rfl Tryd.func46 (by kernel_rfl) rfl #[.string (strOfNums l0), .string (t287 ++ t288)] rfl aP ?_; (with_reducible refine (strings_CutPrefix.calls (strOfNums l0) (t287 ++ t288) t289 true _ A18.out).mono ?_); rintro e w' ⟨rfl, ⟨nd, rfl⟩⟩; refine ⟨_, rfl, ?_⟩) | ((with_reducible refine gate_callee (f := 45) rfl ?_); refine goesL_ (some 55) rfl rfl Tryd.func45 (by kernel_rfl) rfl #[.string t289] rfl aP ?_; (with_reducible refine (over_first.calls k1 t289 t291 true _ A20.out).mono ?_); rintro e w25 ⟨rfl, hb⟩; refine ⟨_, rfl, ?_⟩; replace HO_8 := Aside0.mk (Kd.R_below (kR HO_8) hb); replace HO_36 := Aside0.mk (Kd.R_below (kR HO_36) hb); replace BK277 := Aside0.mk (blk_below (g := gb277) (o := .cells #[.int .i32 0, .int .u8 0] 35 (0, 0)) (kB BK277) hb); replace HB := Aside0.mk (below_step bG hb); (try clear hb); (try clear hb2); (try clear hk); (try clear hi)) | ((with_reducible refine gate_builtin (b := .append) (xs := #[.tmp 59, .tmp 61]) rfl ?_); at_builtin; refine Kd.R_append (Kd.int .i32) (w0 := w) w.heap.size rfl (.tmp 59) (.tmp 61) 77 21 (.int .i32 0) 4 rfl Tryd.underlying77 info21 rfl (by decide) (by omega) u8 x8_1 t291 [.int .i32 t291] (fun _ => True) (fun _ => False) rfl rfl ?aP (fun _ hk => hk.elim) ?aF ?aO ?aB ?aS ?aL ?_; (case aP => exact rfl); (case aB => exact bG); (case aF => exact (fun _ _ => trivial)); (case aO => exact (kR HO_8)); (case aS => exact (below_size bG)); (case aL => have := LMc22.out; omega); intro v294 w26 ho hb hg hat; rw [← Ny293.out] at ho; have n0_ := Aside0.mk (Kd.R_over' (kR HO_36) (Kd.R_typed (kR HO_8)) (by decide) hg); have n1_ := Aside0.mk (blk_grown (g := gb277) (o := .cells #[.int .i32 0, .int .u8 0] 35 (0, 0)) (kB BK277) hg (by first | exact Kd.R_ne HO_8.out BK277.out (by decide) | (intro e_; have h_ := HO_8.out.1 _ e_.symm; simp at h_))); have n2_ := Aside0.mk (hb); have n3_ := Aside0.mk (ho); clear HO_36; clear BK277; clear HB; clear HO_8; have HO_36 := n0_; have BK277 := n1_; have HB := n2_; have HO295 := n3_; clear n0_ n1_ n2_ n3_; clear ho hb hg hat))))
           go_roundg k1
           case measure => have := HK1.out; omega
           case rel => exact ⟨(y293), (wrap64 (x38_1 + 1)), sA, H', ⟨by have := HK1.out; omega⟩, ⟨kR HO295⟩, ⟨kR HO_36⟩, ⟨kB BK277⟩, ⟨bG⟩⟩
          ·rw [if_neg c22] at H
           exact absurd H (by simp)
         ·replace c21 := Bool.eq_false_iff.mpr c21
          subst c21
          have H1 : (over_Take.l0 k1 (strOfNums l0) t278 x8_1 y283 (y283.length : Int) (wrap64 (x38_1 + 1))) = some (r1, r2, r3, r4) := by rw [if_neg (show ¬ (false = true) by decide)] at H; exact H
          clear H
          have H := H1
          clear H1
          have H' := Aside0.mk H
          clear H
          have p286 : 0 ≤ (x38_1 : Int) := of_decide_eq_true asA
          have q286 : x38_1 < (y283.length : Int) := of_decide_eq_true asA
          obtain ⟨ad286, e286, hx286_0⟩ := Kd.at_int (Kd.R_reads' HO_36.out).2.2 x38_1 p286 q286
          cases e286
          replace p286 := eq_true p286
          replace q286 := eq_true q286
          go_wp2_with (first | ((with_reducible refine gate_callee (f := 38) rfl ?_); refine goesL_ (some 45) rfl rfl Tryd.func38 (by kernel_rfl) rfl #[.string (⟨#[95]⟩ : ByteArray), .int .i64 (rd y283 x38_1)] rfl aP ?_; (with_reducible refine (strings_Repeat.calls (⟨#[95]⟩ : ByteArray) (rd y283 x38_1) t287 _ A15.out).mono ?_); rintro e w27 ⟨rfl, hb⟩; refine ⟨_, rfl, ?_⟩; replace HO_8 := Aside0.mk (Kd.R_below (kR HO_8) hb); replace HO_36 := Aside0.mk (Kd.R_below (kR HO_36) hb); replace BK277 := Aside0.mk (blk_below (g := gb277) (o := .cells #[.int .i32 0, .int .u8 0] 35 (0, 0)) (kB BK277) hb); replace HB := Aside0.mk (below_step bG hb); (try clear hb); (try clear hb2); (try clear hk); (try clear hi)) | ((with_reducible refine gate_callee (f := 38) rfl ?_); refine goesL_ (some 47) rfl rfl Tryd.func38 (by kernel_rfl) rfl #[.string (⟨#[8]⟩ : ByteArray), .int .i64 (rd y283 x38_1)] rfl aP ?_; (with_reducible refine (strings_Repeat.calls (⟨#[8]⟩ : ByteArray) (rd y283 x38_1) t288 _ A16.out).mono ?_); rintro e w28 ⟨rfl, hb⟩; refine ⟨_, rfl, ?_⟩; replace HO_8 := Aside0.mk (Kd.R_below (kR HO_8) hb); replace HO_36 := Aside0.mk (Kd.R_below (kR HO_36) hb); replace BK277 := Aside0.mk (blk_below (g := gb277) (o := .cells #[.int .i32 0, .int .u8 0] 35 (0, 0)) (kB BK277) hb); replace HB := Aside0.mk (below_step bG hb); (try clear hb); (try clear hb2); (try clear hk); (try clear hi)) | ((with_reducible refine gate_callee (f := 46) rfl ?_); refine goesL_ (some 49) rfl rfl Tryd.func46 (by kernel_rfl) rfl #[.string (strOfNums l0), .string (t287 ++ t288)] rfl aP ?_; (with_reducible refine (strings_CutPrefix.calls (strOfNums l0) (t287 ++ t288) t289 true _ A18.out).mono ?_); rintro e w' ⟨rfl, ⟨nd, rfl⟩⟩; refine ⟨_, rfl, ?_⟩) | ((with_reducible refine gate_callee (f := 45) rfl ?_); refine goesL_ (some 55) rfl rfl Tryd.func45 (by kernel_rfl) rfl #[.string t289] rfl aP ?_; (with_reducible refine (over_first.calls k1 t289 t291 false _ A20.out).mono ?_); rintro e w29 ⟨rfl, hb⟩; refine ⟨_, rfl, ?_⟩; replace HO_8 := Aside0.mk (Kd.R_below (kR HO_8) hb); replace HO_36 := Aside0.mk (Kd.R_below (kR HO_36) hb); replace BK277 := Aside0.mk (blk_below (g := gb277) (o := .cells #[.int .i32 0, .int .u8 0] 35 (0, 0)) (kB BK277) hb); replace HB := Aside0.mk (below_step bG hb); (try clear hb); (try clear hb2); (try clear hk); (try clear hi)))
          all_goals (try (go_step3; go_wp2_with (first | ((with_reducible refine gate_callee (f := 38) rfl ?_); refine goesL_ (some 45) rfl rfl Tryd.func38 (by kernel_rfl) rfl #[.string (⟨#[95]⟩ : ByteArray), .int .i64 (rd y283 x38_1)] rfl aP ?_; (with_reducible refine (strings_Repeat.calls (⟨#[95]⟩ : ByteArray) (rd y283 x38_1) t287 _ A15.out).mono ?_); rintro e w27 ⟨rfl, hb⟩; refine ⟨_, rfl, ?_⟩; replace HO_8 := Aside0.mk (Kd.R_below (kR HO_8) hb); replace HO_36 := Aside0.mk (Kd.R_below (kR HO_36) hb); replace BK277 := Aside0.mk (blk_below (g := gb277) (o := .cells #[.int .i32 0, .int .u8 0] 35 (0, 0)) (kB BK277) hb); replace HB := Aside0.mk (below_step bG hb); (try clear hb); (try clear hb2); (try clear hk); (try clear hi)) | ((with_reducible refine gate_callee (f := 38) rfl ?_); refine goesL_ (some 47) rfl rfl Tryd.func38 (by kernel_rfl) rfl #[.string (⟨#[8]⟩ : ByteArray), .int .i64 (rd y283 x38_1)] rfl aP ?_; (with_reducible refine (strings_Repeat.calls (⟨#[8]⟩ : ByteArray) (rd y283 x38_1) t288 _ A16.out).mono ?_); rintro e w28 ⟨rfl, hb⟩; refine ⟨_, rfl, ?_⟩; replace HO_8 := Aside0.mk (Kd.R_below (kR HO_8) hb); replace HO_36 := Aside0.mk (Kd.R_below (kR HO_36) hb); replace BK277 := Aside0.mk (blk_below (g := gb277) (o := .cells #[.int .i32 0, .int .u8 0] 35 (0, 0)) (kB BK277) hb); replace HB := Aside0.mk (below_step bG hb); (try clear hb); (try clear hb2); (try clear hk); (try clear hi)) | ((with_reducible refine gate_callee (f := 46) rfl ?_); refine goesL_ (some 49) rfl rfl Tryd.func46 (by kernel_rfl) rfl #[.string (strOfNums l0), .string (t287 ++ t288)] rfl aP ?_; (with_reducible refine (strings_CutPrefix.calls (strOfNums l0) (t287 ++ t288) t289 true _ A18.out).mono ?_); rintro e w' ⟨rfl, ⟨nd, rfl⟩⟩; refine ⟨_, rfl, ?_⟩) | ((with_reducible refine gate_callee (f := 45) rfl ?_); refine goesL_ (some 55) rfl rfl Tryd.func45 (by kernel_rfl) rfl #[.string t289] rfl aP ?_; (with_reducible refine (over_first.calls k1 t289 t291 false _ A20.out).mono ?_); rintro e w29 ⟨rfl, hb⟩; refine ⟨_, rfl, ?_⟩; replace HO_8 := Aside0.mk (Kd.R_below (kR HO_8) hb); replace HO_36 := Aside0.mk (Kd.R_below (kR HO_36) hb); replace BK277 := Aside0.mk (blk_below (g := gb277) (o := .cells #[.int .i32 0, .int .u8 0] 35 (0, 0)) (kB BK277) hb); replace HB := Aside0.mk (below_step bG hb); (try clear hb); (try clear hb2); (try clear hk); (try clear hi)))))
          all_goals (try (go_step3; go_wp2_with (first | ((with_reducible refine gate_callee (f := 38) rfl ?_); refine goesL_ (some 45) rfl rfl Tryd.func38 (by kernel_rfl) rfl #[.string (⟨#[95]⟩ : ByteArray), .int .i64 (rd y283 x38_1)] rfl aP ?_; (with_reducible refine (strings_Repeat.calls (⟨#[95]⟩ : ByteArray) (rd y283 x38_1) t287 _ A15.out).mono ?_); rintro e w27 ⟨rfl, hb⟩; refine ⟨_, rfl, ?_⟩; replace HO_8 := Aside0.mk (Kd.R_below (kR HO_8) hb); replace HO_36 := Aside0.mk (Kd.R_below (kR HO_36) hb); replace BK277 := Aside0.mk (blk_below (g := gb277) (o := .cells #[.int .i32 0, .int .u8 0] 35 (0, 0)) (kB BK277) hb); replace HB := Aside0.mk (below_step bG hb); (try clear hb); (try clear hb2); (try clear hk); (try clear hi)) | ((with_reducible refine gate_callee (f := 38) rfl ?_); refine goesL_ (some 47) rfl rfl Tryd.func38 (by kernel_rfl) rfl #[.string (⟨#[8]⟩ : ByteArray), .int .i64 (rd y283 x38_1)] rfl aP ?_; (with_reducible refine (strings_Repeat.calls (⟨#[8]⟩ : ByteArray) (rd y283 x38_1) t288 _ A16.out).mono ?_); rintro e w28 ⟨rfl, hb⟩; refine ⟨_, rfl, ?_⟩; replace HO_8 := Aside0.mk (Kd.R_below (kR HO_8) hb); replace HO_36 := Aside0.mk (Kd.R_below (kR HO_36) hb); replace BK277 := Aside0.mk (blk_below (g := gb277) (o := .cells #[.int .i32 0, .int .u8 0] 35 (0, 0)) (kB BK277) hb); replace HB := Aside0.mk (below_step bG hb); (try clear hb); (try clear hb2); (try clear hk); (try clear hi)) | ((with_reducible refine gate_callee (f := 46) rfl ?_); refine goesL_ (some 49) rfl rfl Tryd.func46 (by kernel_rfl) rfl #[.string (strOfNums l0), .string (t287 ++ t288)] rfl aP ?_; (with_reducible refine (strings_CutPrefix.calls (strOfNums l0) (t287 ++ t288) t289 true _ A18.out).mono ?_); rintro e w' ⟨rfl, ⟨nd, rfl⟩⟩; refine ⟨_, rfl, ?_⟩) | ((with_reducible refine gate_callee (f := 45) rfl ?_); refine goesL_ (some 55) rfl rfl Tryd.func45 (by kernel_rfl) rfl #[.string t289] rfl aP ?_; (with_reducible refine (over_first.calls k1 t289 t291 false _ A20.out).mono ?_); rintro e w29 ⟨rfl, hb⟩; refine ⟨_, rfl, ?_⟩; replace HO_8 := Aside0.mk (Kd.R_below (kR HO_8) hb); replace HO_36 := Aside0.mk (Kd.R_below (kR HO_36) hb); replace BK277 := Aside0.mk (blk_below (g := gb277) (o := .cells #[.int .i32 0, .int .u8 0] 35 (0, 0)) (kB BK277) hb); replace HB := Aside0.mk (below_step bG hb); (try clear hb); (try clear hb2); (try clear hk); (try clear hi)))))
          go_roundg k1
          case measure => have := HK1.out; omega
          case rel => exact ⟨(x8_1), (wrap64 (x38_1 + 1)), sA, H', ⟨by have := HK1.out; omega⟩, ⟨kR HO_8⟩, ⟨kR HO_36⟩, ⟨kB BK277⟩, ⟨bG⟩⟩
        ·replace c19 := Bool.eq_false_iff.mpr c19
         subst c19
         have H1 : (over_Take.l0 k1 (strOfNums l0) t278 x8_1 y283 (y283.length : Int) (wrap64 (x38_1 + 1))) = some (r1, r2, r3, r4) := by rw [if_neg (show ¬ (false = true) by decide)] at H; exact H
         clear H
         have H := H1
         clear H1
         have H' := Aside0.mk H
         clear H
         have p286 : 0 ≤ (x38_1 : Int) := of_decide_eq_true asA
         have q286 : x38_1 < (y283.length : Int) := of_decide_eq_true asA
         obtain ⟨ad286, e286, hx286_0⟩ := Kd.at_int (Kd.R_reads' HO_36.out).2.2 x38_1 p286 q286
         cases e286
         replace p286 := eq_true p286
         replace q286 := eq_true q286
         go_wp2_with (first | ((with_reducible refine gate_callee (f := 38) rfl ?_); refine goesL_ (some 45) rfl rfl Tryd.func38 (by kernel_rfl) rfl #[.string (⟨#[95]⟩ : ByteArray), .int .i64 (rd y283 x38_1)] rfl aP ?_; (with_reducible refine (strings_Repeat.calls (⟨#[95]⟩ : ByteArray) (rd y283 x38_1) t287 _ A15.out).mono ?_); rintro e w30 ⟨rfl, hb⟩; refine ⟨_, rfl, ?_⟩; replace HO_8 := Aside0.mk (Kd.R_below (kR HO_8) hb); replace HO_36 := Aside0.mk (Kd.R_below (kR HO_36) hb); replace BK277 := Aside0.mk (blk_below (g := gb277) (o := .cells #[.int .i32 0, .int .u8 0] 35 (0, 0)) (kB BK277) hb); replace HB := Aside0.mk (below_step bG hb); (try clear hb); (try clear hb2); (try clear hk); (try clear hi)) | ((with_reducible refine gate_callee (f := 38) rfl ?_); refine goesL_ (some 47) rfl rfl Tryd.func38 (by kernel_rfl) rfl #[.string (⟨#[8]⟩ : ByteArray), .int .i64 (rd y283 x38_1)] rfl aP ?_; (with_reducible refine (strings_Repeat.calls (⟨#[8]⟩ : ByteArray) (rd y283 x38_1) t288 _ A16.out).mono ?_); rintro e w31 ⟨rfl, hb⟩; refine ⟨_, rfl, ?_⟩; replace HO_8 := Aside0.mk (Kd.R_below (kR HO_8) hb); replace HO_36 := Aside0.mk (Kd.R_below (kR HO_36) hb); replace BK277 := Aside0.mk (blk_below (g := gb277) (o := .cells #[.int .i32 0, .int .u8 0] 35 (0, 0)) (kB BK277) hb); replace HB := Aside0.mk (below_step bG hb); (try clear hb); (try clear hb2); (try clear hk); (try clear hi)) | ((with_reducible refine gate_callee (f := 46) rfl ?_); refine goesL_ (some 49) rfl rfl Tryd.func46 (by kernel_rfl) rfl #[.string (strOfNums l0), .string (t287 ++ t288)] rfl aP ?_; (with_reducible refine (strings_CutPrefix.calls (strOfNums l0) (t287 ++ t288) t289 false _ A18.out).mono ?_); rintro e w' ⟨rfl, ⟨nd, rfl⟩⟩; refine ⟨_, rfl, ?_⟩))
         all_goals (try (go_step3; go_wp2_with (first | ((with_reducible refine gate_callee (f := 38) rfl ?_); refine goesL_ (some 45) rfl rfl Tryd.func38 (by kernel_rfl) rfl #[.string (⟨#[95]⟩ : ByteArray), .int .i64 (rd y283 x38_1)] rfl aP ?_; (with_reducible refine (strings_Repeat.calls (⟨#[95]⟩ : ByteArray) (rd y283 x38_1) t287 _ A15.out).mono ?_); rintro e w30 ⟨rfl, hb⟩; refine ⟨_, rfl, ?_⟩; replace HO_8 := Aside0.mk (Kd.R_below (kR HO_8) hb); replace HO_36 := Aside0.mk (Kd.R_below (kR HO_36) hb); replace BK277 := Aside0.mk (blk_below (g := gb277) (o := .cells #[.int .i32 0, .int .u8 0] 35 (0, 0)) (kB BK277) hb); replace HB := Aside0.mk (below_step bG hb); (try clear hb); (try clear hb2); (try clear hk); (try clear hi)) | ((with_reducible refine gate_callee (f := 38) rfl ?_); refine goesL_ (some 47) rfl rfl Tryd.func38 (by kernel_rfl) rfl #[.string (⟨#[8]⟩ : ByteArray), .int .i64 (rd y283 x38_1)] rfl aP ?_; (with_reducible refine (strings_Repeat.calls (⟨#[8]⟩ : ByteArray) (rd y283 x38_1) t288 _ A16.out).mono ?_); rintro e w31 ⟨rfl, hb⟩; refine ⟨_, rfl, ?_⟩; replace HO_8 := Aside0.mk (Kd.R_below (kR HO_8) hb); replace HO_36 := Aside0.mk (Kd.R_below (kR HO_36) hb); replace BK277 := Aside0.mk (blk_below (g := gb277) (o := .cells #[.int .i32 0, .int .u8 0] 35 (0, 0)) (kB BK277) hb); replace HB := Aside0.mk (below_step bG hb); (try clear hb); (try clear hb2); (try clear hk); (try clear hi)) | ((with_reducible refine gate_callee (f := 46) rfl ?_); refine goesL_ (some 49) rfl rfl Tryd.func46 (by kernel_rfl) rfl #[.string (strOfNums l0), .string (t287 ++ t288)] rfl aP ?_; (with_reducible refine (strings_CutPrefix.calls (strOfNums l0) (t287 ++ t288) t289 false _ A18.out).mono ?_); rintro e w' ⟨rfl, ⟨nd, rfl⟩⟩; refine ⟨_, rfl, ?_⟩))))
         all_goals (try (go_step3; go_wp2_with (first | ((with_reducible refine gate_callee (f := 38) rfl ?_); refine goesL_ (some 45) rfl rfl Tryd.func38 (by kernel_rfl) rfl #[.string (⟨#[95]⟩ : ByteArray), .int .i64 (rd y283 x38_1)] rfl aP ?_; (with_reducible refine (strings_Repeat.calls (⟨#[95]⟩ : ByteArray) (rd y283 x38_1) t287 _ A15.out).mono ?_); rintro e w30 ⟨rfl, hb⟩; refine ⟨_, rfl, ?_⟩; replace HO_8 := Aside0.mk (Kd.R_below (kR HO_8) hb); replace HO_36 := Aside0.mk (Kd.R_below (kR HO_36) hb); replace BK277 := Aside0.mk (blk_below (g := gb277) (o := .cells #[.int .i32 0, .int .u8 0] 35 (0, 0)) (kB BK277) hb); replace HB := Aside0.mk (below_step bG hb); (try clear hb); (try clear hb2); (try clear hk); (try clear hi)) | ((with_reducible refine gate_callee (f := 38) rfl ?_); refine goesL_ (some 47) rfl rfl Tryd.func38 (by kernel_rfl) rfl #[.string (⟨#[8]⟩ : ByteArray), .int .i64 (rd y283 x38_1)] rfl aP ?_; (with_reducible refine (strings_Repeat.calls (⟨#[8]⟩ : ByteArray) (rd y283 x38_1) t288 _ A16.out).mono ?_); rintro e w31 ⟨rfl, hb⟩; refine ⟨_, rfl, ?_⟩; replace HO_8 := Aside0.mk (Kd.R_below (kR HO_8) hb); replace HO_36 := Aside0.mk (Kd.R_below (kR HO_36) hb); replace BK277 := Aside0.mk (blk_below (g := gb277) (o := .cells #[.int .i32 0, .int .u8 0] 35 (0, 0)) (kB BK277) hb); replace HB := Aside0.mk (below_step bG hb); (try clear hb); (try clear hb2); (try clear hk); (try clear hi)) | ((with_reducible refine gate_callee (f := 46) rfl ?_); refine goesL_ (some 49) rfl rfl Tryd.func46 (by kernel_rfl) rfl #[.string (strOfNums l0), .string (t287 ++ t288)] rfl aP ?_; (with_reducible refine (strings_CutPrefix.calls (strOfNums l0) (t287 ++ t288) t289 false _ A18.out).mono ?_); rintro e w' ⟨rfl, ⟨nd, rfl⟩⟩; refine ⟨_, rfl, ?_⟩))))
         go_roundg k1
         case measure => have := HK1.out; omega
         case rel => exact ⟨(x8_1), (wrap64 (x38_1 + 1)), sA, H', ⟨by have := HK1.out; omega⟩, ⟨kR HO_8⟩, ⟨kR HO_36⟩, ⟨kB BK277⟩, ⟨bG⟩⟩
       ·rw [if_neg c17] at H
        exact absurd H (by simp)
      ·rw [if_neg c14] at H
       exact absurd H (by simp)
     ·rw [if_neg c13] at H
      exact absurd H (by simp)
    ·rw [if_neg c12] at H
     have c12b0 : decide (x38_1 < (y283.length : Int)) = false := decide_eq_false c12
     clear c12
     have H' := Aside0.mk H
     clear H
     go_wp2_with (first | ((with_reducible refine gate_dst (N := 15) rfl ?_); refine box_event ?hg (N := 15) ?hd (cs := #[.int .i32 0, .int .u8 0]) (t := 35) ?hr ?_; (case hd => rfl); (case hg => rfl); (case hr => first | (go_simp; done) | (go_simp; rfl)); intro gb296 hg w32 hbox hb; have n0_ := Aside0.mk (Kd.R_below (kR HO_8) hb); have n1_ := Aside0.mk (Kd.R_below (kR HO_36) hb); have n2_ := Aside0.mk (blk_below (g := gb277) (o := .cells #[.int .i32 0, .int .u8 0] 35 (0, 0)) (kB BK277) hb); have n3_ := Aside0.mk (below_step bG hb); have n4_ := Aside0.mk (hbox); have n5_ := Aside0.mk ((geG hg : w.heap.size ≤ gb296)); have n6_ := Aside0.mk ((geG hg : w.heap.size ≤ gb296)); have n7_ := Aside0.mk ((by rw [hg]; exact Nat.ne_of_lt (blk_lt (g := gb277) (o := .cells #[.int .i32 0, .int .u8 0] 35 (0, 0)) (kB BK277)) : gb277 ≠ gb296)); have n8_ := Aside0.mk ((by rw [hg]; exact Nat.ne_of_gt (blk_lt (g := gb277) (o := .cells #[.int .i32 0, .int .u8 0] 35 (0, 0)) (kB BK277)) : gb296 ≠ gb277)); clear HO_8; clear HO_36; clear BK277; clear HB; have HO_8 := n0_; have HO_36 := n1_; have BK277 := n2_; have HB := n3_; have BK296 := n4_; have GW296 := n5_; have GE296 := n6_; have NB277_296 := n7_; have NB296_277 := n8_; clear n0_ n1_ n2_ n3_ n4_ n5_ n6_ n7_ n8_; clear hb hbox hg; have hnb33 := NB296_277.out; have hnc33 := NB277_296.out; have hcz34_0 : w32.cell? ⟨gb296, 0, none⟩ = some (.int .i32 0) := (blk_cell BK296.out 0).trans rfl; have hcz34_1 : w32.cell? ⟨gb296, 1, none⟩ = some (.int .u8 0) := (blk_cell BK296.out 1).trans rfl; have hfz34_0 := blk_frozen BK296.out 0; have hfz34_1 := blk_frozen BK296.out 1; have hgl35 := way_3 (GOK.of_below HG.out HB.out) (by decide); have hgl36 := way_2 (GOK.of_below HG.out HB.out) (by decide); have hgl37 := way_1 (GOK.of_below HG.out HB.out) (by decide); have hgl38 := way_0 (GOK.of_below HG.out HB.out) (by decide); (try (have hgn39 := (show (gb277 = 0) = False from eq_false (fun e_ => by have h1_ := GE277.out; have h2_ := World.block_lt_of_cell? _ _ (way_0 HG.out (by decide)); simp only at h2_; omega)); have hgn39s := (show (0 = gb277) = False from eq_false (fun e_ => by have h1_ := GE277.out; have h2_ := World.block_lt_of_cell? _ _ (way_0 HG.out (by decide)); simp only at h2_; omega)))); (try (have hgn40 := (show (gb296 = 0) = False from eq_false (fun e_ => by have h1_ := GE296.out; have h2_ := World.block_lt_of_cell? _ _ (way_0 HG.out (by decide)); simp only at h2_; omega)); have hgn40s := (show (0 = gb296) = False from eq_false (fun e_ => by have h1_ := GE296.out; have h2_ := World.block_lt_of_cell? _ _ (way_0 HG.out (by decide)); simp only at h2_; omega))))))
     all_goals (try (go_step3; go_wp2_with (first | ((with_reducible refine gate_dst (N := 15) rfl ?_); refine box_event ?hg (N := 15) ?hd (cs := #[.int .i32 0, .int .u8 0]) (t := 35) ?hr ?_; (case hd => rfl); (case hg => rfl); (case hr => first | (go_simp; done) | (go_simp; rfl)); intro gb296 hg w32 hbox hb; have n0_ := Aside0.mk (Kd.R_below (kR HO_8) hb); have n1_ := Aside0.mk (Kd.R_below (kR HO_36) hb); have n2_ := Aside0.mk (blk_below (g := gb277) (o := .cells #[.int .i32 0, .int .u8 0] 35 (0, 0)) (kB BK277) hb); have n3_ := Aside0.mk (below_step bG hb); have n4_ := Aside0.mk (hbox); have n5_ := Aside0.mk ((geG hg : w.heap.size ≤ gb296)); have n6_ := Aside0.mk ((geG hg : w.heap.size ≤ gb296)); have n7_ := Aside0.mk ((by rw [hg]; exact Nat.ne_of_lt (blk_lt (g := gb277) (o := .cells #[.int .i32 0, .int .u8 0] 35 (0, 0)) (kB BK277)) : gb277 ≠ gb296)); have n8_ := Aside0.mk ((by rw [hg]; exact Nat.ne_of_gt (blk_lt (g := gb277) (o := .cells #[.int .i32 0, .int .u8 0] 35 (0, 0)) (kB BK277)) : gb296 ≠ gb277)); clear HO_8; clear HO_36; clear BK277; clear HB; have HO_8 := n0_; have HO_36 := n1_; have BK277 := n2_; have HB := n3_; have BK296 := n4_; have GW296 := n5_; have GE296 := n6_; have NB277_296 := n7_; have NB296_277 := n8_; clear n0_ n1_ n2_ n3_ n4_ n5_ n6_ n7_ n8_; clear hb hbox hg; have hnb33 := NB296_277.out; have hnc33 := NB277_296.out; have hcz34_0 : w32.cell? ⟨gb296, 0, none⟩ = some (.int .i32 0) := (blk_cell BK296.out 0).trans rfl; have hcz34_1 : w32.cell? ⟨gb296, 1, none⟩ = some (.int .u8 0) := (blk_cell BK296.out 1).trans rfl; have hfz34_0 := blk_frozen BK296.out 0; have hfz34_1 := blk_frozen BK296.out 1; have hgl35 := way_3 (GOK.of_below HG.out HB.out) (by decide); have hgl36 := way_2 (GOK.of_below HG.out HB.out) (by decide); have hgl37 := way_1 (GOK.of_below HG.out HB.out) (by decide); have hgl38 := way_0 (GOK.of_below HG.out HB.out) (by decide); (try (have hgn39 := (show (gb277 = 0) = False from eq_false (fun e_ => by have h1_ := GE277.out; have h2_ := World.block_lt_of_cell? _ _ (way_0 HG.out (by decide)); simp only at h2_; omega)); have hgn39s := (show (0 = gb277) = False from eq_false (fun e_ => by have h1_ := GE277.out; have h2_ := World.block_lt_of_cell? _ _ (way_0 HG.out (by decide)); simp only at h2_; omega)))); (try (have hgn40 := (show (gb296 = 0) = False from eq_false (fun e_ => by have h1_ := GE296.out; have h2_ := World.block_lt_of_cell? _ _ (way_0 HG.out (by decide)); simp only at h2_; omega)); have hgn40s := (show (0 = gb296) = False from eq_false (fun e_ => by have h1_ := GE296.out; have h2_ := World.block_lt_of_cell? _ _ (way_0 HG.out (by decide)); simp only at h2_; omega))))))))
     all_goals (try (go_step3; go_wp2_with (first | ((with_reducible refine gate_dst (N := 15) rfl ?_); refine box_event ?hg (N := 15) ?hd (cs := #[.int .i32 0, .int .u8 0]) (t := 35) ?hr ?_; (case hd => rfl); (case hg => rfl); (case hr => first | (go_simp; done) | (go_simp; rfl)); intro gb296 hg w32 hbox hb; have n0_ := Aside0.mk (Kd.R_below (kR HO_8) hb); have n1_ := Aside0.mk (Kd.R_below (kR HO_36) hb); have n2_ := Aside0.mk (blk_below (g := gb277) (o := .cells #[.int .i32 0, .int .u8 0] 35 (0, 0)) (kB BK277) hb); have n3_ := Aside0.mk (below_step bG hb); have n4_ := Aside0.mk (hbox); have n5_ := Aside0.mk ((geG hg : w.heap.size ≤ gb296)); have n6_ := Aside0.mk ((geG hg : w.heap.size ≤ gb296)); have n7_ := Aside0.mk ((by rw [hg]; exact Nat.ne_of_lt (blk_lt (g := gb277) (o := .cells #[.int .i32 0, .int .u8 0] 35 (0, 0)) (kB BK277)) : gb277 ≠ gb296)); have n8_ := Aside0.mk ((by rw [hg]; exact Nat.ne_of_gt (blk_lt (g := gb277) (o := .cells #[.int .i32 0, .int .u8 0] 35 (0, 0)) (kB BK277)) : gb296 ≠ gb277)); clear HO_8; clear HO_36; clear BK277; clear HB; have HO_8 := n0_; have HO_36 := n1_; have BK277 := n2_; have HB := n3_; have BK296 := n4_; have GW296 := n5_; have GE296 := n6_; have NB277_296 := n7_; have NB296_277 := n8_; clear n0_ n1_ n2_ n3_ n4_ n5_ n6_ n7_ n8_; clear hb hbox hg; have hnb33 := NB296_277.out; have hnc33 := NB277_296.out; have hcz34_0 : w32.cell? ⟨gb296, 0, none⟩ = some (.int .i32 0) := (blk_cell BK296.out 0).trans rfl; have hcz34_1 : w32.cell? ⟨gb296, 1, none⟩ = some (.int .u8 0) := (blk_cell BK296.out 1).trans rfl; have hfz34_0 := blk_frozen BK296.out 0; have hfz34_1 := blk_frozen BK296.out 1; have hgl35 := way_3 (GOK.of_below HG.out HB.out) (by decide); have hgl36 := way_2 (GOK.of_below HG.out HB.out) (by decide); have hgl37 := way_1 (GOK.of_below HG.out HB.out) (by decide); have hgl38 := way_0 (GOK.of_below HG.out HB.out) (by decide); (try (have hgn39 := (show (gb277 = 0) = False from eq_false (fun e_ => by have h1_ := GE277.out; have h2_ := World.block_lt_of_cell? _ _ (way_0 HG.out (by decide)); simp only at h2_; omega)); have hgn39s := (show (0 = gb277) = False from eq_false (fun e_ => by have h1_ := GE277.out; have h2_ := World.block_lt_of_cell? _ _ (way_0 HG.out (by decide)); simp only at h2_; omega)))); (try (have hgn40 := (show (gb296 = 0) = False from eq_false (fun e_ => by have h1_ := GE296.out; have h2_ := World.block_lt_of_cell? _ _ (way_0 HG.out (by decide)); simp only at h2_; omega)); have hgn40s := (show (0 = gb296) = False from eq_false (fun e_ => by have h1_ := GE296.out; have h2_ := World.block_lt_of_cell? _ _ (way_0 HG.out (by decide)); simp only at h2_; omega))))))))
     go_loopg [16, 67] k1 (fun kq v16 v67 w' => ∃ (x16_2 : Int) (x67_2 : Int) (x297000_2 : Int) (x297001_2 : Int), v16 = .int .i64 x16_2 ∧ v67 = .int .i64 x67_2 ∧ Aside0 (over_Take.l1 kq (strOfNums l0) x8_1 x16_2 x67_2 x297000_2 x297001_2 = some (r1, r2, r3, r4)) ∧ Aside0 (kq ≤ k1) ∧ Aside0 (Kd.R (Kd.int .i32) 21 w' w.heap.size (fun _ => True) u8 x8_1) ∧ Aside0 (w'.heap[gb277]? = some (.cells #[.int .i32 0, .int .u8 0] 35 (0, 0))) ∧ Aside0 (w'.heap[gb296]? = some (.cells #[.int .i32 x297000_2, .int .u8 x297001_2] 35 (0, 0))) ∧ Aside0 (Below w.heap.size w w'))
     case atStart => exact ⟨(0), (0), (t278), (0), sA, sA, H', ⟨Nat.le_refl _⟩, ⟨by (with_reducible repeat (first | apply Kd.R_alloc | apply Kd.R_drewN | apply Kd.R_drew)); exact Kd.R_mono (Kd.R_far (p := ⟨gb296, 1, none⟩) (Kd.R_far (p := ⟨gb296, 0, none⟩) (Kd.R_types HO_8.out BK296.out (by decide)) (fun _ hk => hk.2) (.int .i32 t278)) (fun _ hk => hk.2) (.int .u8 0)) (fun _ hk => trivial)⟩, ⟨by (with_reducible repeat (first | refine blk_drewN ?_ _ | refine blk_drew ?_ | refine blk_alloc ?_ _)); refine blk_far ?_ NB277_296.out _; (with_reducible repeat (first | refine blk_drewN ?_ _ | refine blk_drew ?_ | refine blk_alloc ?_ _)); refine blk_far ?_ NB277_296.out _; (with_reducible repeat (first | refine blk_drewN ?_ _ | refine blk_drew ?_ | refine blk_alloc ?_ _)); exact BK277.out⟩, ⟨by (with_reducible repeat (first | refine blk_drewN ?_ _ | refine blk_drew ?_ | refine blk_alloc ?_ _)); refine blk_put (cs := #[.int .i32 t278, .int .u8 0]) ?_ 1 _ rfl; (with_reducible repeat (first | refine blk_drewN ?_ _ | refine blk_drew ?_ | refine blk_alloc ?_ _)); refine blk_put (cs := #[.int .i32 0, .int .u8 0]) ?_ 0 _ rfl; (with_reducible repeat (first | refine blk_drewN ?_ _ | refine blk_drew ?_ | refine blk_alloc ?_ _)); exact BK296.out⟩, ⟨bG⟩⟩
     case round =>
      clear H'
      try clear c1
      try clear c2
      try clear p2
      try clear q2
      try clear hx2
      try clear c3
      try clear p3
      try clear c4
      try clear hcv5
      try clear p6
      try clear c12
      try clear c12b0
      try clear c13
      try clear c13b0
      try clear c14
      try clear c14b0
      try clear c17
      try clear c17b0
      try clear c17b1
      try clear c17b2
      try clear c19
      try clear c20
      try clear c21
      try clear c22
      try clear p28
      try clear q28
      try clear hx28
      try clear c33
      try clear c38
      try clear hcz34_0
      try clear hcz34_1
      try clear hfz34_0
      try clear hfz34_1
      try clear hx286_0
      try clear p2
      try clear p286
      try clear p3
      try clear q286
      obtain ⟨x16_2, x67_2, x297000_2, x297001_2, rfl, rfl, HA, HK2, HO_8, BK277, BK296, HB⟩ := hrel
      cases gk with
      | zero => exact absurd HA.out (by simp [over_Take.l1])
      | succ k2 =>
       have H := HA.out
       clear HA
       simp only [over_Take.l1] at H
       by_cases c41 : x67_2 < 4
       ·rw [if_pos c41] at H
        have c41b0 : decide (x67_2 < 4) = true := decide_eq_true c41
        clear c41
        by_cases c42 : 0 ≤ x67_2
        ·rw [if_pos c42] at H
         have c42b0 : decide (0 ≤ x67_2) = true := decide_eq_true c42
         clear c42
         have H' := Aside0.mk H
         clear H
         have hgi43 := way_index (x67_2) (of_decide_eq_true asA) (of_decide_eq_true asA)
         obtain ⟨Ao44, co44, eo44⟩ := Kd.R_slice HO_8.out
         subst eo44
         go_wp2
         all_goals (try (go_step3; go_wp2))
         all_goals (try (go_step3; go_wp2))
         go_loopg [16, 72] k2 (fun kq v16 v72 w' => ∃ (x16_3 : Int) (x72_3 : Int) (x297000_3 : Int) (x297001_3 : Int), v16 = .int .i64 x16_3 ∧ v72 = .int .i64 x72_3 ∧ Aside0 (over_Take.l2 kq (strOfNums l0) x8_1 x16_3 (rd ([3, 2, 1, 0] : List Int) x67_2) x67_2 x8_1 (x8_1.length : Int) x72_3 x297000_3 x297001_3 = some (r1, r2, r3, r4)) ∧ Aside0 (kq ≤ k2) ∧ Aside0 (Kd.R (Kd.int .i32) 21 w' w.heap.size (fun _ => True) (.slice Ao44 x8_1.length co44) x8_1) ∧ Aside0 (Kd.R (Kd.int .i32) 21 w' w.heap.size (fun _ => True) (.slice Ao44 x8_1.length co44) x8_1) ∧ Aside0 (w'.heap[gb277]? = some (.cells #[.int .i32 0, .int .u8 0] 35 (0, 0))) ∧ Aside0 (w'.heap[gb296]? = some (.cells #[.int .i32 x297000_3, .int .u8 x297001_3] 35 (0, 0))) ∧ Aside0 (Below w.heap.size w w'))
         case atStart => exact ⟨(x16_2), (0), (x297000_2), (x297001_2), sA, sA, H', ⟨Nat.le_refl _⟩, ⟨kR HO_8⟩, ⟨kR HO_8⟩, ⟨kB BK277⟩, ⟨kB BK296⟩, ⟨bG⟩⟩
         case round =>
          clear H'
          try clear c1
          try clear c2
          try clear p2
          try clear q2
          try clear hx2
          try clear c3
          try clear p3
          try clear c4
          try clear hcv5
          try clear p6
          try clear c12
          try clear c12b0
          try clear c13
          try clear c13b0
          try clear c14
          try clear c14b0
          try clear c17
          try clear c17b0
          try clear c17b1
          try clear c17b2
          try clear c19
          try clear c20
          try clear c21
          try clear c22
          try clear p28
          try clear q28
          try clear hx28
          try clear c33
          try clear c38
          try clear c41
          try clear c41b0
          try clear c42
          try clear c42b0
          try clear hcz34_0
          try clear hcz34_1
          try clear hfz34_0
          try clear hfz34_1
          try clear hx286_0
          try clear p2
          try clear p28
          try clear p286
          try clear p3
          try clear p6
          try clear q2
          try clear q28
          try clear q286
          obtain ⟨x16_3, x72_3, x297000_3, x297001_3, rfl, rfl, HA, HK3, HO_8, HO_70, BK277, BK296, HB⟩ := hrel
          cases gk with
          | zero => exact absurd HA.out (by simp [over_Take.l2])
          | succ k3 =>
           have H := HA.out
           clear HA
           simp only [over_Take.l2] at H
           by_cases c45 : x72_3 < (x8_1.length : Int)
           ·rw [if_pos c45] at H
            have c45b0 : decide (x72_3 < (x8_1.length : Int)) = true := decide_eq_true c45
            clear c45
            by_cases c46 : 0 ≤ x72_3
            ·rw [if_pos c46] at H
             have c46b0 : decide (0 ≤ x72_3) = true := decide_eq_true c46
             clear c46
             by_cases c47 : x72_3 < (x8_1.length : Int)
             ·rw [if_pos c47] at H
              have c47b0 : decide (x72_3 < (x8_1.length : Int)) = true := decide_eq_true c47
              clear c47
              replace H := Option.bind_eq_some_iff.mp H
              obtain ⟨t299, A480, H⟩ := H
              replace H : (if (rd x8_1 x72_3) = 32 then (over_Take.j3 k3 (strOfNums l0) x8_1 x16_3 (rd ([3, 2, 1, 0] : List Int) x67_2) (rd x8_1 x72_3) t299 true x67_2 x8_1 (x8_1.length : Int) x72_3 x297000_3 x297001_3 (rd x8_1 x72_3) (rd ([3, 2, 1, 0] : List Int) x67_2)) else ((runes_Width.f (rd x8_1 x72_3)).bind fun t302 => (over_Take.j3 k3 (strOfNums l0) x8_1 x16_3 (rd ([3, 2, 1, 0] : List Int) x67_2) (rd x8_1 x72_3) t299 (t302 == 0) x67_2 x8_1 (x8_1.length : Int) x72_3 x297000_3 x297001_3 (rd x8_1 x72_3) (rd ([3, 2, 1, 0] : List Int) x67_2)))) = some (r1, r2, r3, r4) := H
              have A48 := Aside0.mk A480
              clear A480
              have HC49 := Aside0.mk H
              clear H
              have p297 : 0 ≤ (x72_3 : Int) := of_decide_eq_true asA
              have q297 : x72_3 < (x8_1.length : Int) := of_decide_eq_true asA
              obtain ⟨ad297, e297, hx297_0⟩ := Kd.at_int (Kd.R_reads' HO_70.out).2.2 x72_3 p297 q297
              cases e297
              replace p297 := eq_true p297
              replace q297 := eq_true q297
              go_upto_region 24 with (first | ((with_reducible refine gate_dst (N := 21) rfl ?_); refine box_event ?hg (N := 21) ?hd (cs := #[.int .i32 0, .int .u8 0]) (t := 35) ?hr ?_; (case hd => rfl); (case hg => rfl); (case hr => first | (go_simp; done) | (go_simp; rfl)); intro gb298 hg w50 hbox hb; have n0_ := Aside0.mk (Kd.R_below (kR HO_8) hb); have n1_ := Aside0.mk (Kd.R_below (kR HO_70) hb); have n2_ := Aside0.mk (blk_below (g := gb277) (o := .cells #[.int .i32 0, .int .u8 0] 35 (0, 0)) (kB BK277) hb); have n3_ := Aside0.mk (blk_below (g := gb296) (o := .cells #[.int .i32 x297000_3, .int .u8 x297001_3] 35 (0, 0)) (kB BK296) hb); have n4_ := Aside0.mk (below_step bG hb); have n5_ := Aside0.mk (hbox); have n6_ := Aside0.mk ((geG hg : w.heap.size ≤ gb298)); have n7_ := Aside0.mk ((geG hg : w.heap.size ≤ gb298)); have n8_ := Aside0.mk ((by rw [hg]; exact Nat.ne_of_lt (blk_lt (g := gb277) (o := .cells #[.int .i32 0, .int .u8 0] 35 (0, 0)) (kB BK277)) : gb277 ≠ gb298)); have n9_ := Aside0.mk ((by rw [hg]; exact Nat.ne_of_gt (blk_lt (g := gb277) (o := .cells #[.int .i32 0, .int .u8 0] 35 (0, 0)) (kB BK277)) : gb298 ≠ gb277)); have n10_ := Aside0.mk ((by rw [hg]; exact Nat.ne_of_lt (blk_lt (g := gb296) (o := .cells #[.int .i32 x297000_3, .int .u8 x297001_3] 35 (0, 0)) (kB BK296)) : gb296 ≠ gb298)); have n11_ := Aside0.mk ((by rw [hg]; exact Nat.ne_of_gt (blk_lt (g := gb296) (o := .cells #[.int .i32 x297000_3, .int .u8 x297001_3] 35 (0, 0)) (kB BK296)) : gb298 ≠ gb296)); clear HO_8; clear HO_70; clear BK277; clear BK296; clear HB; have HO_8 := n0_; have HO_70 := n1_; have BK277 := n2_; have BK296 := n3_; have HB := n4_; have BK298 := n5_; have GW298 := n6_; have GE298 := n7_; have NB277_298 := n8_; have NB298_277 := n9_; have NB296_298 := n10_; have NB298_296 := n11_; clear n0_ n1_ n2_ n3_ n4_ n5_ n6_ n7_ n8_ n9_ n10_ n11_; clear hb hbox hg; have hnb51 := NB298_277.out; have hnc51 := NB277_298.out; have hnb52 := NB298_296.out; have hnc52 := NB296_298.out; have hcz53_0 : w50.cell? ⟨gb298, 0, none⟩ = some (.int .i32 0) := (blk_cell BK298.out 0).trans rfl; have hcz53_1 : w50.cell? ⟨gb298, 1, none⟩ = some (.int .u8 0) := (blk_cell BK298.out 1).trans rfl; have hfz53_0 := blk_frozen BK298.out 0; have hfz53_1 := blk_frozen BK298.out 1) | ((with_reducible refine gate_callee (f := 15) rfl ?_); refine goesL_ (some 80) rfl rfl Tryd.func15 (by kernel_rfl) rfl #[.agg #[.int .i32 (rd x8_1 x72_3), .int .u8 (rd ([3, 2, 1, 0] : List Int) x67_2)]] rfl aP ?_; (with_reducible refine (over_One.calls k3 (rd x8_1 x72_3) (rd ([3, 2, 1, 0] : List Int) x67_2) t299 _ ?side1 A48.out).mono ?_); (case side1 => exact GOK.of_below (GOK.sub HG.out rfl) bG); rintro e w54 ⟨v300, rfl, ho0, hb⟩; refine ⟨_, rfl, ?_⟩; have n0_ := Aside0.mk (Kd.R_below (by (with_reducible repeat (first | apply Kd.R_alloc | apply Kd.R_drewN | apply Kd.R_drew)); exact (Kd.R_mono (Kd.R_far (p := ⟨gb298, 1, none⟩) (Kd.R_far (p := ⟨gb298, 0, none⟩) (Kd.R_types HO_8.out BK298.out (by decide)) (fun _ hk => hk.2) (.int .i32 (rd x8_1 x72_3))) (fun _ hk => hk.2) (.int .u8 (rd ([3, 2, 1, 0] : List Int) x67_2))) (fun _ h_ => h_.1))) hb); have n1_ := Aside0.mk (Kd.R_below (by (with_reducible repeat (first | apply Kd.R_alloc | apply Kd.R_drewN | apply Kd.R_drew)); exact (Kd.R_mono (Kd.R_far (p := ⟨gb298, 1, none⟩) (Kd.R_far (p := ⟨gb298, 0, none⟩) (Kd.R_types HO_70.out BK298.out (by decide)) (fun _ hk => hk.2) (.int .i32 (rd x8_1 x72_3))) (fun _ hk => hk.2) (.int .u8 (rd ([3, 2, 1, 0] : List Int) x67_2))) (fun _ h_ => h_.1))) hb); have n2_ := Aside0.mk (Kd.V_lower (Kd.V_mono (ok' := fun k_ => some k_ ≠ (.slice (some ad297) x8_1.length co44 : Value).ownBlock ∧ some k_ ≠ (.slice (some ad297) x8_1.length co44 : Value).ownBlock ∧ k_ ≠ gb277 ∧ k_ ≠ gb296 ∧ k_ ≠ gb298) ho0 (fun k_ hk_ => ⟨(Kd.fresh' (Kd.R_lt (by (with_reducible repeat (first | apply Kd.R_alloc | apply Kd.R_drewN | apply Kd.R_drew)); exact (Kd.R_mono (Kd.R_far (p := ⟨gb298, 1, none⟩) (Kd.R_far (p := ⟨gb298, 0, none⟩) (Kd.R_types HO_8.out BK298.out (by decide)) (fun _ hk => hk.2) (.int .i32 (rd x8_1 x72_3))) (fun _ hk => hk.2) (.int .u8 (rd ([3, 2, 1, 0] : List Int) x67_2))) (fun _ h_ => h_.1)))) k_ hk_), (Kd.fresh' (Kd.R_lt (by (with_reducible repeat (first | apply Kd.R_alloc | apply Kd.R_drewN | apply Kd.R_drew)); exact (Kd.R_mono (Kd.R_far (p := ⟨gb298, 1, none⟩) (Kd.R_far (p := ⟨gb298, 0, none⟩) (Kd.R_types HO_70.out BK298.out (by decide)) (fun _ hk => hk.2) (.int .i32 (rd x8_1 x72_3))) (fun _ hk => hk.2) (.int .u8 (rd ([3, 2, 1, 0] : List Int) x67_2))) (fun _ h_ => h_.1)))) k_ hk_), (Kd.freshB (g := gb277) (o := .cells #[.int .i32 0, .int .u8 0] 35 (0, 0)) (by (with_reducible repeat (first | refine blk_drewN ?_ _ | refine blk_drew ?_ | refine blk_alloc ?_ _)); refine blk_far ?_ NB277_298.out _; (with_reducible repeat (first | refine blk_drewN ?_ _ | refine blk_drew ?_ | refine blk_alloc ?_ _)); refine blk_far ?_ NB277_298.out _; (with_reducible repeat (first | refine blk_drewN ?_ _ | refine blk_drew ?_ | refine blk_alloc ?_ _)); exact BK277.out) k_ hk_), (Kd.freshB (g := gb296) (o := .cells #[.int .i32 x297000_3, .int .u8 x297001_3] 35 (0, 0)) (by (with_reducible repeat (first | refine blk_drewN ?_ _ | refine blk_drew ?_ | refine blk_alloc ?_ _)); refine blk_far ?_ NB296_298.out _; (with_reducible repeat (first | refine blk_drewN ?_ _ | refine blk_drew ?_ | refine blk_alloc ?_ _)); refine blk_far ?_ NB296_298.out _; (with_reducible repeat (first | refine blk_drewN ?_ _ | refine blk_drew ?_ | refine blk_alloc ?_ _)); exact BK296.out) k_ hk_), (Kd.freshB (g := gb298) (o := .cells #[.int .i32 (rd x8_1 x72_3), .int .u8 (rd ([3, 2, 1, 0] : List Int) x67_2)] 35 (0, 0)) (by (with_reducible repeat (first | refine blk_drewN ?_ _ | refine blk_drew ?_ | refine blk_alloc ?_ _)); refine blk_put (cs := #[.int .i32 (rd x8_1 x72_3), .int .u8 0]) ?_ 1 _ rfl; (with_reducible repeat (first | refine blk_drewN ?_ _ | refine blk_drew ?_ | refine blk_alloc ?_ _)); refine blk_put (cs := #[.int .i32 0, .int .u8 0]) ?_ 0 _ rfl; (with_reducible repeat (first | refine blk_drewN ?_ _ | refine blk_drew ?_ | refine blk_alloc ?_ _)); exact BK298.out) k_ hk_)⟩)) (below_size bG)); have n3_ := Aside0.mk (blk_below (g := gb277) (o := .cells #[.int .i32 0, .int .u8 0] 35 (0, 0)) (by (with_reducible repeat (first | refine blk_drewN ?_ _ | refine blk_drew ?_ | refine blk_alloc ?_ _)); refine blk_far ?_ NB277_298.out _; (with_reducible repeat (first | refine blk_drewN ?_ _ | refine blk_drew ?_ | refine blk_alloc ?_ _)); refine blk_far ?_ NB277_298.out _; (with_reducible repeat (first | refine blk_drewN ?_ _ | refine blk_drew ?_ | refine blk_alloc ?_ _)); exact BK277.out) hb); have n4_ := Aside0.mk (blk_below (g := gb296) (o := .cells #[.int .i32 x297000_3, .int .u8 x297001_3] 35 (0, 0)) (by (with_reducible repeat (first | refine blk_drewN ?_ _ | refine blk_drew ?_ | refine blk_alloc ?_ _)); refine blk_far ?_ NB296_298.out _; (with_reducible repeat (first | refine blk_drewN ?_ _ | refine blk_drew ?_ | refine blk_alloc ?_ _)); refine blk_far ?_ NB296_298.out _; (with_reducible repeat (first | refine blk_drewN ?_ _ | refine blk_drew ?_ | refine blk_alloc ?_ _)); exact BK296.out) hb); have n5_ := Aside0.mk (blk_below (g := gb298) (o := .cells #[.int .i32 (rd x8_1 x72_3), .int .u8 (rd ([3, 2, 1, 0] : List Int) x67_2)] 35 (0, 0)) (by (with_reducible repeat (first | refine blk_drewN ?_ _ | refine blk_drew ?_ | refine blk_alloc ?_ _)); refine blk_put (cs := #[.int .i32 (rd x8_1 x72_3), .int .u8 0]) ?_ 1 _ rfl; (with_reducible repeat (first | refine blk_drewN ?_ _ | refine blk_drew ?_ | refine blk_alloc ?_ _)); refine blk_put (cs := #[.int .i32 0, .int .u8 0]) ?_ 0 _ rfl; (with_reducible repeat (first | refine blk_drewN ?_ _ | refine blk_drew ?_ | refine blk_alloc ?_ _)); exact BK298.out) hb); have n6_ := Aside0.mk (below_step bG hb); clear HO_8; clear HO_70; clear BK277; clear BK296; clear BK298; clear HB; have HO_8 := n0_; have HO_70 := n1_; have HO301 := n2_; have BK277 := n3_; have BK296 := n4_; have BK298 := n5_; have HB := n6_; clear n0_ n1_ n2_ n3_ n4_ n5_ n6_; (try clear hb); (try clear hb2); (try clear hk); (try clear hi); (try clear ho0)))
              (try simp only [Act.put, List.setIfInBounds_toArray, List.set_cons_zero, List.set_cons_succ])
              go_cut [23] (fun v23 wc => ∃ (kq : Nat) (x23_48 : Bool), v23 = .bool x23_48 ∧ Aside0 (over_Take.j3 kq (strOfNums l0) x8_1 x16_3 (rd ([3, 2, 1, 0] : List Int) x67_2) (rd x8_1 x72_3) t299 x23_48 x67_2 x8_1 (x8_1.length : Int) x72_3 x297000_3 x297001_3 (rd x8_1 x72_3) (rd ([3, 2, 1, 0] : List Int) x67_2) = some (r1, r2, r3, r4)) ∧ Aside0 (kq ≤ k3) ∧ Aside0 (Kd.R (Kd.int .i32) 21 wc w.heap.size (fun _ => True) (.slice (some ad297) x8_1.length co44) x8_1) ∧ Aside0 (Kd.V (Kd.int .u8) 5 wc w.heap.size (fun k_ => some k_ ≠ ((.slice (some ad297) x8_1.length co44) : Value).ownBlock ∧ some k_ ≠ ((.slice (some ad297) x8_1.length co44) : Value).ownBlock ∧ k_ ≠ gb277 ∧ k_ ≠ gb296 ∧ k_ ≠ gb298) v300 t299) ∧ Aside0 (Kd.R (Kd.int .i32) 21 wc w.heap.size (fun _ => True) (.slice (some ad297) x8_1.length co44) x8_1) ∧ Aside0 (wc.heap[gb277]? = some (.cells #[.int .i32 0, .int .u8 0] 35 (0, 0))) ∧ Aside0 (wc.heap[gb296]? = some (.cells #[.int .i32 x297000_3, .int .u8 x297001_3] 35 (0, 0))) ∧ Aside0 (wc.heap[gb298]? = some (.cells #[.int .i32 (rd x8_1 x72_3), .int .u8 (rd ([3, 2, 1, 0] : List Int) x67_2)] 35 (0, 0))) ∧ Aside0 (Below w.heap.size w wc))
              case first =>
               have H := HC49.out
               clear HC49
               by_cases c55 : (rd x8_1 x72_3) = 32
               ·rw [if_pos c55] at H
                have c55b0 : ((rd x8_1 x72_3) == 32) = true := beq_iff_eq.mpr c55
                have c55b1 : ((rd x8_1 x72_3) != 32) = false := bne_eq_false_iff_eq.mpr c55
                clear c55
                (first | rw [c55b0] | (simp only [i64_w, i32_w]; rw [c55b0]) | skip)
                have H' := Aside0.mk H
                clear H
                go_wp2
                all_goals (try (go_step3; go_wp2))
                all_goals (try (go_step3; go_wp2))
                go_meet
                case rel => exact ⟨_, (true), sA, H', ⟨by have := HK1.out; have := HK2.out; have := HK3.out; first | omega | exact Nat.le_refl _⟩, ⟨kR HO_8⟩, ⟨kV HO301⟩, ⟨kR HO_70⟩, ⟨kB BK277⟩, ⟨kB BK296⟩, ⟨kB BK298⟩, ⟨bG⟩⟩
               ·rw [if_neg c55] at H
                have c55b0 : ((rd x8_1 x72_3) == 32) = false := beq_eq_false_iff_ne.mpr c55
                have c55b1 : ((rd x8_1 x72_3) != 32) = true := bne_iff_ne.mpr c55
                (first | rw [c55b0] | (simp only [i64_w, i32_w]; rw [c55b0]) | skip)
                replace H := Option.bind_eq_some_iff.mp H
                obtain ⟨t302, A560, H⟩ := H
                replace H : (over_Take.j3 k3 (strOfNums l0) x8_1 x16_3 (rd ([3, 2, 1, 0] : List Int) x67_2) (rd x8_1 x72_3) t299 (t302 == 0) x67_2 x8_1 (x8_1.length : Int) x72_3 x297000_3 x297001_3 (rd x8_1 x72_3) (rd ([3, 2, 1, 0] : List Int) x67_2)) = some (r1, r2, r3, r4) := H
                have A56 := Aside0.mk A560
                clear A560
                have H' := Aside0.mk H
                clear H
                go_wp2_with (first | (go_at_call 47; (with_reducible refine (runes_Width.calls (rd x8_1 x72_3) t302 _ ?side1 A56.out).mono ?_); (case side1 => exact GOK.of_below (GOK.sub HG.out rfl) bG); rintro e w' ⟨rfl, ⟨nd, rfl⟩⟩))
                all_goals (try (go_step3; go_wp2_with (first | (go_at_call 47; (with_reducible refine (runes_Width.calls (rd x8_1 x72_3) t302 _ ?side1 A56.out).mono ?_); (case side1 => exact GOK.of_below (GOK.sub HG.out rfl) bG); rintro e w' ⟨rfl, ⟨nd, rfl⟩⟩))))
                all_goals (try (go_step3; go_wp2_with (first | (go_at_call 47; (with_reducible refine (runes_Width.calls (rd x8_1 x72_3) t302 _ ?side1 A56.out).mono ?_); (case side1 => exact GOK.of_below (GOK.sub HG.out rfl) bG); rintro e w' ⟨rfl, ⟨nd, rfl⟩⟩))))
                go_meet
                case rel => exact ⟨_, ((t302 == 0)), sA, H', ⟨by have := HK1.out; have := HK2.out; have := HK3.out; first | omega | exact Nat.le_refl _⟩, ⟨kR HO_8⟩, ⟨kV HO301⟩, ⟨kR HO_70⟩, ⟨kB BK277⟩, ⟨kB BK296⟩, ⟨kB BK298⟩, ⟨bG⟩⟩
              case rest =>
               clear HC49
               try clear c1
               try clear c2
               try clear p2
               try clear q2
               try clear hx2
               try clear c3
               try clear p3
               try clear c4
               try clear c5
               try clear hcv5
               try clear p6
               try clear c12
               try clear c12b0
               try clear c13
               try clear c13b0
               try clear c14
               try clear c14b0
               try clear c15
               try clear c17
               try clear c17b0
               try clear c17b1
               try clear c17b2
               try clear c19
               try clear c20
               try clear c21
               try clear c22
               try clear p28
               try clear q28
               try clear hx28
               try clear p29
               try clear q29
               try clear hx29
               try clear c33
               try clear c38
               try clear c41
               try clear c41b0
               try clear c42
               try clear c42b0
               try clear c45
               try clear c45b0
               try clear c46
               try clear c46b0
               try clear c47
               try clear c47b0
               try clear c51
               try clear c52
               try clear c55
               try clear c55b0
               try clear c55b1
               try clear hcz34_0
               try clear hcz34_1
               try clear hcz53_0
               try clear hcz53_1
               try clear hfz34_0
               try clear hfz34_1
               try clear hfz53_0
               try clear hfz53_1
               try clear hx286_0
               try clear hx297_0
               try clear p2
               try clear p28
               try clear p286
               try clear p297
               try clear p3
               try clear p6
               try clear q2
               try clear q28
               try clear q286
               try clear q297
               obtain ⟨kq, x23_48, rfl, HA, HJ48, HO_8, HO_22, HO_70, BK277, BK296, BK298, HB⟩ := hcut
               cases kq with
               | zero => exact absurd HA.out (by simp [over_Take.j3])
               | succ kj48 =>
                have H := HA.out
                clear HA
                simp only [over_Take.j3] at H
                have HC57 := Aside0.mk H
                clear H
                go_upto_region 25 with (fail)
                go_cut [96] (fun v96 wc => ∃ (kq : Nat) (x96_56 : Bool), v96 = .bool x96_56 ∧ Aside0 (over_Take.j4 kq (strOfNums l0) x8_1 x16_3 (rd ([3, 2, 1, 0] : List Int) x67_2) t299 x67_2 x8_1 (x8_1.length : Int) x72_3 x96_56 x297000_3 x297001_3 (rd x8_1 x72_3) (rd ([3, 2, 1, 0] : List Int) x67_2) = some (r1, r2, r3, r4)) ∧ Aside0 (kq ≤ kj48) ∧ Aside0 (Kd.R (Kd.int .i32) 21 wc w.heap.size (fun _ => True) (.slice (some ad297) x8_1.length co44) x8_1) ∧ Aside0 (Kd.V (Kd.int .u8) 5 wc w.heap.size (fun k_ => some k_ ≠ ((.slice (some ad297) x8_1.length co44) : Value).ownBlock ∧ some k_ ≠ ((.slice (some ad297) x8_1.length co44) : Value).ownBlock ∧ k_ ≠ gb277 ∧ k_ ≠ gb296 ∧ k_ ≠ gb298) v300 t299) ∧ Aside0 (Kd.R (Kd.int .i32) 21 wc w.heap.size (fun _ => True) (.slice (some ad297) x8_1.length co44) x8_1) ∧ Aside0 (wc.heap[gb277]? = some (.cells #[.int .i32 0, .int .u8 0] 35 (0, 0))) ∧ Aside0 (wc.heap[gb296]? = some (.cells #[.int .i32 x297000_3, .int .u8 x297001_3] 35 (0, 0))) ∧ Aside0 (wc.heap[gb298]? = some (.cells #[.int .i32 (rd x8_1 x72_3), .int .u8 (rd ([3, 2, 1, 0] : List Int) x67_2)] 35 (0, 0))) ∧ Aside0 (Below w.heap.size w wc))
                case first =>
                 have H := HC57.out
                 clear HC57
                 by_cases c58 : x23_48 = true
                 ·subst c58
                  have H1 : (if (rd ([3, 2, 1, 0] : List Int) x67_2) = 0 then (over_Take.j4 kj48 (strOfNums l0) x8_1 x16_3 (rd ([3, 2, 1, 0] : List Int) x67_2) t299 x67_2 x8_1 (x8_1.length : Int) x72_3 ((rd x8_1 x72_3) == 160) x297000_3 x297001_3 (rd x8_1 x72_3) (rd ([3, 2, 1, 0] : List Int) x67_2)) else (over_Take.j4 kj48 (strOfNums l0) x8_1 x16_3 (rd ([3, 2, 1, 0] : List Int) x67_2) t299 x67_2 x8_1 (x8_1.length : Int) x72_3 true x297000_3 x297001_3 (rd x8_1 x72_3) (rd ([3, 2, 1, 0] : List Int) x67_2))) = some (r1, r2, r3, r4) := by rw [if_pos rfl] at H; exact H
                  clear H
                  have H := H1
                  clear H1
                  by_cases c59 : (rd ([3, 2, 1, 0] : List Int) x67_2) = 0
                  ·rw [if_pos c59] at H
                   have c59b0 : ((rd ([3, 2, 1, 0] : List Int) x67_2) == 0) = true := beq_iff_eq.mpr c59
                   have c59b1 : ((rd ([3, 2, 1, 0] : List Int) x67_2) != 0) = false := bne_eq_false_iff_eq.mpr c59
                   clear c59
                   (first | rw [c59b0] | (simp only [i64_w, i32_w]; rw [c59b0]) | skip)
                   have H' := Aside0.mk H
                   clear H
                   go_wp2
                   all_goals (try (go_step3; go_wp2))
                   all_goals (try (go_step3; go_wp2))
                   go_meet
                   case rel => exact ⟨_, (((rd x8_1 x72_3) == 160)), sA, H', ⟨by have := HK1.out; have := HK2.out; have := HK3.out; have := HJ48.out; first | omega | exact Nat.le_refl _⟩, ⟨kR HO_8⟩, ⟨kV HO_22⟩, ⟨kR HO_70⟩, ⟨kB BK277⟩, ⟨kB BK296⟩, ⟨kB BK298⟩, ⟨bG⟩⟩
                  ·rw [if_neg c59] at H
                   have c59b0 : ((rd ([3, 2, 1, 0] : List Int) x67_2) == 0) = false := beq_eq_false_iff_ne.mpr c59
                   have c59b1 : ((rd ([3, 2, 1, 0] : List Int) x67_2) != 0) = true := bne_iff_ne.mpr c59
                   (first | rw [c59b0] | (simp only [i64_w, i32_w]; rw [c59b0]) | skip)
                   have H' := Aside0.mk H
                   clear H
                   go_wp2
                   all_goals (try (go_step3; go_wp2))
                   all_goals (try (go_step3; go_wp2))
                   go_meet
                   case rel => exact ⟨_, (true), sA, H', ⟨by have := HK1.out; have := HK2.out; have := HK3.out; have := HJ48.out; first | omega | exact Nat.le_refl _⟩, ⟨kR HO_8⟩, ⟨kV HO_22⟩, ⟨kR HO_70⟩, ⟨kB BK277⟩, ⟨kB BK296⟩, ⟨kB BK298⟩, ⟨bG⟩⟩
                 ·replace c58 := Bool.eq_false_iff.mpr c58
                  subst c58
                  have H1 : (over_Take.j4 kj48 (strOfNums l0) x8_1 x16_3 (rd ([3, 2, 1, 0] : List Int) x67_2) t299 x67_2 x8_1 (x8_1.length : Int) x72_3 ((rd x8_1 x72_3) == 160) x297000_3 x297001_3 (rd x8_1 x72_3) (rd ([3, 2, 1, 0] : List Int) x67_2)) = some (r1, r2, r3, r4) := by rw [if_neg (show ¬ (false = true) by decide)] at H; exact H
                  clear H
                  have H := H1
                  clear H1
                  have H' := Aside0.mk H
                  clear H
                  go_wp2
                  all_goals (try (go_step3; go_wp2))
                  all_goals (try (go_step3; go_wp2))
                  go_meet
                  case rel => exact ⟨_, (((rd x8_1 x72_3) == 160)), sA, H', ⟨by have := HK1.out; have := HK2.out; have := HK3.out; have := HJ48.out; first | omega | exact Nat.le_refl _⟩, ⟨kR HO_8⟩, ⟨kV HO_22⟩, ⟨kR HO_70⟩, ⟨kB BK277⟩, ⟨kB BK296⟩, ⟨kB BK298⟩, ⟨bG⟩⟩
                case rest =>
                 clear HC57
                 try clear c1
                 try clear c2
                 try clear p2
                 try clear q2
                 try clear hx2
                 try clear c3
                 try clear p3
                 try clear c4
                 try clear c5
                 try clear hcv5
                 try clear p6
                 try clear c12
                 try clear c12b0
                 try clear c13
                 try clear c13b0
                 try clear c14
                 try clear c14b0
                 try clear c15
                 try clear c17
                 try clear c17b0
                 try clear c17b1
                 try clear c17b2
                 try clear c19
                 try clear c20
                 try clear c21
                 try clear c22
                 try clear p28
                 try clear q28
                 try clear hx28
                 try clear p29
                 try clear q29
                 try clear hx29
                 try clear c33
                 try clear c38
                 try clear c41
                 try clear c41b0
                 try clear c42
                 try clear c42b0
                 try clear c45
                 try clear c45b0
                 try clear c46
                 try clear c46b0
                 try clear c47
                 try clear c47b0
                 try clear c51
                 try clear c52
                 try clear c55
                 try clear c55b0
                 try clear c55b1
                 try clear c58
                 try clear c59
                 try clear c59b0
                 try clear c59b1
                 try clear hcz34_0
                 try clear hcz34_1
                 try clear hcz53_0
                 try clear hcz53_1
                 try clear hfz34_0
                 try clear hfz34_1
                 try clear hfz53_0
                 try clear hfz53_1
                 try clear hx286_0
                 try clear hx297_0
                 try clear p2
                 try clear p28
                 try clear p286
                 try clear p29
                 try clear p297
                 try clear p3
                 try clear p6
                 try clear q2
                 try clear q28
                 try clear q286
                 try clear q29
                 try clear q297
                 obtain ⟨kq, x96_56, rfl, HA, HJ56, HO_8, HO_22, HO_70, BK277, BK296, BK298, HB⟩ := hcut
                 cases kq with
                 | zero => exact absurd HA.out (by simp [over_Take.j4])
                 | succ kj56 =>
                  have H := HA.out
                  clear HA
                  simp only [over_Take.j4] at H
                  by_cases c60 : x96_56 = true
                  ·subst c60
                   have H1 : (over_Take.l2 kj56 (strOfNums l0) x8_1 x16_3 (rd ([3, 2, 1, 0] : List Int) x67_2) x67_2 x8_1 (x8_1.length : Int) (wrap64 (x72_3 + 1)) x297000_3 x297001_3) = some (r1, r2, r3, r4) := by rw [if_pos rfl] at H; exact H
                   clear H
                   have H := H1
                   clear H1
                   have H' := Aside0.mk H
                   clear H
                   go_wp2
                   all_goals (try (go_step3; go_wp2))
                   all_goals (try (go_step3; go_wp2))
                   go_roundg kj56
                   case measure => have := HK1.out; have := HK2.out; have := HK3.out; have := HJ48.out; have := HJ56.out; omega
                   case rel => exact ⟨(x16_3), (wrap64 (x72_3 + 1)), (x297000_3), (x297001_3), sA, sA, H', ⟨by have := HK1.out; have := HK2.out; have := HK3.out; have := HJ48.out; have := HJ56.out; omega⟩, ⟨kR HO_8⟩, ⟨kR HO_70⟩, ⟨kB BK277⟩, ⟨kB BK296⟩, ⟨bG⟩⟩
                  ·replace c60 := Bool.eq_false_iff.mpr c60
                   subst c60
                   have H1 : ((strings_HasPrefix.f (strOfNums l0) (strOfNums t299)).bind fun t303 => (if t303 = true then (if (t299.length : Int) = 0 then (some (0, 0, 0, 5)) else (some ((rd x8_1 x72_3), (rd ([3, 2, 1, 0] : List Int) x67_2), (t299.length : Int), 0))) else (over_Take.l2 kj56 (strOfNums l0) x8_1 x16_3 (rd ([3, 2, 1, 0] : List Int) x67_2) x67_2 x8_1 (x8_1.length : Int) (wrap64 (x72_3 + 1)) x297000_3 x297001_3))) = some (r1, r2, r3, r4) := by rw [if_neg (show ¬ (false = true) by decide)] at H; exact H
                   clear H
                   have H := H1
                   clear H1
                   replace H := Option.bind_eq_some_iff.mp H
                   obtain ⟨t303, A610, H⟩ := H
                   replace H : (if t303 = true then (if (t299.length : Int) = 0 then (some (0, 0, 0, 5)) else (some ((rd x8_1 x72_3), (rd ([3, 2, 1, 0] : List Int) x67_2), (t299.length : Int), 0))) else (over_Take.l2 kj56 (strOfNums l0) x8_1 x16_3 (rd ([3, 2, 1, 0] : List Int) x67_2) x67_2 x8_1 (x8_1.length : Int) (wrap64 (x72_3 + 1)) x297000_3 x297001_3)) = some (r1, r2, r3, r4) := H
                   have A61 := Aside0.mk A610
                   clear A610
                   by_cases c62 : t303 = true
                   ·subst c62
                    have H1 : (if (t299.length : Int) = 0 then (some (0, 0, 0, 5)) else (some ((rd x8_1 x72_3), (rd ([3, 2, 1, 0] : List Int) x67_2), (t299.length : Int), 0))) = some (r1, r2, r3, r4) := by rw [if_pos rfl] at H; exact H
                    clear H
                    have H := H1
                    clear H1
                    by_cases c63 : (t299.length : Int) = 0
                    ·rw [if_pos c63] at H
                     have c63b0 : ((t299.length : Int) == 0) = true := beq_iff_eq.mpr c63
                     have c63b1 : ((t299.length : Int) != 0) = false := bne_eq_false_iff_eq.mpr c63
                     clear c63
                     simp only [Option.some.injEq, Prod.mk.injEq] at H
                     obtain ⟨rfl, rfl, rfl, rfl⟩ := H
                     have hcv64 := V_string (P := Tryd.prog) Tryd.underlying25 Tryd.underlying5 Tryd.underlying9 HO_22.out
                     go_wp2_with (first | ((with_reducible refine gate_callee (f := 48) rfl ?_); refine goesL_ (some 100) rfl rfl Tryd.func48 (by kernel_rfl) rfl #[.string (strOfNums l0), .string (strOfNums t299)] rfl aP ?_; (with_reducible refine (strings_HasPrefix.calls (strOfNums l0) (strOfNums t299) true _ A61.out).mono ?_); rintro e w' ⟨rfl, ⟨nd, rfl⟩⟩; refine ⟨_, rfl, ?_⟩; (try (rw [drewN_self wc]; generalize hq_ : World.drewN wc _ = wc; have n0_ : Aside0 (Kd.V (Kd.int .u8) 5 wc w.heap.size (fun k_ => some k_ ≠ (.slice (some ad297) x8_1.length co44 : Value).ownBlock ∧ some k_ ≠ (.slice (some ad297) x8_1.length co44 : Value).ownBlock ∧ k_ ≠ gb277 ∧ k_ ≠ gb296 ∧ k_ ≠ gb298) v300 t299) := ⟨by rw [← hq_]; exact (by (with_reducible repeat (first | apply Kd.V_alloc | apply Kd.V_drewN | apply Kd.V_drew)); exact Kd.V_mono HO_22.out (fun _ hk => ⟨hk.2.1, ⟨hk.1, ⟨hk.2.2.1, ⟨hk.2.2.2.1, hk.2.2.2.2⟩⟩⟩⟩))⟩; have n1_ : Aside0 (Kd.R (Kd.int .i32) 21 wc w.heap.size (fun _ => True) (.slice (some ad297) x8_1.length co44) x8_1) := ⟨by rw [← hq_]; exact (kR HO_70)⟩; have n2_ : Aside0 (Kd.R (Kd.int .i32) 21 wc w.heap.size (fun _ => True) (.slice (some ad297) x8_1.length co44) x8_1) := ⟨by rw [← hq_]; exact (kR HO_8)⟩; have n3_ : Aside0 (wc.heap[gb277]? = some (.cells #[.int .i32 0, .int .u8 0] 35 (0, 0))) := ⟨by rw [← hq_]; exact (kB BK277)⟩; have n4_ : Aside0 (wc.heap[gb296]? = some (.cells #[.int .i32 x297000_3, .int .u8 x297001_3] 35 (0, 0))) := ⟨by rw [← hq_]; exact (kB BK296)⟩; have n5_ : Aside0 (wc.heap[gb298]? = some (.cells #[.int .i32 (rd x8_1 x72_3), .int .u8 (rd ([3, 2, 1, 0] : List Int) x67_2)] 35 (0, 0))) := ⟨by rw [← hq_]; exact (kB BK298)⟩; have n6_ : Aside0 (Below w.heap.size w wc) := ⟨by rw [← hq_]; exact bG⟩; clear HO_22 HO_70 HO_8 BK277 BK296 BK298 HB hq_; have HO_22 := n0_; have HO_70 := n1_; have HO_8 := n2_; have BK277 := n3_; have BK296 := n4_; have BK298 := n5_; have HB := n6_; clear n0_ n1_ n2_ n3_ n4_ n5_ n6_)); have hnb65 := NB298_277.out; have hnc65 := NB277_298.out; have hnb66 := NB298_296.out; have hnc66 := NB296_298.out; have hcz67_0 : wc.cell? ⟨gb298, 0, none⟩ = some (.int .i32 (rd x8_1 x72_3)) := (blk_cell BK298.out 0).trans rfl; have hcz67_1 : wc.cell? ⟨gb298, 1, none⟩ = some (.int .u8 (rd ([3, 2, 1, 0] : List Int) x67_2)) := (blk_cell BK298.out 1).trans rfl; have hfz67_0 := blk_frozen BK298.out 0; have hfz67_1 := blk_frozen BK298.out 1; obtain ⟨Ao68, co68, eo68⟩ := Kd.V_slice HO_22.out; subst eo68; have hnb69 := NB296_277.out; have hnc69 := NB277_296.out; have hcz70_0 : wc.cell? ⟨gb296, 0, none⟩ = some (.int .i32 x297000_3) := (blk_cell BK296.out 0).trans rfl; have hcz70_1 : wc.cell? ⟨gb296, 1, none⟩ = some (.int .u8 x297001_3) := (blk_cell BK296.out 1).trans rfl; have hfz70_0 := blk_frozen BK296.out 0; have hfz70_1 := blk_frozen BK296.out 1; have hcz71_0 : wc.cell? ⟨gb277, 0, none⟩ = some (.int .i32 0) := (blk_cell BK277.out 0).trans rfl; have hcz71_1 : wc.cell? ⟨gb277, 1, none⟩ = some (.int .u8 0) := (blk_cell BK277.out 1).trans rfl; have hfz71_0 := blk_frozen BK277.out 0; have hfz71_1 := blk_frozen BK277.out 1))
                     all_goals (try (go_step3; go_wp2_with (first | ((with_reducible refine gate_callee (f := 48) rfl ?_); refine goesL_ (some 100) rfl rfl Tryd.func48 (by kernel_rfl) rfl #[.string (strOfNums l0), .string (strOfNums t299)] rfl aP ?_; (with_reducible refine (strings_HasPrefix.calls (strOfNums l0) (strOfNums t299) true _ A61.out).mono ?_); rintro e w' ⟨rfl, ⟨nd, rfl⟩⟩; refine ⟨_, rfl, ?_⟩; (try (rw [drewN_self wc]; generalize hq_ : World.drewN wc _ = wc; have n0_ : Aside0 (Kd.V (Kd.int .u8) 5 wc w.heap.size (fun k_ => some k_ ≠ (.slice (some ad297) x8_1.length co44 : Value).ownBlock ∧ some k_ ≠ (.slice (some ad297) x8_1.length co44 : Value).ownBlock ∧ k_ ≠ gb277 ∧ k_ ≠ gb296 ∧ k_ ≠ gb298) v300 t299) := ⟨by rw [← hq_]; exact (by (with_reducible repeat (first | apply Kd.V_alloc | apply Kd.V_drewN | apply Kd.V_drew)); exact Kd.V_mono HO_22.out (fun _ hk => ⟨hk.2.1, ⟨hk.1, ⟨hk.2.2.1, ⟨hk.2.2.2.1, hk.2.2.2.2⟩⟩⟩⟩))⟩; have n1_ : Aside0 (Kd.R (Kd.int .i32) 21 wc w.heap.size (fun _ => True) (.slice (some ad297) x8_1.length co44) x8_1) := ⟨by rw [← hq_]; exact (kR HO_70)⟩; have n2_ : Aside0 (Kd.R (Kd.int .i32) 21 wc w.heap.size (fun _ => True) (.slice (some ad297) x8_1.length co44) x8_1) := ⟨by rw [← hq_]; exact (kR HO_8)⟩; have n3_ : Aside0 (wc.heap[gb277]? = some (.cells #[.int .i32 0, .int .u8 0] 35 (0, 0))) := ⟨by rw [← hq_]; exact (kB BK277)⟩; have n4_ : Aside0 (wc.heap[gb296]? = some (.cells #[.int .i32 x297000_3, .int .u8 x297001_3] 35 (0, 0))) := ⟨by rw [← hq_]; exact (kB BK296)⟩; have n5_ : Aside0 (wc.heap[gb298]? = some (.cells #[.int .i32 (rd x8_1 x72_3), .int .u8 (rd ([3, 2, 1, 0] : List Int) x67_2)] 35 (0, 0))) := ⟨by rw [← hq_]; exact (kB BK298)⟩; have n6_ : Aside0 (Below w.heap.size w wc) := ⟨by rw [← hq_]; exact bG⟩; clear HO_22 HO_70 HO_8 BK277 BK296 BK298 HB hq_; have HO_22 := n0_; have HO_70 := n1_; have HO_8 := n2_; have BK277 := n3_; have BK296 := n4_; have BK298 := n5_; have HB := n6_; clear n0_ n1_ n2_ n3_ n4_ n5_ n6_)); have hnb65 := NB298_277.out; have hnc65 := NB277_298.out; have hnb66 := NB298_296.out; have hnc66 := NB296_298.out; have hcz67_0 : wc.cell? ⟨gb298, 0, none⟩ = some (.int .i32 (rd x8_1 x72_3)) := (blk_cell BK298.out 0).trans rfl; have hcz67_1 : wc.cell? ⟨gb298, 1, none⟩ = some (.int .u8 (rd ([3, 2, 1, 0] : List Int) x67_2)) := (blk_cell BK298.out 1).trans rfl; have hfz67_0 := blk_frozen BK298.out 0; have hfz67_1 := blk_frozen BK298.out 1; obtain ⟨Ao68, co68, eo68⟩ := Kd.V_slice HO_22.out; subst eo68; have hnb69 := NB296_277.out; have hnc69 := NB277_296.out; have hcz70_0 : wc.cell? ⟨gb296, 0, none⟩ = some (.int .i32 x297000_3) := (blk_cell BK296.out 0).trans rfl; have hcz70_1 : wc.cell? ⟨gb296, 1, none⟩ = some (.int .u8 x297001_3) := (blk_cell BK296.out 1).trans rfl; have hfz70_0 := blk_frozen BK296.out 0; have hfz70_1 := blk_frozen BK296.out 1; have hcz71_0 : wc.cell? ⟨gb277, 0, none⟩ = some (.int .i32 0) := (blk_cell BK277.out 0).trans rfl; have hcz71_1 : wc.cell? ⟨gb277, 1, none⟩ = some (.int .u8 0) := (blk_cell BK277.out 1).trans rfl; have hfz71_0 := blk_frozen BK277.out 0; have hfz71_1 := blk_frozen BK277.out 1))))
                     all_goals (try (go_step3; go_wp2_with (first | ((with_reducible refine gate_callee (f := 48) rfl ?_); refine goesL_ (some 100) rfl rfl Tryd.func48 (by kernel_rfl) rfl #[.string (strOfNums l0), .string (strOfNums t299)] rfl aP ?_; (with_reducible refine (strings_HasPrefix.calls (strOfNums l0) (strOfNums t299) true _ A61.out).mono ?_); rintro e w' ⟨rfl, ⟨nd, rfl⟩⟩; refine ⟨_, rfl, ?_⟩; (try (rw [drewN_self wc]; generalize hq_ : World.drewN wc _ = wc; have n0_ : Aside0 (Kd.V (Kd.int .u8) 5 wc w.heap.size (fun k_ => some k_ ≠ (.slice (some ad297) x8_1.length co44 : Value).ownBlock ∧ some k_ ≠ (.slice (some ad297) x8_1.length co44 : Value).ownBlock ∧ k_ ≠ gb277 ∧ k_ ≠ gb296 ∧ k_ ≠ gb298) v300 t299) := ⟨by rw [← hq_]; exact (by (with_reducible repeat (first | apply Kd.V_alloc | apply Kd.V_drewN | apply Kd.V_drew)); exact Kd.V_mono HO_22.out (fun _ hk => ⟨hk.2.1, ⟨hk.1, ⟨hk.2.2.1, ⟨hk.2.2.2.1, hk.2.2.2.2⟩⟩⟩⟩))⟩; have n1_ : Aside0 (Kd.R (Kd.int .i32) 21 wc w.heap.size (fun _ => True) (.slice (some ad297) x8_1.length co44) x8_1) := ⟨by rw [← hq_]; exact (kR HO_70)⟩; have n2_ : Aside0 (Kd.R (Kd.int .i32) 21 wc w.heap.size (fun _ => True) (.slice (some ad297) x8_1.length co44) x8_1) := ⟨by rw [← hq_]; exact (kR HO_8)⟩; have n3_ : Aside0 (wc.heap[gb277]? = some (.cells #[.int .i32 0, .int .u8 0] 35 (0, 0))) := ⟨by rw [← hq_]; exact (kB BK277)⟩; have n4_ : Aside0 (wc.heap[gb296]? = some (.cells #[.int .i32 x297000_3, .int .u8 x297001_3] 35 (0, 0))) := ⟨by rw [← hq_]; exact (kB BK296)⟩; have n5_ : Aside0 (wc.heap[gb298]? = some (.cells #[.int .i32 (rd x8_1 x72_3), .int .u8 (rd ([3, 2, 1, 0] : List Int) x67_2)] 35 (0, 0))) := ⟨by rw [← hq_]; exact (kB BK298)⟩; have n6_ : Aside0 (Below w.heap.size w wc) := ⟨by rw [← hq_]; exact bG⟩; clear HO_22 HO_70 HO_8 BK277 BK296 BK298 HB hq_; have HO_22 := n0_; have HO_70 := n1_; have HO_8 := n2_; have BK277 := n3_; have BK296 := n4_; have BK298 := n5_; have HB := n6_; clear n0_ n1_ n2_ n3_ n4_ n5_ n6_)); have hnb65 := NB298_277.out; have hnc65 := NB277_298.out; have hnb66 := NB298_296.out; have hnc66 := NB296_298.out; have hcz67_0 : wc.cell? ⟨gb298, 0, none⟩ = some (.int .i32 (rd x8_1 x72_3)) := (blk_cell BK298.out 0).trans rfl; have hcz67_1 : wc.cell? ⟨gb298, 1, none⟩ = some (.int .u8 (rd ([3, 2, 1, 0] : List Int) x67_2)) := (blk_cell BK298.out 1).trans rfl; have hfz67_0 := blk_frozen BK298.out 0; have hfz67_1 := blk_frozen BK298.out 1; obtain ⟨Ao68, co68, eo68⟩ := Kd.V_slice HO_22.out; subst eo68; have hnb69 := NB296_277.out; have hnc69 := NB277_296.out; have hcz70_0 : wc.cell? ⟨gb296, 0, none⟩ = some (.int .i32 x297000_3) := (blk_cell BK296.out 0).trans rfl; have hcz70_1 : wc.cell? ⟨gb296, 1, none⟩ = some (.int .u8 x297001_3) := (blk_cell BK296.out 1).trans rfl; have hfz70_0 := blk_frozen BK296.out 0; have hfz70_1 := blk_frozen BK296.out 1; have hcz71_0 : wc.cell? ⟨gb277, 0, none⟩ = some (.int .i32 0) := (blk_cell BK277.out 0).trans rfl; have hcz71_1 : wc.cell? ⟨gb277, 1, none⟩ = some (.int .u8 0) := (blk_cell BK277.out 1).trans rfl; have hfz71_0 := blk_frozen BK277.out 0; have hfz71_1 := blk_frozen BK277.out 1))))
                     try rw [Exit.noGoto_ret]
                     refine bodyPost_ret (results_ctt rfl _ _ gb277 35 #[.int .i32 0, .int .u8 0] (0, 0) _ rfl (by (with_reducible repeat (first | refine blk_drewN ?_ _ | refine blk_drew ?_ | refine blk_alloc ?_ _)); refine blk_put (cs := #[.int .i32 0, .int .u8 0]) ?_ 1 _ rfl; (with_reducible repeat (first | refine blk_drewN ?_ _ | refine blk_drew ?_ | refine blk_alloc ?_ _)); refine blk_put (cs := #[.int .i32 0, .int .u8 0]) ?_ 0 _ rfl; (with_reducible repeat (first | refine blk_drewN ?_ _ | refine blk_drew ?_ | refine blk_alloc ?_ _)); refine blk_far ?_ NB277_296.out _; (with_reducible repeat (first | refine blk_drewN ?_ _ | refine blk_drew ?_ | refine blk_alloc ?_ _)); refine blk_far ?_ NB277_296.out _; (with_reducible repeat (first | refine blk_drewN ?_ _ | refine blk_drew ?_ | refine blk_alloc ?_ _)); exact BK277.out) Tryd.underlying35 rfl (by kernel_rfl)) rfl ?_
                     exact ⟨eW, bG⟩
                    ·rw [if_neg c63] at H
                     have c63b0 : ((t299.length : Int) == 0) = false := beq_eq_false_iff_ne.mpr c63
                     have c63b1 : ((t299.length : Int) != 0) = true := bne_iff_ne.mpr c63
                     have c63b2 : ¬ (t299 = []) := fun h_ => c63 (by rw [h_]; rfl)
                     simp only [Option.some.injEq, Prod.mk.injEq] at H
                     obtain ⟨rfl, rfl, rfl, rfl⟩ := H
                     have hcv72 := V_string (P := Tryd.prog) Tryd.underlying25 Tryd.underlying5 Tryd.underlying9 HO_22.out
                     go_wp2_with (first | ((with_reducible refine gate_callee (f := 48) rfl ?_); refine goesL_ (some 100) rfl rfl Tryd.func48 (by kernel_rfl) rfl #[.string (strOfNums l0), .string (strOfNums t299)] rfl aP ?_; (with_reducible refine (strings_HasPrefix.calls (strOfNums l0) (strOfNums t299) true _ A61.out).mono ?_); rintro e w' ⟨rfl, ⟨nd, rfl⟩⟩; refine ⟨_, rfl, ?_⟩; (try (rw [drewN_self wc]; generalize hq_ : World.drewN wc _ = wc; have n0_ : Aside0 (Kd.V (Kd.int .u8) 5 wc w.heap.size (fun k_ => some k_ ≠ (.slice (some ad297) x8_1.length co44 : Value).ownBlock ∧ some k_ ≠ (.slice (some ad297) x8_1.length co44 : Value).ownBlock ∧ k_ ≠ gb277 ∧ k_ ≠ gb296 ∧ k_ ≠ gb298) v300 t299) := ⟨by rw [← hq_]; exact (by (with_reducible repeat (first | apply Kd.V_alloc | apply Kd.V_drewN | apply Kd.V_drew)); exact Kd.V_mono HO_22.out (fun _ hk => ⟨hk.2.1, ⟨hk.1, ⟨hk.2.2.1, ⟨hk.2.2.2.1, hk.2.2.2.2⟩⟩⟩⟩))⟩; have n1_ : Aside0 (Kd.R (Kd.int .i32) 21 wc w.heap.size (fun _ => True) (.slice (some ad297) x8_1.length co44) x8_1) := ⟨by rw [← hq_]; exact (kR HO_70)⟩; have n2_ : Aside0 (Kd.R (Kd.int .i32) 21 wc w.heap.size (fun _ => True) (.slice (some ad297) x8_1.length co44) x8_1) := ⟨by rw [← hq_]; exact (kR HO_8)⟩; have n3_ : Aside0 (wc.heap[gb277]? = some (.cells #[.int .i32 0, .int .u8 0] 35 (0, 0))) := ⟨by rw [← hq_]; exact (kB BK277)⟩; have n4_ : Aside0 (wc.heap[gb296]? = some (.cells #[.int .i32 x297000_3, .int .u8 x297001_3] 35 (0, 0))) := ⟨by rw [← hq_]; exact (kB BK296)⟩; have n5_ : Aside0 (wc.heap[gb298]? = some (.cells #[.int .i32 (rd x8_1 x72_3), .int .u8 (rd ([3, 2, 1, 0] : List Int) x67_2)] 35 (0, 0))) := ⟨by rw [← hq_]; exact (kB BK298)⟩; have n6_ : Aside0 (Below w.heap.size w wc) := ⟨by rw [← hq_]; exact bG⟩; clear HO_22 HO_70 HO_8 BK277 BK296 BK298 HB hq_; have HO_22 := n0_; have HO_70 := n1_; have HO_8 := n2_; have BK277 := n3_; have BK296 := n4_; have BK298 := n5_; have HB := n6_; clear n0_ n1_ n2_ n3_ n4_ n5_ n6_)); have hnb73 := NB298_277.out; have hnc73 := NB277_298.out; have hnb74 := NB298_296.out; have hnc74 := NB296_298.out; have hcz75_0 : wc.cell? ⟨gb298, 0, none⟩ = some (.int .i32 (rd x8_1 x72_3)) := (blk_cell BK298.out 0).trans rfl; have hcz75_1 : wc.cell? ⟨gb298, 1, none⟩ = some (.int .u8 (rd ([3, 2, 1, 0] : List Int) x67_2)) := (blk_cell BK298.out 1).trans rfl; have hfz75_0 := blk_frozen BK298.out 0; have hfz75_1 := blk_frozen BK298.out 1; obtain ⟨Ao76, co76, eo76⟩ := Kd.V_slice HO_22.out; subst eo76; have hnb77 := NB296_277.out; have hnc77 := NB277_296.out; have hcz78_0 : wc.cell? ⟨gb296, 0, none⟩ = some (.int .i32 x297000_3) := (blk_cell BK296.out 0).trans rfl; have hcz78_1 : wc.cell? ⟨gb296, 1, none⟩ = some (.int .u8 x297001_3) := (blk_cell BK296.out 1).trans rfl; have hfz78_0 := blk_frozen BK296.out 0; have hfz78_1 := blk_frozen BK296.out 1; have hcz79_0 : wc.cell? ⟨gb277, 0, none⟩ = some (.int .i32 0) := (blk_cell BK277.out 0).trans rfl; have hcz79_1 : wc.cell? ⟨gb277, 1, none⟩ = some (.int .u8 0) := (blk_cell BK277.out 1).trans rfl; have hfz79_0 := blk_frozen BK277.out 0; have hfz79_1 := blk_frozen BK277.out 1))
                     all_goals (try (go_step3; go_wp2_with (first | ((with_reducible refine gate_callee (f := 48) rfl ?_); refine goesL_ (some 100) rfl rfl Tryd.func48 (by kernel_rfl) rfl #[.string (strOfNums l0), .string (strOfNums t299)] rfl aP ?_; (with_reducible refine (strings_HasPrefix.calls (strOfNums l0) (strOfNums t299) true _ A61.out).mono ?_); rintro e w' ⟨rfl, ⟨nd, rfl⟩⟩; refine ⟨_, rfl, ?_⟩; (try (rw [drewN_self wc]; generalize hq_ : World.drewN wc _ = wc; have n0_ : Aside0 (Kd.V (Kd.int .u8) 5 wc w.heap.size (fun k_ => some k_ ≠ (.slice (some ad297) x8_1.length co44 : Value).ownBlock ∧ some k_ ≠ (.slice (some ad297) x8_1.length co44 : Value).ownBlock ∧ k_ ≠ gb277 ∧ k_ ≠ gb296 ∧ k_ ≠ gb298) v300 t299) := ⟨by rw [← hq_]; exact (by (with_reducible repeat (first | apply Kd.V_alloc | apply Kd.V_drewN | apply Kd.V_drew)); exact Kd.V_mono HO_22.out (fun _ hk => ⟨hk.2.1, ⟨hk.1, ⟨hk.2.2.1, ⟨hk.2.2.2.1, hk.2.2.2.2⟩⟩⟩⟩))⟩; have n1_ : Aside0 (Kd.R (Kd.int .i32) 21 wc w.heap.size (fun _ => True) (.slice (some ad297) x8_1.length co44) x8_1) := ⟨by rw [← hq_]; exact (kR HO_70)⟩; have n2_ : Aside0 (Kd.R (Kd.int .i32) 21 wc w.heap.size (fun _ => True) (.slice (some ad297) x8_1.length co44) x8_1) := ⟨by rw [← hq_]; exact (kR HO_8)⟩; have n3_ : Aside0 (wc.heap[gb277]? = some (.cells #[.int .i32 0, .int .u8 0] 35 (0, 0))) := ⟨by rw [← hq_]; exact (kB BK277)⟩; have n4_ : Aside0 (wc.heap[gb296]? = some (.cells #[.int .i32 x297000_3, .int .u8 x297001_3] 35 (0, 0))) := ⟨by rw [← hq_]; exact (kB BK296)⟩; have n5_ : Aside0 (wc.heap[gb298]? = some (.cells #[.int .i32 (rd x8_1 x72_3), .int .u8 (rd ([3, 2, 1, 0] : List Int) x67_2)] 35 (0, 0))) := ⟨by rw [← hq_]; exact (kB BK298)⟩; have n6_ : Aside0 (Below w.heap.size w wc) := ⟨by rw [← hq_]; exact bG⟩; clear HO_22 HO_70 HO_8 BK277 BK296 BK298 HB hq_; have HO_22 := n0_; have HO_70 := n1_; have HO_8 := n2_; have BK277 := n3_; have BK296 := n4_; have BK298 := n5_; have HB := n6_; clear n0_ n1_ n2_ n3_ n4_ n5_ n6_)); have hnb73 := NB298_277.out; have hnc73 := NB277_298.out; have hnb74 := NB298_296.out; have hnc74 := NB296_298.out; have hcz75_0 : wc.cell? ⟨gb298, 0, none⟩ = some (.int .i32 (rd x8_1 x72_3)) := (blk_cell BK298.out 0).trans rfl; have hcz75_1 : wc.cell? ⟨gb298, 1, none⟩ = some (.int .u8 (rd ([3, 2, 1, 0] : List Int) x67_2)) := (blk_cell BK298.out 1).trans rfl; have hfz75_0 := blk_frozen BK298.out 0; have hfz75_1 := blk_frozen BK298.out 1; obtain ⟨Ao76, co76, eo76⟩ := Kd.V_slice HO_22.out; subst eo76; have hnb77 := NB296_277.out; have hnc77 := NB277_296.out; have hcz78_0 : wc.cell? ⟨gb296, 0, none⟩ = some (.int .i32 x297000_3) := (blk_cell BK296.out 0).trans rfl; have hcz78_1 : wc.cell? ⟨gb296, 1, none⟩ = some (.int .u8 x297001_3) := (blk_cell BK296.out 1).trans rfl; have hfz78_0 := blk_frozen BK296.out 0; have hfz78_1 := blk_frozen BK296.out 1; have hcz79_0 : wc.cell? ⟨gb277, 0, none⟩ = some (.int .i32 0) := (blk_cell BK277.out 0).trans rfl; have hcz79_1 : wc.cell? ⟨gb277, 1, none⟩ = some (.int .u8 0) := (blk_cell BK277.out 1).trans rfl; have hfz79_0 := blk_frozen BK277.out 0; have hfz79_1 := blk_frozen BK277.out 1))))
                     all_goals (try (go_step3; go_wp2_with (first | ((with_reducible refine gate_callee (f := 48) rfl ?_); refine goesL_ (some 100) rfl rfl Tryd.func48 (by kernel_rfl) rfl #[.string (strOfNums l0), .string (strOfNums t299)] rfl aP ?_; (with_reducible refine (strings_HasPrefix.calls (strOfNums l0) (strOfNums t299) true _ A61.out).mono ?_); rintro e w' ⟨rfl, ⟨nd, rfl⟩⟩; refine ⟨_, rfl, ?_⟩; (try (rw [drewN_self wc]; generalize hq_ : World.drewN wc _ = wc; have n0_ : Aside0 (Kd.V (Kd.int .u8) 5 wc w.heap.size (fun k_ => some k_ ≠ (.slice (some ad297) x8_1.length co44 : Value).ownBlock ∧ some k_ ≠ (.slice (some ad297) x8_1.length co44 : Value).ownBlock ∧ k_ ≠ gb277 ∧ k_ ≠ gb296 ∧ k_ ≠ gb298) v300 t299) := ⟨by rw [← hq_]; exact (by (with_reducible repeat (first | apply Kd.V_alloc | apply Kd.V_drewN | apply Kd.V_drew)); exact Kd.V_mono HO_22.out (fun _ hk => ⟨hk.2.1, ⟨hk.1, ⟨hk.2.2.1, ⟨hk.2.2.2.1, hk.2.2.2.2⟩⟩⟩⟩))⟩; have n1_ : Aside0 (Kd.R (Kd.int .i32) 21 wc w.heap.size (fun _ => True) (.slice (some ad297) x8_1.length co44) x8_1) := ⟨by rw [← hq_]; exact (kR HO_70)⟩; have n2_ : Aside0 (Kd.R (Kd.int .i32) 21 wc w.heap.size (fun _ => True) (.slice (some ad297) x8_1.length co44) x8_1) := ⟨by rw [← hq_]; exact (kR HO_8)⟩; have n3_ : Aside0 (wc.heap[gb277]? = some (.cells #[.int .i32 0, .int .u8 0] 35 (0, 0))) := ⟨by rw [← hq_]; exact (kB BK277)⟩; have n4_ : Aside0 (wc.heap[gb296]? = some (.cells #[.int .i32 x297000_3, .int .u8 x297001_3] 35 (0, 0))) := ⟨by rw [← hq_]; exact (kB BK296)⟩; have n5_ : Aside0 (wc.heap[gb298]? = some (.cells #[.int .i32 (rd x8_1 x72_3), .int .u8 (rd ([3, 2, 1, 0] : List Int) x67_2)] 35 (0, 0))) := ⟨by rw [← hq_]; exact (kB BK298)⟩; have n6_ : Aside0 (Below w.heap.size w wc) := ⟨by rw [← hq_]; exact bG⟩; clear HO_22 HO_70 HO_8 BK277 BK296 BK298 HB hq_; have HO_22 := n0_; have HO_70 := n1_; have HO_8 := n2_; have BK277 := n3_; have BK296 := n4_; have BK298 := n5_; have HB := n6_; clear n0_ n1_ n2_ n3_ n4_ n5_ n6_)); have hnb73 := NB298_277.out; have hnc73 := NB277_298.out; have hnb74 := NB298_296.out; have hnc74 := NB296_298.out; have hcz75_0 : wc.cell? ⟨gb298, 0, none⟩ = some (.int .i32 (rd x8_1 x72_3)) := (blk_cell BK298.out 0).trans rfl; have hcz75_1 : wc.cell? ⟨gb298, 1, none⟩ = some (.int .u8 (rd ([3, 2, 1, 0] : List Int) x67_2)) := (blk_cell BK298.out 1).trans rfl; have hfz75_0 := blk_frozen BK298.out 0; have hfz75_1 := blk_frozen BK298.out 1; obtain ⟨Ao76, co76, eo76⟩ := Kd.V_slice HO_22.out; subst eo76; have hnb77 := NB296_277.out; have hnc77 := NB277_296.out; have hcz78_0 : wc.cell? ⟨gb296, 0, none⟩ = some (.int .i32 x297000_3) := (blk_cell BK296.out 0).trans rfl; have hcz78_1 : wc.cell? ⟨gb296, 1, none⟩ = some (.int .u8 x297001_3) := (blk_cell BK296.out 1).trans rfl; have hfz78_0 := blk_frozen BK296.out 0; have hfz78_1 := blk_frozen BK296.out 1; have hcz79_0 : wc.cell? ⟨gb277, 0, none⟩ = some (.int .i32 0) := (blk_cell BK277.out 0).trans rfl; have hcz79_1 : wc.cell? ⟨gb277, 1, none⟩ = some (.int .u8 0) := (blk_cell BK277.out 1).trans rfl; have hfz79_0 := blk_frozen BK277.out 0; have hfz79_1 := blk_frozen BK277.out 1))))
                     try rw [Exit.noGoto_ret]
                     refine bodyPost_ret (results_ctt rfl _ _ gb277 35 #[.int .i32 (rd x8_1 x72_3), .int .u8 (rd ([3, 2, 1, 0] : List Int) x67_2)] (0, 0) _ rfl (by (with_reducible repeat (first | refine blk_drewN ?_ _ | refine blk_drew ?_ | refine blk_alloc ?_ _)); refine blk_put (cs := #[.int .i32 (rd x8_1 x72_3), .int .u8 0]) ?_ 1 _ rfl; (with_reducible repeat (first | refine blk_drewN ?_ _ | refine blk_drew ?_ | refine blk_alloc ?_ _)); refine blk_put (cs := #[.int .i32 0, .int .u8 0]) ?_ 0 _ rfl; (with_reducible repeat (first | refine blk_drewN ?_ _ | refine blk_drew ?_ | refine blk_alloc ?_ _)); refine blk_far ?_ NB277_296.out _; (with_reducible repeat (first | refine blk_drewN ?_ _ | refine blk_drew ?_ | refine blk_alloc ?_ _)); refine blk_far ?_ NB277_296.out _; (with_reducible repeat (first | refine blk_drewN ?_ _ | refine blk_drew ?_ | refine blk_alloc ?_ _)); exact BK277.out) Tryd.underlying35 rfl (by kernel_rfl)) rfl ?_
                     exact ⟨eW, bG⟩
                   ·replace c62 := Bool.eq_false_iff.mpr c62
                    subst c62
                    have H1 : (over_Take.l2 kj56 (strOfNums l0) x8_1 x16_3 (rd ([3, 2, 1, 0] : List Int) x67_2) x67_2 x8_1 (x8_1.length : Int) (wrap64 (x72_3 + 1)) x297000_3 x297001_3) = some (r1, r2, r3, r4) := by rw [if_neg (show ¬ (false = true) by decide)] at H; exact H
                    clear H
                    have H := H1
                    clear H1
                    have H' := Aside0.mk H
                    clear H
                    have hcv80 := V_string (P := Tryd.prog) Tryd.underlying25 Tryd.underlying5 Tryd.underlying9 HO_22.out
                    go_wp2_with (first | ((with_reducible refine gate_callee (f := 48) rfl ?_); refine goesL_ (some 100) rfl rfl Tryd.func48 (by kernel_rfl) rfl #[.string (strOfNums l0), .string (strOfNums t299)] rfl aP ?_; (with_reducible refine (strings_HasPrefix.calls (strOfNums l0) (strOfNums t299) false _ A61.out).mono ?_); rintro e w' ⟨rfl, ⟨nd, rfl⟩⟩; refine ⟨_, rfl, ?_⟩))
                    all_goals (try (go_step3; go_wp2_with (first | ((with_reducible refine gate_callee (f := 48) rfl ?_); refine goesL_ (some 100) rfl rfl Tryd.func48 (by kernel_rfl) rfl #[.string (strOfNums l0), .string (strOfNums t299)] rfl aP ?_; (with_reducible refine (strings_HasPrefix.calls (strOfNums l0) (strOfNums t299) false _ A61.out).mono ?_); rintro e w' ⟨rfl, ⟨nd, rfl⟩⟩; refine ⟨_, rfl, ?_⟩))))
                    all_goals (try (go_step3; go_wp2_with (first | ((with_reducible refine gate_callee (f := 48) rfl ?_); refine goesL_ (some 100) rfl rfl Tryd.func48 (by kernel_rfl) rfl #[.string (strOfNums l0), .string (strOfNums t299)] rfl aP ?_; (with_reducible refine (strings_HasPrefix.calls (strOfNums l0) (strOfNums t299) false _ A61.out).mono ?_); rintro e w' ⟨rfl, ⟨nd, rfl⟩⟩; refine ⟨_, rfl, ?_⟩))))
                    go_roundg kj56
                    case measure => have := HK1.out; have := HK2.out; have := HK3.out; have := HJ48.out; have := HJ56.out; omega
                    case rel => exact ⟨(x16_3), (wrap64 (x72_3 + 1)), (x297000_3), (x297001_3), sA, sA, H', ⟨by have := HK1.out; have := HK2.out; have := HK3.out; have := HJ48.out; have := HJ56.out; omega⟩, ⟨kR HO_8⟩, ⟨kR HO_70⟩, ⟨kB BK277⟩, ⟨kB BK296⟩, ⟨bG⟩⟩
             ·rw [if_neg c47] at H
              exact absurd H (by simp)
            ·rw [if_neg c46] at H
             exact absurd H (by simp)
           ·rw [if_neg c45] at H
            have c45b0 : decide (x72_3 < (x8_1.length : Int)) = false := decide_eq_false c45
            clear c45
            have H' := Aside0.mk H
            clear H
            go_wp2
            all_goals (try (go_step3; go_wp2))
            all_goals (try (go_step3; go_wp2))
            go_roundg k3
            case measure => have := HK1.out; have := HK2.out; have := HK3.out; omega
            case rel => exact ⟨(x16_3), (wrap64 (x67_2 + 1)), (x297000_3), (x297001_3), sA, sA, H', ⟨by have := HK1.out; have := HK2.out; have := HK3.out; omega⟩, ⟨kR HO_8⟩, ⟨kB BK277⟩, ⟨kB BK296⟩, ⟨bG⟩⟩
        ·rw [if_neg c42] at H
         exact absurd H (by simp)
       ·rw [if_neg c41] at H
        have c41b0 : decide (x67_2 < 4) = false := decide_eq_false c41
        clear c41
        by_cases c81 : x16_2 = 0
        ·rw [if_pos c81] at H
         have c81b0 : (x16_2 == 0) = true := beq_iff_eq.mpr c81
         have c81b1 : (x16_2 != 0) = false := bne_eq_false_iff_eq.mpr c81
         clear c81
         simp only [Option.some.injEq, Prod.mk.injEq] at H
         obtain ⟨rfl, rfl, rfl, rfl⟩ := H
         have hnb82 := NB277_296.out
         have hnc82 := NB296_277.out
         have hcz83_0 : wr.cell? ⟨gb277, 0, none⟩ = some (.int .i32 0) := (blk_cell BK277.out 0).trans rfl
         have hcz83_1 : wr.cell? ⟨gb277, 1, none⟩ = some (.int .u8 0) := (blk_cell BK277.out 1).trans rfl
         have hfz83_0 := blk_frozen BK277.out 0
         have hfz83_1 := blk_frozen BK277.out 1
         go_wp2
         all_goals (try (go_step3; go_wp2))
         all_goals (try (go_step3; go_wp2))
         try rw [Exit.noGoto_ret]
         refine bodyPost_ret (results_ctt rfl _ _ gb277 35 #[.int .i32 0, .int .u8 0] (0, 0) _ rfl (by (with_reducible repeat (first | refine blk_drewN ?_ _ | refine blk_drew ?_ | refine blk_alloc ?_ _)); refine blk_put (cs := #[.int .i32 0, .int .u8 0]) ?_ 1 _ rfl; (with_reducible repeat (first | refine blk_drewN ?_ _ | refine blk_drew ?_ | refine blk_alloc ?_ _)); refine blk_put (cs := #[.int .i32 0, .int .u8 0]) ?_ 0 _ rfl; (with_reducible repeat (first | refine blk_drewN ?_ _ | refine blk_drew ?_ | refine blk_alloc ?_ _)); exact BK277.out) Tryd.underlying35 rfl (by kernel_rfl)) rfl ?_
         exact ⟨eW, bG⟩
        ·rw [if_neg c81] at H
         have c81b0 : (x16_2 == 0) = false := beq_eq_false_iff_ne.mpr c81
         have c81b1 : (x16_2 != 0) = true := bne_iff_ne.mpr c81
         simp only [Option.some.injEq, Prod.mk.injEq] at H
         obtain ⟨rfl, rfl, rfl, rfl⟩ := H
         have hnb84 := NB296_277.out
         have hnc84 := NB277_296.out
         have hcz85_0 : wr.cell? ⟨gb296, 0, none⟩ = some (.int .i32 x297000_2) := (blk_cell BK296.out 0).trans rfl
         have hcz85_1 : wr.cell? ⟨gb296, 1, none⟩ = some (.int .u8 x297001_2) := (blk_cell BK296.out 1).trans rfl
         have hfz85_0 := blk_frozen BK296.out 0
         have hfz85_1 := blk_frozen BK296.out 1
         have hcz86_0 : wr.cell? ⟨gb277, 0, none⟩ = some (.int .i32 0) := (blk_cell BK277.out 0).trans rfl
         have hcz86_1 : wr.cell? ⟨gb277, 1, none⟩ = some (.int .u8 0) := (blk_cell BK277.out 1).trans rfl
         have hfz86_0 := blk_frozen BK277.out 0
         have hfz86_1 := blk_frozen BK277.out 1
         go_wp2
         all_goals (try (go_step3; go_wp2))
         all_goals (try (go_step3; go_wp2))
         try rw [Exit.noGoto_ret]
         refine bodyPost_ret (results_ctt rfl _ _ gb277 35 #[.int .i32 x297000_2, .int .u8 x297001_2] (0, 0) _ rfl (by (with_reducible repeat (first | refine blk_drewN ?_ _ | refine blk_drew ?_ | refine blk_alloc ?_ _)); refine blk_put (cs := #[.int .i32 x297000_2, .int .u8 0]) ?_ 1 _ rfl; (with_reducible repeat (first | refine blk_drewN ?_ _ | refine blk_drew ?_ | refine blk_alloc ?_ _)); refine blk_put (cs := #[.int .i32 0, .int .u8 0]) ?_ 0 _ rfl; (with_reducible repeat (first | refine blk_drewN ?_ _ | refine blk_drew ?_ | refine blk_alloc ?_ _)); exact BK277.out) Tryd.underlying35 rfl (by kernel_rfl)) rfl ?_
         exact ⟨eW, bG⟩
 ·replace c3 := Bool.eq_false_iff.mpr c3
  subst c3
  have H1 : (some (0, 0, 0, 5)) = some (r1, r2, r3, r4) := by rw [if_neg (show ¬ (false = true) by decide)] at H; exact H
  clear H
  have H := H1
  clear H1
  simp only [Option.some.injEq, Prod.mk.injEq] at H
  obtain ⟨rfl, rfl, rfl, rfl⟩ := H
  go_enter Tryd.func20, Tryd.ntmps20
  go_wp2_with (first | ((with_reducible refine gate_dst (N := 2) rfl ?_); refine box_event ?hg (N := 2) ?hd (cs := #[.int .i32 0, .int .u8 0]) (t := 35) ?hr ?_; (case hd => rfl); (case hg => rfl); (case hr => first | (go_simp; done) | (go_simp; rfl)); intro gb277 hg w87 hbox hb; have BK277 := Aside0.mk (hbox); have GW277 := Aside0.mk ((geA hg : w.heap.size ≤ gb277)); have GE277 := Aside0.mk ((geA hg : w.heap.size ≤ gb277)); replace HB := Aside0.mk (below_step bA hb); clear hb hbox hg; have hcv88 := Kd.C_string (P := Tryd.prog) (A := A0) (c := c0) Tryd.underlying25 Tryd.underlying5 Tryd.underlying9 (Kd.C_below HR0.out HB.out)) | ((with_reducible refine gate_callee (f := 45) rfl ?_); refine goesL_ (some 28) rfl rfl Tryd.func45 (by kernel_rfl) rfl #[.string (strOfNums l0)] rfl aP ?_; (with_reducible refine (over_first.calls k (strOfNums l0) t278 false _ A2.out).mono ?_); rintro e w89 ⟨rfl, hb⟩; refine ⟨_, rfl, ?_⟩; replace BK277 := Aside0.mk (blk_below (g := gb277) (o := .cells #[.int .i32 0, .int .u8 0] 35 (0, 0)) (kB BK277) hb); replace HB := Aside0.mk (below_step bG hb); (try clear hb); (try clear hb2); (try clear hk); (try clear hi); have hcz90_0 : w89.cell? ⟨gb277, 0, none⟩ = some (.int .i32 0) := (blk_cell BK277.out 0).trans rfl; have hcz90_1 : w89.cell? ⟨gb277, 1, none⟩ = some (.int .u8 0) := (blk_cell BK277.out 1).trans rfl; have hfz90_0 := blk_frozen BK277.out 0; have hfz90_1 := blk_frozen BK277.out 1))
  all_goals (try (go_step3; go_wp2_with (first | ((with_reducible refine gate_dst (N := 2) rfl ?_); refine box_event ?hg (N := 2) ?hd (cs := #[.int .i32 0, .int .u8 0]) (t := 35) ?hr ?_; (case hd => rfl); (case hg => rfl); (case hr => first | (go_simp; done) | (go_simp; rfl)); intro gb277 hg w87 hbox hb; have BK277 := Aside0.mk (hbox); have GW277 := Aside0.mk ((geA hg : w.heap.size ≤ gb277)); have GE277 := Aside0.mk ((geA hg : w.heap.size ≤ gb277)); replace HB := Aside0.mk (below_step bA hb); clear hb hbox hg; have hcv88 := Kd.C_string (P := Tryd.prog) (A := A0) (c := c0) Tryd.underlying25 Tryd.underlying5 Tryd.underlying9 (Kd.C_below HR0.out HB.out)) | ((with_reducible refine gate_callee (f := 45) rfl ?_); refine goesL_ (some 28) rfl rfl Tryd.func45 (by kernel_rfl) rfl #[.string (strOfNums l0)] rfl aP ?_; (with_reducible refine (over_first.calls k (strOfNums l0) t278 false _ A2.out).mono ?_); rintro e w89 ⟨rfl, hb⟩; refine ⟨_, rfl, ?_⟩; replace BK277 := Aside0.mk (blk_below (g := gb277) (o := .cells #[.int .i32 0, .int .u8 0] 35 (0, 0)) (kB BK277) hb); replace HB := Aside0.mk (below_step bG hb); (try clear hb); (try clear hb2); (try clear hk); (try clear hi); have hcz90_0 : w89.cell? ⟨gb277, 0, none⟩ = some (.int .i32 0) := (blk_cell BK277.out 0).trans rfl; have hcz90_1 : w89.cell? ⟨gb277, 1, none⟩ = some (.int .u8 0) := (blk_cell BK277.out 1).trans rfl; have hfz90_0 := blk_frozen BK277.out 0; have hfz90_1 := blk_frozen BK277.out 1))))
  all_goals (try (go_step3; go_wp2_with (first | ((with_reducible refine gate_dst (N := 2) rfl ?_); refine box_event ?hg (N := 2) ?hd (cs := #[.int .i32 0, .int .u8 0]) (t := 35) ?hr ?_; (case hd => rfl); (case hg => rfl); (case hr => first | (go_simp; done) | (go_simp; rfl)); intro gb277 hg w87 hbox hb; have BK277 := Aside0.mk (hbox); have GW277 := Aside0.mk ((geA hg : w.heap.size ≤ gb277)); have GE277 := Aside0.mk ((geA hg : w.heap.size ≤ gb277)); replace HB := Aside0.mk (below_step bA hb); clear hb hbox hg; have hcv88 := Kd.C_string (P := Tryd.prog) (A := A0) (c := c0) Tryd.underlying25 Tryd.underlying5 Tryd.underlying9 (Kd.C_below HR0.out HB.out)) | ((with_reducible refine gate_callee (f := 45) rfl ?_); refine goesL_ (some 28) rfl rfl Tryd.func45 (by kernel_rfl) rfl #[.string (strOfNums l0)] rfl aP ?_; (with_reducible refine (over_first.calls k (strOfNums l0) t278 false _ A2.out).mono ?_); rintro e w89 ⟨rfl, hb⟩; refine ⟨_, rfl, ?_⟩; replace BK277 := Aside0.mk (blk_below (g := gb277) (o := .cells #[.int .i32 0, .int .u8 0] 35 (0, 0)) (kB BK277) hb); replace HB := Aside0.mk (below_step bG hb); (try clear hb); (try clear hb2); (try clear hk); (try clear hi); have hcz90_0 : w89.cell? ⟨gb277, 0, none⟩ = some (.int .i32 0) := (blk_cell BK277.out 0).trans rfl; have hcz90_1 : w89.cell? ⟨gb277, 1, none⟩ = some (.int .u8 0) := (blk_cell BK277.out 1).trans rfl; have hfz90_0 := blk_frozen BK277.out 0; have hfz90_1 := blk_frozen BK277.out 1))))
  try rw [Exit.noGoto_ret]
  refine bodyPost_ret (results_ctt rfl _ _ gb277 35 #[.int .i32 0, .int .u8 0] (0, 0) _ rfl (by (with_reducible repeat (first | refine blk_drewN ?_ _ | refine blk_drew ?_ | refine blk_alloc ?_ _)); refine blk_put (cs := #[.int .i32 0, .int .u8 0]) ?_ 1 _ rfl; (with_reducible repeat (first | refine blk_drewN ?_ _ | refine blk_drew ?_ | refine blk_alloc ?_ _)); refine blk_put (cs := #[.int .i32 0, .int .u8 0]) ?_ 0 _ rfl; (with_reducible repeat (first | refine blk_drewN ?_ _ | refine blk_drew ?_ | refine blk_alloc ?_ _)); exact BK277.out) Tryd.underlying35 rfl (by kernel_rfl)) rfl ?_
  exact ⟨eW, bG⟩

end Go.Proofs.YtmeinakeiefcdaaDoor.X
