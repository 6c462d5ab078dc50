-- Written by this session's xprint.py (a variant of the kit's printer). Not trusted: Lean checks it.
import Derived.Test.YtmfkokjbjmahkaaDoorX0
import Derived.Test.YtmfkokjbjmahkaaDoorSlim
import Derived.Test.YtmfkokjbjmahkaaDoorX4
import Derived.Test.YtmfkokjbjmahkaaDoorHandH
import Derived.Test.YtmfkokjbjmahkaaDoorHandS
namespace Go.Proofs.YtmfkokjbjmahkaaDoor.X
open Go.Proofs.YtmfkokjbjmahkaaDoor.Hand
open Go.RowKit Go.Proofs.YtmfkokjbjmahkaaDoorW.PrintWords Go.Proofs.YtmfkokjbjmahkaaDoorW.PrintLast Go.Proofs.YtmfkokjbjmahkaaDoorW.PrintMore
attribute [local go_sem] max2_int min2_int max_two min_two max_three min_three max_four min_four   -- for this text's walks alone
set_option linter.unusedVariables false
set_option maxHeartbeats 8000000
set_option maxRecDepth 100000
set_option linter.unusedSimpArgs false

/-! ### lines_Check: function 19 -/
def lines_Check.j0 : Nat → Bool → Int → ByteArray → List ByteArray → ByteArray → Option (Int)
 | 0, _, _, _, _, _ => none
 | k + 1, x52, x154000, x154001, x154002, x154003 => if x52 = true then (some 2) else ((strings_HasPrefix.f x154003 (⟨#[39]⟩ : ByteArray)).bind fun t159 => (if t159 = true then (some 2) else (some 0)))
def lines_Check.f (k : Nat) (a0_0 : Int) (a0_1 : ByteArray) (l0_2 : List ByteArray) (a0_3 : ByteArray) : Option (Int) := if a0_1.toList = ([] : List UInt8) then (if (l0_2.length : Int) > 0 then (lines_Check.j0 k true a0_0 a0_1 l0_2 a0_3) else ((strings_ContainsAny.f a0_3 (⟨#[10, 92]⟩ : ByteArray)).bind fun t156 => (if t156 = true then (lines_Check.j0 k true a0_0 a0_1 l0_2 a0_3) else ((strings_HasSuffix.f a0_3 (⟨#[13]⟩ : ByteArray)).bind fun t157 => (if t157 = true then (lines_Check.j0 k true a0_0 a0_1 l0_2 a0_3) else ((strings_HasPrefix.f a0_3 (⟨#[46]⟩ : ByteArray)).bind fun t158 => (lines_Check.j0 k t158 a0_0 a0_1 l0_2 a0_3))))))) else ((strings_ContainsAny.f a0_1 (⟨#[32, 9, 10, 13, 92, 34]⟩ : ByteArray)).bind fun t154 => (if t154 = true then (some 2) else (if 0 < (a0_1.size : Int) then (if (bt a0_1 0) = 46 then (some 2) else (if (bt a0_1 0) = 39 then (some 2) else (if a0_3.toList = ([] : List UInt8) then (if (l0_2.length : Int) > 200 then (some 2) else ((has_bad.f l0_2).bind fun t155 => (if t155 = true then (some 2) else (some 0)))) else (some 2)))) else (none))))
theorem lines_Check.mono_l : ∀ k, (∀ y0 y1 y2 y3 y4, LeO (lines_Check.j0 k y0 y1 y2 y3 y4) (lines_Check.j0 (k + 1) y0 y1 y2 y3 y4))
 | 0 => fun _ _ _ _ _ r h => by simp [lines_Check.j0] at h
 | k + 1 => by
  have ih0 := lines_Check.mono_l k
  ·intro y0 y1 y2 y3 y4
   unfold lines_Check.j0
   repeat' first
   | (with_reducible exact ih0 _ _ _ _ _)
   | (with_reducible exact LeO.refl _)
   | (with_reducible exact LeO.none _)
   | (with_reducible refine LeO.ite ?_ ?_)
   | (with_reducible refine LeO.bind ?_ (fun _ => ?_))
theorem lines_Check.mono : ∀ a0 a1 a2 a3 k, LeO (lines_Check.f k a0 a1 a2 a3) (lines_Check.f (k + 1) a0 a1 a2 a3) := by
 intro a0 a1 a2 a3 k
 have ih0 := lines_Check.mono_l k
 unfold lines_Check.f
 repeat' first
   | (with_reducible exact ih0 _ _ _ _ _)
   | (with_reducible exact LeO.refl _)
   | (with_reducible exact LeO.none _)
   | (with_reducible refine LeO.ite ?_ ?_)
   | (with_reducible refine LeO.bind ?_ (fun _ => ?_))
theorem lines_Check.calls (k : Nat) (a0_0 : Int) (a0_1 : ByteArray) (A0_2 : Option Addr) (c0_2 : Nat) (l0_2 : List ByteArray) (a0_3 : ByteArray) (r : Int) (w : World) (hr0_2 : Kd.C Kd.string w A0_2 l0_2.length l0_2) (hc0_2 : l0_2.length ≤ c0_2) (h : lines_Check.f k a0_0 a0_1 l0_2 a0_3 = some r) :
  Calls Tryd.prog 19 #[.agg #[.int .i64 a0_0, .string a0_1, .slice A0_2 l0_2.length c0_2, .string a0_3]] w fun e w' => e = .returned (.int .i64 r) ∧ Below w.heap.size w w' := by
 have hu35 := Tryd.underlying35
 have HR0_2 := Aside0.mk hr0_2
 have HC0_2 := Aside0.mk hc0_2
 clear hr0_2 hc0_2
 have HB := Aside0.mk (Below.refl w.heap.size w)
 have H : (if a0_1.toList = ([] : List UInt8) then (if (l0_2.length : Int) > 0 then (lines_Check.j0 k true a0_0 a0_1 l0_2 a0_3) else ((strings_ContainsAny.f a0_3 (⟨#[10, 92]⟩ : ByteArray)).bind fun t156 => (if t156 = true then (lines_Check.j0 k true a0_0 a0_1 l0_2 a0_3) else ((strings_HasSuffix.f a0_3 (⟨#[13]⟩ : ByteArray)).bind fun t157 => (if t157 = true then (lines_Check.j0 k true a0_0 a0_1 l0_2 a0_3) else ((strings_HasPrefix.f a0_3 (⟨#[46]⟩ : ByteArray)).bind fun t158 => (lines_Check.j0 k t158 a0_0 a0_1 l0_2 a0_3))))))) else ((strings_ContainsAny.f a0_1 (⟨#[32, 9, 10, 13, 92, 34]⟩ : ByteArray)).bind fun t154 => (if t154 = true then (some 2) else (if 0 < (a0_1.size : Int) then (if (bt a0_1 0) = 46 then (some 2) else (if (bt a0_1 0) = 39 then (some 2) else (if a0_3.toList = ([] : List UInt8) then (if (l0_2.length : Int) > 200 then (some 2) else ((has_bad.f l0_2).bind fun t155 => (if t155 = true then (some 2) else (some 0)))) else (some 2)))) else (none))))) = some r := h
 clear h
 by_cases c2 : a0_1.toList = ([] : List UInt8)
 ·rw [if_pos c2] at H
  have c2b0 : (a0_1.toList == ([] : List UInt8)) = true := beq_iff_eq.mpr c2
  have c2b1 : (a0_1.toList != ([] : List UInt8)) = false := bne_eq_false_iff_eq.mpr c2
  clear c2
  have HC3 := Aside0.mk H
  clear H
  go_enter Tryd.func19, Tryd.ntmps19
  go_upto_region 3 with (first | ((with_reducible refine gate_dst (N := 1) rfl ?_); (try (refine gate_guard (by rfl) ?_; dsimp only)); refine box_event ?hg (N := 1) ?hd (cs := #[.int .i64 a0_0, .string a0_1, .slice A0_2 l0_2.length c0_2, .string a0_3]) (t := 35) ?hr ?_; (case hd => rfl); (case hg => rfl); (case hr => first | (go_simp; done) | (go_simp; rfl)); intro gb153 hg w4 hbox hb; have BK153 := Aside0.mk (hbox); have GW153 := Aside0.mk ((geA hg : w.heap.size ≤ gb153)); have GE153 := Aside0.mk ((geA hg : w.heap.size ≤ gb153)); replace HB := Aside0.mk (below_step bA hb); clear hb hbox hg; have hcz5_0 : w4.cell? ⟨gb153, 0, none⟩ = some (.int .i64 a0_0) := (blk_cell BK153.out 0).trans rfl; have hcz5_1 : w4.cell? ⟨gb153, 1, none⟩ = some (.string a0_1) := (blk_cell BK153.out 1).trans rfl; have hcz5_2 : w4.cell? ⟨gb153, 2, none⟩ = some (.slice A0_2 l0_2.length c0_2) := (blk_cell BK153.out 2).trans rfl; have hcz5_3 : w4.cell? ⟨gb153, 3, none⟩ = some (.string a0_3) := (blk_cell BK153.out 3).trans rfl; have hfz5_0 := blk_frozen BK153.out 0; have hfz5_1 := blk_frozen BK153.out 1; have hfz5_2 := blk_frozen BK153.out 2; have hfz5_3 := blk_frozen BK153.out 3))
  (try simp only [Act.put, List.setIfInBounds_toArray, List.set_cons_zero, List.set_cons_succ])
  go_cut [52] (fun v52 wc => ∃ (kq : Nat) (x52_2 : Bool), v52 = .bool x52_2 ∧ Aside0 (lines_Check.j0 kq x52_2 a0_0 a0_1 l0_2 a0_3 = some r) ∧ Aside0 (kq ≤ k) ∧ Aside0 (wc.heap[gb153]? = some (.cells #[.int .i64 a0_0, .string a0_1, (.slice A0_2 l0_2.length c0_2), .string a0_3] 35 (0, 0))) ∧ Aside0 (Below w.heap.size w wc))
  case first =>
   have H := HC3.out
   clear HC3
   by_cases c6 : (l0_2.length : Int) > 0
   ·rw [if_pos c6] at H
    have c6b0 : decide (0 < (l0_2.length : Int)) = true := decide_eq_true c6
    have c6b1 : decide (0 < l0_2.length) = true := decide_eq_true (by omega)
    clear c6
    (first | rw [c6b0] | (simp only [i64_w, i32_w]; rw [c6b0]) | skip)
    have H' := Aside0.mk H
    clear H
    have hcz7_0 : w4.cell? ⟨gb153, 0, none⟩ = some (.int .i64 a0_0) := (blk_cell BK153.out 0).trans rfl
    have hcz7_1 : w4.cell? ⟨gb153, 1, none⟩ = some (.string a0_1) := (blk_cell BK153.out 1).trans rfl
    have hcz7_2 : w4.cell? ⟨gb153, 2, none⟩ = some (.slice A0_2 l0_2.length c0_2) := (blk_cell BK153.out 2).trans rfl
    have hcz7_3 : w4.cell? ⟨gb153, 3, none⟩ = some (.string a0_3) := (blk_cell BK153.out 3).trans rfl
    have hfz7_0 := blk_frozen BK153.out 0
    have hfz7_1 := blk_frozen BK153.out 1
    have hfz7_2 := blk_frozen BK153.out 2
    have hfz7_3 := blk_frozen BK153.out 3
    go_wp2
    go_meet
    case rel => exact ⟨_, (true), sA, H', ⟨by first | omega | exact Nat.le_refl _⟩, ⟨kB BK153⟩, ⟨bG⟩⟩
   ·rw [if_neg c6] at H
    have c6b0 : decide (0 < (l0_2.length : Int)) = false := decide_eq_false c6
    have c6b1 : decide (0 < l0_2.length) = false := decide_eq_false (by omega)
    clear c6
    (first | rw [c6b0] | (simp only [i64_w, i32_w]; rw [c6b0]) | skip)
    replace H := Option.bind_eq_some_iff.mp H
    obtain ⟨t156, A80, H⟩ := H
    replace H : (if t156 = true then (lines_Check.j0 k true a0_0 a0_1 l0_2 a0_3) else ((strings_HasSuffix.f a0_3 (⟨#[13]⟩ : ByteArray)).bind fun t157 => (if t157 = true then (lines_Check.j0 k true a0_0 a0_1 l0_2 a0_3) else ((strings_HasPrefix.f a0_3 (⟨#[46]⟩ : ByteArray)).bind fun t158 => (lines_Check.j0 k t158 a0_0 a0_1 l0_2 a0_3))))) = some r := H
    have A8 := Aside0.mk A80
    clear A80
    by_cases c9 : t156 = true
    ·subst c9
     have H1 : (lines_Check.j0 k true a0_0 a0_1 l0_2 a0_3) = some r := by rw [if_pos rfl] at H; exact H
     clear H
     have H := H1
     clear H1
     have H' := Aside0.mk H
     clear H
     have hcz10_0 : w4.cell? ⟨gb153, 0, none⟩ = some (.int .i64 a0_0) := (blk_cell BK153.out 0).trans rfl
     have hcz10_1 : w4.cell? ⟨gb153, 1, none⟩ = some (.string a0_1) := (blk_cell BK153.out 1).trans rfl
     have hcz10_2 : w4.cell? ⟨gb153, 2, none⟩ = some (.slice A0_2 l0_2.length c0_2) := (blk_cell BK153.out 2).trans rfl
     have hcz10_3 : w4.cell? ⟨gb153, 3, none⟩ = some (.string a0_3) := (blk_cell BK153.out 3).trans rfl
     have hfz10_0 := blk_frozen BK153.out 0
     have hfz10_1 := blk_frozen BK153.out 1
     have hfz10_2 := blk_frozen BK153.out 2
     have hfz10_3 := blk_frozen BK153.out 3
     go_wp2_with (first | (go_at_call 35; (with_reducible refine (strings_ContainsAny.calls a0_3 (⟨#[10, 92]⟩ : ByteArray) true _ A8.out).mono ?_); rintro e w11 ⟨rfl, hb⟩; replace BK153 := Aside0.mk (blk_below (g := gb153) (o := .cells #[.int .i64 a0_0, .string a0_1, .slice A0_2 l0_2.length c0_2, .string a0_3] 35 (0, 0)) (kB BK153) hb); replace HB := Aside0.mk (below_step bG hb); (try clear hb); (try clear hb2); (try clear hk); (try clear hi)))
     go_meet
     case rel => exact ⟨_, (true), sA, H', ⟨by first | omega | exact Nat.le_refl _⟩, ⟨kB BK153⟩, ⟨bG⟩⟩
    ·replace c9 := Bool.eq_false_iff.mpr c9
     subst c9
     have H1 : ((strings_HasSuffix.f a0_3 (⟨#[13]⟩ : ByteArray)).bind fun t157 => (if t157 = true then (lines_Check.j0 k true a0_0 a0_1 l0_2 a0_3) else ((strings_HasPrefix.f a0_3 (⟨#[46]⟩ : ByteArray)).bind fun t158 => (lines_Check.j0 k t158 a0_0 a0_1 l0_2 a0_3)))) = some r := by rw [if_neg (show ¬ (false = true) by decide)] at H; exact H
     clear H
     have H := H1
     clear H1
     replace H := Option.bind_eq_some_iff.mp H
     obtain ⟨t157, A120, H⟩ := H
     replace H : (if t157 = true then (lines_Check.j0 k true a0_0 a0_1 l0_2 a0_3) else ((strings_HasPrefix.f a0_3 (⟨#[46]⟩ : ByteArray)).bind fun t158 => (lines_Check.j0 k t158 a0_0 a0_1 l0_2 a0_3))) = some r := H
     have A12 := Aside0.mk A120
     clear A120
     by_cases c13 : t157 = true
     ·subst c13
      have H1 : (lines_Check.j0 k true a0_0 a0_1 l0_2 a0_3) = some r := by rw [if_pos rfl] at H; exact H
      clear H
      have H := H1
      clear H1
      have H' := Aside0.mk H
      clear H
      have hcz14_0 : w4.cell? ⟨gb153, 0, none⟩ = some (.int .i64 a0_0) := (blk_cell BK153.out 0).trans rfl
      have hcz14_1 : w4.cell? ⟨gb153, 1, none⟩ = some (.string a0_1) := (blk_cell BK153.out 1).trans rfl
      have hcz14_2 : w4.cell? ⟨gb153, 2, none⟩ = some (.slice A0_2 l0_2.length c0_2) := (blk_cell BK153.out 2).trans rfl
      have hcz14_3 : w4.cell? ⟨gb153, 3, none⟩ = some (.string a0_3) := (blk_cell BK153.out 3).trans rfl
      have hfz14_0 := blk_frozen BK153.out 0
      have hfz14_1 := blk_frozen BK153.out 1
      have hfz14_2 := blk_frozen BK153.out 2
      have hfz14_3 := blk_frozen BK153.out 3
      go_wp2_with (first | (go_at_call 35; (with_reducible refine (strings_ContainsAny.calls a0_3 (⟨#[10, 92]⟩ : ByteArray) false _ A8.out).mono ?_); rintro e w15 ⟨rfl, hb⟩; replace BK153 := Aside0.mk (blk_below (g := gb153) (o := .cells #[.int .i64 a0_0, .string a0_1, .slice A0_2 l0_2.length c0_2, .string a0_3] 35 (0, 0)) (kB BK153) hb); replace HB := Aside0.mk (below_step bG hb); (try clear hb); (try clear hb2); (try clear hk); (try clear hi); have hcz16_0 : w15.cell? ⟨gb153, 0, none⟩ = some (.int .i64 a0_0) := (blk_cell BK153.out 0).trans rfl; have hcz16_1 : w15.cell? ⟨gb153, 1, none⟩ = some (.string a0_1) := (blk_cell BK153.out 1).trans rfl; have hcz16_2 : w15.cell? ⟨gb153, 2, none⟩ = some (.slice A0_2 l0_2.length c0_2) := (blk_cell BK153.out 2).trans rfl; have hcz16_3 : w15.cell? ⟨gb153, 3, none⟩ = some (.string a0_3) := (blk_cell BK153.out 3).trans rfl; have hfz16_0 := blk_frozen BK153.out 0; have hfz16_1 := blk_frozen BK153.out 1; have hfz16_2 := blk_frozen BK153.out 2; have hfz16_3 := blk_frozen BK153.out 3) | (go_at_call 36; (with_reducible refine (strings_HasSuffix.calls a0_3 (⟨#[13]⟩ : ByteArray) true _ A12.out).mono ?_); rintro e w' ⟨rfl, ⟨nd, rfl⟩⟩))
      go_meet
      case rel => exact ⟨_, (true), sA, H', ⟨by first | omega | exact Nat.le_refl _⟩, ⟨kB BK153⟩, ⟨bG⟩⟩
     ·replace c13 := Bool.eq_false_iff.mpr c13
      subst c13
      have H1 : ((strings_HasPrefix.f a0_3 (⟨#[46]⟩ : ByteArray)).bind fun t158 => (lines_Check.j0 k t158 a0_0 a0_1 l0_2 a0_3)) = some r := by rw [if_neg (show ¬ (false = true) by decide)] at H; exact H
      clear H
      have H := H1
      clear H1
      replace H := Option.bind_eq_some_iff.mp H
      obtain ⟨t158, A170, H⟩ := H
      replace H : (lines_Check.j0 k t158 a0_0 a0_1 l0_2 a0_3) = some r := H
      have A17 := Aside0.mk A170
      clear A170
      have H' := Aside0.mk H
      clear H
      have hcz18_0 : w4.cell? ⟨gb153, 0, none⟩ = some (.int .i64 a0_0) := (blk_cell BK153.out 0).trans rfl
      have hcz18_1 : w4.cell? ⟨gb153, 1, none⟩ = some (.string a0_1) := (blk_cell BK153.out 1).trans rfl
      have hcz18_2 : w4.cell? ⟨gb153, 2, none⟩ = some (.slice A0_2 l0_2.length c0_2) := (blk_cell BK153.out 2).trans rfl
      have hcz18_3 : w4.cell? ⟨gb153, 3, none⟩ = some (.string a0_3) := (blk_cell BK153.out 3).trans rfl
      have hfz18_0 := blk_frozen BK153.out 0
      have hfz18_1 := blk_frozen BK153.out 1
      have hfz18_2 := blk_frozen BK153.out 2
      have hfz18_3 := blk_frozen BK153.out 3
      go_wp2_with (first | (go_at_call 35; (with_reducible refine (strings_ContainsAny.calls a0_3 (⟨#[10, 92]⟩ : ByteArray) false _ A8.out).mono ?_); rintro e w19 ⟨rfl, hb⟩; replace BK153 := Aside0.mk (blk_below (g := gb153) (o := .cells #[.int .i64 a0_0, .string a0_1, .slice A0_2 l0_2.length c0_2, .string a0_3] 35 (0, 0)) (kB BK153) hb); replace HB := Aside0.mk (below_step bG hb); (try clear hb); (try clear hb2); (try clear hk); (try clear hi); have hcz20_0 : w19.cell? ⟨gb153, 0, none⟩ = some (.int .i64 a0_0) := (blk_cell BK153.out 0).trans rfl; have hcz20_1 : w19.cell? ⟨gb153, 1, none⟩ = some (.string a0_1) := (blk_cell BK153.out 1).trans rfl; have hcz20_2 : w19.cell? ⟨gb153, 2, none⟩ = some (.slice A0_2 l0_2.length c0_2) := (blk_cell BK153.out 2).trans rfl; have hcz20_3 : w19.cell? ⟨gb153, 3, none⟩ = some (.string a0_3) := (blk_cell BK153.out 3).trans rfl; have hfz20_0 := blk_frozen BK153.out 0; have hfz20_1 := blk_frozen BK153.out 1; have hfz20_2 := blk_frozen BK153.out 2; have hfz20_3 := blk_frozen BK153.out 3) | (go_at_call 36; (with_reducible refine (strings_HasSuffix.calls a0_3 (⟨#[13]⟩ : ByteArray) false _ A12.out).mono ?_); rintro e w' ⟨rfl, ⟨nd, rfl⟩⟩) | (go_at_call 37; (with_reducible refine (strings_HasPrefix.calls a0_3 (⟨#[46]⟩ : ByteArray) t158 _ A17.out).mono ?_); rintro e w' ⟨rfl, ⟨nd, rfl⟩⟩))
      go_meet
      case rel => exact ⟨_, (t158), sA, H', ⟨by first | omega | exact Nat.le_refl _⟩, ⟨kB BK153⟩, ⟨bG⟩⟩
  case rest =>
   clear HC3
   try clear c1
   try clear c2
   try clear c2b0
   try clear c2b1
   try clear p2
   try clear c6
   try clear c6b0
   try clear c6b1
   try clear c9
   try clear c13
   try clear c19
   try clear hcz10_0
   try clear hcz10_1
   try clear hcz10_2
   try clear hcz10_3
   try clear hcz14_0
   try clear hcz14_1
   try clear hcz14_2
   try clear hcz14_3
   try clear hcz16_0
   try clear hcz16_1
   try clear hcz16_2
   try clear hcz16_3
   try clear hcz18_0
   try clear hcz18_1
   try clear hcz18_2
   try clear hcz18_3
   try clear hcz20_0
   try clear hcz20_1
   try clear hcz20_2
   try clear hcz20_3
   try clear hcz5_0
   try clear hcz5_1
   try clear hcz5_2
   try clear hcz5_3
   try clear hcz7_0
   try clear hcz7_1
   try clear hcz7_2
   try clear hcz7_3
   try clear hfz10_0
   try clear hfz10_1
   try clear hfz10_2
   try clear hfz10_3
   try clear hfz14_0
   try clear hfz14_1
   try clear hfz14_2
   try clear hfz14_3
   try clear hfz16_0
   try clear hfz16_1
   try clear hfz16_2
   try clear hfz16_3
   try clear hfz18_0
   try clear hfz18_1
   try clear hfz18_2
   try clear hfz18_3
   try clear hfz20_0
   try clear hfz20_1
   try clear hfz20_2
   try clear hfz20_3
   try clear hfz5_0
   try clear hfz5_1
   try clear hfz5_2
   try clear hfz5_3
   try clear hfz7_0
   try clear hfz7_1
   try clear hfz7_2
   try clear hfz7_3
   obtain ⟨kq, x52_2, rfl, HA, HJ2, BK153, HB⟩ := hcut
   cases kq with
   | zero => exact absurd HA.out (by simp [lines_Check.j0])
   | succ kj2 =>
    have H := HA.out
    clear HA
    simp only [lines_Check.j0] at H
    by_cases c21 : x52_2 = true
    ·subst c21
     have H1 : (some 2) = some r := by rw [if_pos rfl] at H; exact H
     clear H
     have H := H1
     clear H1
     obtain rfl := Option.some.inj H
     go_wp2
     go_ret
     exact ⟨eW, bG⟩
    ·replace c21 := Bool.eq_false_iff.mpr c21
     subst c21
     have H1 : ((strings_HasPrefix.f a0_3 (⟨#[39]⟩ : ByteArray)).bind fun t159 => (if t159 = true then (some 2) else (some 0))) = some r := by rw [if_neg (show ¬ (false = true) by decide)] at H; exact H
     clear H
     have H := H1
     clear H1
     replace H := Option.bind_eq_some_iff.mp H
     obtain ⟨t159, A220, H⟩ := H
     replace H : (if t159 = true then (some 2) else (some 0)) = some r := H
     have A22 := Aside0.mk A220
     clear A220
     by_cases c23 : t159 = true
     ·subst c23
      have H1 : (some 2) = some r := by rw [if_pos rfl] at H; exact H
      clear H
      have H := H1
      clear H1
      obtain rfl := Option.some.inj H
      have hcz24_0 : wc.cell? ⟨gb153, 0, none⟩ = some (.int .i64 a0_0) := (blk_cell BK153.out 0).trans rfl
      have hcz24_1 : wc.cell? ⟨gb153, 1, none⟩ = some (.string a0_1) := (blk_cell BK153.out 1).trans rfl
      have hcz24_2 : wc.cell? ⟨gb153, 2, none⟩ = some (.slice A0_2 l0_2.length c0_2) := (blk_cell BK153.out 2).trans rfl
      have hcz24_3 : wc.cell? ⟨gb153, 3, none⟩ = some (.string a0_3) := (blk_cell BK153.out 3).trans rfl
      have hfz24_0 := blk_frozen BK153.out 0
      have hfz24_1 := blk_frozen BK153.out 1
      have hfz24_2 := blk_frozen BK153.out 2
      have hfz24_3 := blk_frozen BK153.out 3
      go_wp2_with (first | ((with_reducible refine gate_callee (f := 37) rfl ?_); refine goesL_ (some 55) rfl rfl Tryd.func37 (by kernel_rfl) rfl #[.string a0_3, .string (⟨#[39]⟩ : ByteArray)] rfl aP ?_; (with_reducible refine (strings_HasPrefix.calls a0_3 (⟨#[39]⟩ : ByteArray) true _ A22.out).mono ?_); rintro e w' ⟨rfl, ⟨nd, rfl⟩⟩; refine ⟨_, rfl, ?_⟩))
      go_ret
      exact ⟨eW, bG⟩
     ·replace c23 := Bool.eq_false_iff.mpr c23
      subst c23
      have H1 : (some 0) = some r := by rw [if_neg (show ¬ (false = true) by decide)] at H; exact H
      clear H
      have H := H1
      clear H1
      obtain rfl := Option.some.inj H
      have hcz25_0 : wc.cell? ⟨gb153, 0, none⟩ = some (.int .i64 a0_0) := (blk_cell BK153.out 0).trans rfl
      have hcz25_1 : wc.cell? ⟨gb153, 1, none⟩ = some (.string a0_1) := (blk_cell BK153.out 1).trans rfl
      have hcz25_2 : wc.cell? ⟨gb153, 2, none⟩ = some (.slice A0_2 l0_2.length c0_2) := (blk_cell BK153.out 2).trans rfl
      have hcz25_3 : wc.cell? ⟨gb153, 3, none⟩ = some (.string a0_3) := (blk_cell BK153.out 3).trans rfl
      have hfz25_0 := blk_frozen BK153.out 0
      have hfz25_1 := blk_frozen BK153.out 1
      have hfz25_2 := blk_frozen BK153.out 2
      have hfz25_3 := blk_frozen BK153.out 3
      go_wp2_with (first | ((with_reducible refine gate_callee (f := 37) rfl ?_); refine goesL_ (some 55) rfl rfl Tryd.func37 (by kernel_rfl) rfl #[.string a0_3, .string (⟨#[39]⟩ : ByteArray)] rfl aP ?_; (with_reducible refine (strings_HasPrefix.calls a0_3 (⟨#[39]⟩ : ByteArray) false _ A22.out).mono ?_); rintro e w' ⟨rfl, ⟨nd, rfl⟩⟩; refine ⟨_, rfl, ?_⟩))
      go_ret
      exact ⟨eW, bG⟩
 ·rw [if_neg c2] at H
  have c2b0 : (a0_1.toList == ([] : List UInt8)) = false := beq_eq_false_iff_ne.mpr c2
  have c2b1 : (a0_1.toList != ([] : List UInt8)) = true := bne_iff_ne.mpr c2
  replace H := Option.bind_eq_some_iff.mp H
  obtain ⟨t154, A260, H⟩ := H
  replace H : (if t154 = true then (some 2) else (if 0 < (a0_1.size : Int) then (if (bt a0_1 0) = 46 then (some 2) else (if (bt a0_1 0) = 39 then (some 2) else (if a0_3.toList = ([] : List UInt8) then (if (l0_2.length : Int) > 200 then (some 2) else ((has_bad.f l0_2).bind fun t155 => (if t155 = true then (some 2) else (some 0)))) else (some 2)))) else (none))) = some r := H
  have A26 := Aside0.mk A260
  clear A260
  by_cases c27 : t154 = true
  ·subst c27
   have H1 : (some 2) = some r := by rw [if_pos rfl] at H; exact H
   clear H
   have H := H1
   clear H1
   obtain rfl := Option.some.inj H
   go_enter Tryd.func19, Tryd.ntmps19
   go_wp2_with (first | ((with_reducible refine gate_dst (N := 1) rfl ?_); (try (refine gate_guard (by rfl) ?_; dsimp only)); refine box_event ?hg (N := 1) ?hd (cs := #[.int .i64 a0_0, .string a0_1, .slice A0_2 l0_2.length c0_2, .string a0_3]) (t := 35) ?hr ?_; (case hd => rfl); (case hg => rfl); (case hr => first | (go_simp; done) | (go_simp; rfl)); intro gb153 hg w28 hbox hb; have BK153 := Aside0.mk (hbox); have GW153 := Aside0.mk ((geA hg : w.heap.size ≤ gb153)); have GE153 := Aside0.mk ((geA hg : w.heap.size ≤ gb153)); replace HB := Aside0.mk (below_step bA hb); clear hb hbox hg; have hcz29_0 : w28.cell? ⟨gb153, 0, none⟩ = some (.int .i64 a0_0) := (blk_cell BK153.out 0).trans rfl; have hcz29_1 : w28.cell? ⟨gb153, 1, none⟩ = some (.string a0_1) := (blk_cell BK153.out 1).trans rfl; have hcz29_2 : w28.cell? ⟨gb153, 2, none⟩ = some (.slice A0_2 l0_2.length c0_2) := (blk_cell BK153.out 2).trans rfl; have hcz29_3 : w28.cell? ⟨gb153, 3, none⟩ = some (.string a0_3) := (blk_cell BK153.out 3).trans rfl; have hfz29_0 := blk_frozen BK153.out 0; have hfz29_1 := blk_frozen BK153.out 1; have hfz29_2 := blk_frozen BK153.out 2; have hfz29_3 := blk_frozen BK153.out 3) | ((with_reducible refine gate_callee (f := 35) rfl ?_); refine goesL_ (some 10) rfl rfl Tryd.func35 (by kernel_rfl) rfl #[.string a0_1, .string (⟨#[32, 9, 10, 13, 92, 34]⟩ : ByteArray)] rfl aP ?_; (with_reducible refine (strings_ContainsAny.calls a0_1 (⟨#[32, 9, 10, 13, 92, 34]⟩ : ByteArray) true _ A26.out).mono ?_); rintro e w30 ⟨rfl, hb⟩; refine ⟨_, rfl, ?_⟩; replace BK153 := Aside0.mk (blk_below (g := gb153) (o := .cells #[.int .i64 a0_0, .string a0_1, .slice A0_2 l0_2.length c0_2, .string a0_3] 35 (0, 0)) (kB BK153) hb); replace HB := Aside0.mk (below_step bG hb); (try clear hb); (try clear hb2); (try clear hk); (try clear hi)))
   go_ret
   exact ⟨eW, bG⟩
  ·replace c27 := Bool.eq_false_iff.mpr c27
   subst c27
   have H1 : (if 0 < (a0_1.size : Int) then (if (bt a0_1 0) = 46 then (some 2) else (if (bt a0_1 0) = 39 then (some 2) else (if a0_3.toList = ([] : List UInt8) then (if (l0_2.length : Int) > 200 then (some 2) else ((has_bad.f l0_2).bind fun t155 => (if t155 = true then (some 2) else (some 0)))) else (some 2)))) else (none)) = some r := by rw [if_neg (show ¬ (false = true) by decide)] at H; exact H
   clear H
   have H := H1
   clear H1
   by_cases c31 : 0 < (a0_1.size : Int)
   ·rw [if_pos c31] at H
    have c31b0 : decide (0 < (a0_1.size : Int)) = true := decide_eq_true c31
    have c31b1 : decide (0 < a0_1.size) = true := decide_eq_true (by omega)
    clear c31
    by_cases c33 : (bt a0_1 0) = 46
    ·rw [if_pos c33] at H
     have c33b0 : ((bt a0_1 0) == 46) = true := beq_iff_eq.mpr c33
     have c33b1 : ((bt a0_1 0) != 46) = false := bne_eq_false_iff_eq.mpr c33
     clear c33
     obtain rfl := Option.some.inj H
     go_enter Tryd.func19, Tryd.ntmps19
     go_wp2_with (first | ((with_reducible refine gate_dst (N := 1) rfl ?_); (try (refine gate_guard (by rfl) ?_; dsimp only)); refine box_event ?hg (N := 1) ?hd (cs := #[.int .i64 a0_0, .string a0_1, .slice A0_2 l0_2.length c0_2, .string a0_3]) (t := 35) ?hr ?_; (case hd => rfl); (case hg => rfl); (case hr => first | (go_simp; done) | (go_simp; rfl)); intro gb153 hg w34 hbox hb; have BK153 := Aside0.mk (hbox); have GW153 := Aside0.mk ((geA hg : w.heap.size ≤ gb153)); have GE153 := Aside0.mk ((geA hg : w.heap.size ≤ gb153)); replace HB := Aside0.mk (below_step bA hb); clear hb hbox hg; have hcz35_0 : w34.cell? ⟨gb153, 0, none⟩ = some (.int .i64 a0_0) := (blk_cell BK153.out 0).trans rfl; have hcz35_1 : w34.cell? ⟨gb153, 1, none⟩ = some (.string a0_1) := (blk_cell BK153.out 1).trans rfl; have hcz35_2 : w34.cell? ⟨gb153, 2, none⟩ = some (.slice A0_2 l0_2.length c0_2) := (blk_cell BK153.out 2).trans rfl; have hcz35_3 : w34.cell? ⟨gb153, 3, none⟩ = some (.string a0_3) := (blk_cell BK153.out 3).trans rfl; have hfz35_0 := blk_frozen BK153.out 0; have hfz35_1 := blk_frozen BK153.out 1; have hfz35_2 := blk_frozen BK153.out 2; have hfz35_3 := blk_frozen BK153.out 3) | ((with_reducible refine gate_callee (f := 35) rfl ?_); refine goesL_ (some 10) rfl rfl Tryd.func35 (by kernel_rfl) rfl #[.string a0_1, .string (⟨#[32, 9, 10, 13, 92, 34]⟩ : ByteArray)] rfl aP ?_; (with_reducible refine (strings_ContainsAny.calls a0_1 (⟨#[32, 9, 10, 13, 92, 34]⟩ : ByteArray) false _ A26.out).mono ?_); rintro e w36 ⟨rfl, hb⟩; refine ⟨_, rfl, ?_⟩; replace BK153 := Aside0.mk (blk_below (g := gb153) (o := .cells #[.int .i64 a0_0, .string a0_1, .slice A0_2 l0_2.length c0_2, .string a0_3] 35 (0, 0)) (kB BK153) hb); replace HB := Aside0.mk (below_step bG hb); (try clear hb); (try clear hb2); (try clear hk); (try clear hi); have hcz37_0 : w36.cell? ⟨gb153, 0, none⟩ = some (.int .i64 a0_0) := (blk_cell BK153.out 0).trans rfl; have hcz37_1 : w36.cell? ⟨gb153, 1, none⟩ = some (.string a0_1) := (blk_cell BK153.out 1).trans rfl; have hcz37_2 : w36.cell? ⟨gb153, 2, none⟩ = some (.slice A0_2 l0_2.length c0_2) := (blk_cell BK153.out 2).trans rfl; have hcz37_3 : w36.cell? ⟨gb153, 3, none⟩ = some (.string a0_3) := (blk_cell BK153.out 3).trans rfl; have hfz37_0 := blk_frozen BK153.out 0; have hfz37_1 := blk_frozen BK153.out 1; have hfz37_2 := blk_frozen BK153.out 2; have hfz37_3 := blk_frozen BK153.out 3; have p32 : 0 ≤ (0 : Int) := (by omega); have q32 : 0 < a0_1.size := (by have : (0 : Int) < (a0_1.size : Int) := of_decide_eq_true asA; omega); have hx32 : ∀ h : 0 < a0_1.size, ((a0_1[0]'h).toNat : Int) = bt a0_1 0 := bt_at a0_1 0; clear p32; have qi32 : (0 < (a0_1.size : Int)) = True := eq_true (of_decide_eq_true asA); replace q32 := eq_true q32))
     go_ret
     exact ⟨eW, bG⟩
    ·rw [if_neg c33] at H
     have c33b0 : ((bt a0_1 0) == 46) = false := beq_eq_false_iff_ne.mpr c33
     have c33b1 : ((bt a0_1 0) != 46) = true := bne_iff_ne.mpr c33
     by_cases c39 : (bt a0_1 0) = 39
     ·rw [if_pos c39] at H
      have c39b0 : ((bt a0_1 0) == 39) = true := beq_iff_eq.mpr c39
      have c39b1 : ((bt a0_1 0) != 39) = false := bne_eq_false_iff_eq.mpr c39
      clear c39
      obtain rfl := Option.some.inj H
      go_enter Tryd.func19, Tryd.ntmps19
      go_wp2_with (first | ((with_reducible refine gate_dst (N := 1) rfl ?_); (try (refine gate_guard (by rfl) ?_; dsimp only)); refine box_event ?hg (N := 1) ?hd (cs := #[.int .i64 a0_0, .string a0_1, .slice A0_2 l0_2.length c0_2, .string a0_3]) (t := 35) ?hr ?_; (case hd => rfl); (case hg => rfl); (case hr => first | (go_simp; done) | (go_simp; rfl)); intro gb153 hg w40 hbox hb; have BK153 := Aside0.mk (hbox); have GW153 := Aside0.mk ((geA hg : w.heap.size ≤ gb153)); have GE153 := Aside0.mk ((geA hg : w.heap.size ≤ gb153)); replace HB := Aside0.mk (below_step bA hb); clear hb hbox hg; have hcz41_0 : w40.cell? ⟨gb153, 0, none⟩ = some (.int .i64 a0_0) := (blk_cell BK153.out 0).trans rfl; have hcz41_1 : w40.cell? ⟨gb153, 1, none⟩ = some (.string a0_1) := (blk_cell BK153.out 1).trans rfl; have hcz41_2 : w40.cell? ⟨gb153, 2, none⟩ = some (.slice A0_2 l0_2.length c0_2) := (blk_cell BK153.out 2).trans rfl; have hcz41_3 : w40.cell? ⟨gb153, 3, none⟩ = some (.string a0_3) := (blk_cell BK153.out 3).trans rfl; have hfz41_0 := blk_frozen BK153.out 0; have hfz41_1 := blk_frozen BK153.out 1; have hfz41_2 := blk_frozen BK153.out 2; have hfz41_3 := blk_frozen BK153.out 3) | ((with_reducible refine gate_callee (f := 35) rfl ?_); refine goesL_ (some 10) rfl rfl Tryd.func35 (by kernel_rfl) rfl #[.string a0_1, .string (⟨#[32, 9, 10, 13, 92, 34]⟩ : ByteArray)] rfl aP ?_; (with_reducible refine (strings_ContainsAny.calls a0_1 (⟨#[32, 9, 10, 13, 92, 34]⟩ : ByteArray) false _ A26.out).mono ?_); rintro e w42 ⟨rfl, hb⟩; refine ⟨_, rfl, ?_⟩; replace BK153 := Aside0.mk (blk_below (g := gb153) (o := .cells #[.int .i64 a0_0, .string a0_1, .slice A0_2 l0_2.length c0_2, .string a0_3] 35 (0, 0)) (kB BK153) hb); replace HB := Aside0.mk (below_step bG hb); (try clear hb); (try clear hb2); (try clear hk); (try clear hi); have hcz43_0 : w42.cell? ⟨gb153, 0, none⟩ = some (.int .i64 a0_0) := (blk_cell BK153.out 0).trans rfl; have hcz43_1 : w42.cell? ⟨gb153, 1, none⟩ = some (.string a0_1) := (blk_cell BK153.out 1).trans rfl; have hcz43_2 : w42.cell? ⟨gb153, 2, none⟩ = some (.slice A0_2 l0_2.length c0_2) := (blk_cell BK153.out 2).trans rfl; have hcz43_3 : w42.cell? ⟨gb153, 3, none⟩ = some (.string a0_3) := (blk_cell BK153.out 3).trans rfl; have hfz43_0 := blk_frozen BK153.out 0; have hfz43_1 := blk_frozen BK153.out 1; have hfz43_2 := blk_frozen BK153.out 2; have hfz43_3 := blk_frozen BK153.out 3; have p32 : 0 ≤ (0 : Int) := (by omega); have q32 : 0 < a0_1.size := (by have : (0 : Int) < (a0_1.size : Int) := of_decide_eq_true asA; omega); have hx32 : ∀ h : 0 < a0_1.size, ((a0_1[0]'h).toNat : Int) = bt a0_1 0 := bt_at a0_1 0; clear p32; have qi32 : (0 < (a0_1.size : Int)) = True := eq_true (of_decide_eq_true asA); replace q32 := eq_true q32; have p38 : 0 ≤ (0 : Int) := (by omega); have q38 : 0 < a0_1.size := (by have : (0 : Int) < (a0_1.size : Int) := of_decide_eq_true asA; omega); have hx38 : ∀ h : 0 < a0_1.size, ((a0_1[0]'h).toNat : Int) = bt a0_1 0 := bt_at a0_1 0; clear p38; have qi38 : (0 < (a0_1.size : Int)) = True := eq_true (of_decide_eq_true asA); replace q38 := eq_true q38))
      go_ret
      exact ⟨eW, bG⟩
     ·rw [if_neg c39] at H
      have c39b0 : ((bt a0_1 0) == 39) = false := beq_eq_false_iff_ne.mpr c39
      have c39b1 : ((bt a0_1 0) != 39) = true := bne_iff_ne.mpr c39
      by_cases c44 : a0_3.toList = ([] : List UInt8)
      ·rw [if_pos c44] at H
       have c44b0 : (a0_3.toList == ([] : List UInt8)) = true := beq_iff_eq.mpr c44
       have c44b1 : (a0_3.toList != ([] : List UInt8)) = false := bne_eq_false_iff_eq.mpr c44
       clear c44
       by_cases c45 : (l0_2.length : Int) > 200
       ·rw [if_pos c45] at H
        have c45b0 : decide (200 < (l0_2.length : Int)) = true := decide_eq_true c45
        have c45b1 : decide (200 < l0_2.length) = true := decide_eq_true (by omega)
        clear c45
        obtain rfl := Option.some.inj H
        go_enter Tryd.func19, Tryd.ntmps19
        go_wp2_with (first | ((with_reducible refine gate_dst (N := 1) rfl ?_); (try (refine gate_guard (by rfl) ?_; dsimp only)); refine box_event ?hg (N := 1) ?hd (cs := #[.int .i64 a0_0, .string a0_1, .slice A0_2 l0_2.length c0_2, .string a0_3]) (t := 35) ?hr ?_; (case hd => rfl); (case hg => rfl); (case hr => first | (go_simp; done) | (go_simp; rfl)); intro gb153 hg w46 hbox hb; have BK153 := Aside0.mk (hbox); have GW153 := Aside0.mk ((geA hg : w.heap.size ≤ gb153)); have GE153 := Aside0.mk ((geA hg : w.heap.size ≤ gb153)); replace HB := Aside0.mk (below_step bA hb); clear hb hbox hg; have hcz47_0 : w46.cell? ⟨gb153, 0, none⟩ = some (.int .i64 a0_0) := (blk_cell BK153.out 0).trans rfl; have hcz47_1 : w46.cell? ⟨gb153, 1, none⟩ = some (.string a0_1) := (blk_cell BK153.out 1).trans rfl; have hcz47_2 : w46.cell? ⟨gb153, 2, none⟩ = some (.slice A0_2 l0_2.length c0_2) := (blk_cell BK153.out 2).trans rfl; have hcz47_3 : w46.cell? ⟨gb153, 3, none⟩ = some (.string a0_3) := (blk_cell BK153.out 3).trans rfl; have hfz47_0 := blk_frozen BK153.out 0; have hfz47_1 := blk_frozen BK153.out 1; have hfz47_2 := blk_frozen BK153.out 2; have hfz47_3 := blk_frozen BK153.out 3) | ((with_reducible refine gate_callee (f := 35) rfl ?_); refine goesL_ (some 10) rfl rfl Tryd.func35 (by kernel_rfl) rfl #[.string a0_1, .string (⟨#[32, 9, 10, 13, 92, 34]⟩ : ByteArray)] rfl aP ?_; (with_reducible refine (strings_ContainsAny.calls a0_1 (⟨#[32, 9, 10, 13, 92, 34]⟩ : ByteArray) false _ A26.out).mono ?_); rintro e w48 ⟨rfl, hb⟩; refine ⟨_, rfl, ?_⟩; replace BK153 := Aside0.mk (blk_below (g := gb153) (o := .cells #[.int .i64 a0_0, .string a0_1, .slice A0_2 l0_2.length c0_2, .string a0_3] 35 (0, 0)) (kB BK153) hb); replace HB := Aside0.mk (below_step bG hb); (try clear hb); (try clear hb2); (try clear hk); (try clear hi); have hcz49_0 : w48.cell? ⟨gb153, 0, none⟩ = some (.int .i64 a0_0) := (blk_cell BK153.out 0).trans rfl; have hcz49_1 : w48.cell? ⟨gb153, 1, none⟩ = some (.string a0_1) := (blk_cell BK153.out 1).trans rfl; have hcz49_2 : w48.cell? ⟨gb153, 2, none⟩ = some (.slice A0_2 l0_2.length c0_2) := (blk_cell BK153.out 2).trans rfl; have hcz49_3 : w48.cell? ⟨gb153, 3, none⟩ = some (.string a0_3) := (blk_cell BK153.out 3).trans rfl; have hfz49_0 := blk_frozen BK153.out 0; have hfz49_1 := blk_frozen BK153.out 1; have hfz49_2 := blk_frozen BK153.out 2; have hfz49_3 := blk_frozen BK153.out 3; have p32 : 0 ≤ (0 : Int) := (by omega); have q32 : 0 < a0_1.size := (by have : (0 : Int) < (a0_1.size : Int) := of_decide_eq_true asA; omega); have hx32 : ∀ h : 0 < a0_1.size, ((a0_1[0]'h).toNat : Int) = bt a0_1 0 := bt_at a0_1 0; clear p32; have qi32 : (0 < (a0_1.size : Int)) = True := eq_true (of_decide_eq_true asA); replace q32 := eq_true q32; have p38 : 0 ≤ (0 : Int) := (by omega); have q38 : 0 < a0_1.size := (by have : (0 : Int) < (a0_1.size : Int) := of_decide_eq_true asA; omega); have hx38 : ∀ h : 0 < a0_1.size, ((a0_1[0]'h).toNat : Int) = bt a0_1 0 := bt_at a0_1 0; clear p38; have qi38 : (0 < (a0_1.size : Int)) = True := eq_true (of_decide_eq_true asA); replace q38 := eq_true q38))
        go_ret
        exact ⟨eW, bG⟩
       ·rw [if_neg c45] at H
        have c45b0 : decide (200 < (l0_2.length : Int)) = false := decide_eq_false c45
        have c45b1 : decide (200 < l0_2.length) = false := decide_eq_false (by omega)
        clear c45
        replace H := Option.bind_eq_some_iff.mp H
        obtain ⟨t155, A500, H⟩ := H
        replace H : (if t155 = true then (some 2) else (some 0)) = some r := H
        have A50 := Aside0.mk A500
        clear A500
        by_cases c51 : t155 = true
        ·subst c51
         have H1 : (some 2) = some r := by rw [if_pos rfl] at H; exact H
         clear H
         have H := H1
         clear H1
         obtain rfl := Option.some.inj H
         go_enter Tryd.func19, Tryd.ntmps19
         go_wp2_with (first | ((with_reducible refine gate_dst (N := 1) rfl ?_); (try (refine gate_guard (by rfl) ?_; dsimp only)); refine box_event ?hg (N := 1) ?hd (cs := #[.int .i64 a0_0, .string a0_1, .slice A0_2 l0_2.length c0_2, .string a0_3]) (t := 35) ?hr ?_; (case hd => rfl); (case hg => rfl); (case hr => first | (go_simp; done) | (go_simp; rfl)); intro gb153 hg w52 hbox hb; have BK153 := Aside0.mk (hbox); have GW153 := Aside0.mk ((geA hg : w.heap.size ≤ gb153)); have GE153 := Aside0.mk ((geA hg : w.heap.size ≤ gb153)); replace HB := Aside0.mk (below_step bA hb); clear hb hbox hg; have hcz53_0 : w52.cell? ⟨gb153, 0, none⟩ = some (.int .i64 a0_0) := (blk_cell BK153.out 0).trans rfl; have hcz53_1 : w52.cell? ⟨gb153, 1, none⟩ = some (.string a0_1) := (blk_cell BK153.out 1).trans rfl; have hcz53_2 : w52.cell? ⟨gb153, 2, none⟩ = some (.slice A0_2 l0_2.length c0_2) := (blk_cell BK153.out 2).trans rfl; have hcz53_3 : w52.cell? ⟨gb153, 3, none⟩ = some (.string a0_3) := (blk_cell BK153.out 3).trans rfl; have hfz53_0 := blk_frozen BK153.out 0; have hfz53_1 := blk_frozen BK153.out 1; have hfz53_2 := blk_frozen BK153.out 2; have hfz53_3 := blk_frozen BK153.out 3) | ((with_reducible refine gate_callee (f := 35) rfl ?_); refine goesL_ (some 10) rfl rfl Tryd.func35 (by kernel_rfl) rfl #[.string a0_1, .string (⟨#[32, 9, 10, 13, 92, 34]⟩ : ByteArray)] rfl aP ?_; (with_reducible refine (strings_ContainsAny.calls a0_1 (⟨#[32, 9, 10, 13, 92, 34]⟩ : ByteArray) false _ A26.out).mono ?_); rintro e w54 ⟨rfl, hb⟩; refine ⟨_, rfl, ?_⟩; replace BK153 := Aside0.mk (blk_below (g := gb153) (o := .cells #[.int .i64 a0_0, .string a0_1, .slice A0_2 l0_2.length c0_2, .string a0_3] 35 (0, 0)) (kB BK153) hb); replace HB := Aside0.mk (below_step bG hb); (try clear hb); (try clear hb2); (try clear hk); (try clear hi); have hcz55_0 : w54.cell? ⟨gb153, 0, none⟩ = some (.int .i64 a0_0) := (blk_cell BK153.out 0).trans rfl; have hcz55_1 : w54.cell? ⟨gb153, 1, none⟩ = some (.string a0_1) := (blk_cell BK153.out 1).trans rfl; have hcz55_2 : w54.cell? ⟨gb153, 2, none⟩ = some (.slice A0_2 l0_2.length c0_2) := (blk_cell BK153.out 2).trans rfl; have hcz55_3 : w54.cell? ⟨gb153, 3, none⟩ = some (.string a0_3) := (blk_cell BK153.out 3).trans rfl; have hfz55_0 := blk_frozen BK153.out 0; have hfz55_1 := blk_frozen BK153.out 1; have hfz55_2 := blk_frozen BK153.out 2; have hfz55_3 := blk_frozen BK153.out 3; have p32 : 0 ≤ (0 : Int) := (by omega); have q32 : 0 < a0_1.size := (by have : (0 : Int) < (a0_1.size : Int) := of_decide_eq_true asA; omega); have hx32 : ∀ h : 0 < a0_1.size, ((a0_1[0]'h).toNat : Int) = bt a0_1 0 := bt_at a0_1 0; clear p32; have qi32 : (0 < (a0_1.size : Int)) = True := eq_true (of_decide_eq_true asA); replace q32 := eq_true q32; have p38 : 0 ≤ (0 : Int) := (by omega); have q38 : 0 < a0_1.size := (by have : (0 : Int) < (a0_1.size : Int) := of_decide_eq_true asA; omega); have hx38 : ∀ h : 0 < a0_1.size, ((a0_1[0]'h).toNat : Int) = bt a0_1 0 := bt_at a0_1 0; clear p38; have qi38 : (0 < (a0_1.size : Int)) = True := eq_true (of_decide_eq_true asA); replace q38 := eq_true q38) | ((with_reducible refine gate_callee (f := 38) rfl ?_); refine goesL_ (some 59) rfl rfl Tryd.func38 (by kernel_rfl) rfl #[.slice A0_2 l0_2.length c0_2, .func (.func 39) #[] #[]] rfl aP ?_; (with_reducible refine (has_bad.calls _ _ l0_2 true _ ?side1 ?side2 A50.out).mono ?_); (case side1 => repeat (first | exact (Kd.C_below HR0_2.out HB.out) | (with_reducible refine Kd.C_alloc ?_ _) | (with_reducible refine Kd.C_drewN ?_ _) | (with_reducible refine Kd.C_drew ?_))); (case side2 => exact HC0_2.out); rintro e w56 ⟨rfl, hb⟩; refine ⟨_, rfl, ?_⟩; replace BK153 := Aside0.mk (blk_below (g := gb153) (o := .cells #[.int .i64 a0_0, .string a0_1, .slice A0_2 l0_2.length c0_2, .string a0_3] 35 (0, 0)) (kB BK153) hb); replace HB := Aside0.mk (below_step bG hb); (try clear hb); (try clear hb2); (try clear hk); (try clear hi)))
         go_ret
         exact ⟨eW, bG⟩
        ·replace c51 := Bool.eq_false_iff.mpr c51
         subst c51
         have H1 : (some 0) = some r := by rw [if_neg (show ¬ (false = true) by decide)] at H; exact H
         clear H
         have H := H1
         clear H1
         obtain rfl := Option.some.inj H
         go_enter Tryd.func19, Tryd.ntmps19
         go_wp2_with (first | ((with_reducible refine gate_dst (N := 1) rfl ?_); (try (refine gate_guard (by rfl) ?_; dsimp only)); refine box_event ?hg (N := 1) ?hd (cs := #[.int .i64 a0_0, .string a0_1, .slice A0_2 l0_2.length c0_2, .string a0_3]) (t := 35) ?hr ?_; (case hd => rfl); (case hg => rfl); (case hr => first | (go_simp; done) | (go_simp; rfl)); intro gb153 hg w57 hbox hb; have BK153 := Aside0.mk (hbox); have GW153 := Aside0.mk ((geA hg : w.heap.size ≤ gb153)); have GE153 := Aside0.mk ((geA hg : w.heap.size ≤ gb153)); replace HB := Aside0.mk (below_step bA hb); clear hb hbox hg; have hcz58_0 : w57.cell? ⟨gb153, 0, none⟩ = some (.int .i64 a0_0) := (blk_cell BK153.out 0).trans rfl; have hcz58_1 : w57.cell? ⟨gb153, 1, none⟩ = some (.string a0_1) := (blk_cell BK153.out 1).trans rfl; have hcz58_2 : w57.cell? ⟨gb153, 2, none⟩ = some (.slice A0_2 l0_2.length c0_2) := (blk_cell BK153.out 2).trans rfl; have hcz58_3 : w57.cell? ⟨gb153, 3, none⟩ = some (.string a0_3) := (blk_cell BK153.out 3).trans rfl; have hfz58_0 := blk_frozen BK153.out 0; have hfz58_1 := blk_frozen BK153.out 1; have hfz58_2 := blk_frozen BK153.out 2; have hfz58_3 := blk_frozen BK153.out 3) | ((with_reducible refine gate_callee (f := 35) rfl ?_); refine goesL_ (some 10) rfl rfl Tryd.func35 (by kernel_rfl) rfl #[.string a0_1, .string (⟨#[32, 9, 10, 13, 92, 34]⟩ : ByteArray)] rfl aP ?_; (with_reducible refine (strings_ContainsAny.calls a0_1 (⟨#[32, 9, 10, 13, 92, 34]⟩ : ByteArray) false _ A26.out).mono ?_); rintro e w59 ⟨rfl, hb⟩; refine ⟨_, rfl, ?_⟩; replace BK153 := Aside0.mk (blk_below (g := gb153) (o := .cells #[.int .i64 a0_0, .string a0_1, .slice A0_2 l0_2.length c0_2, .string a0_3] 35 (0, 0)) (kB BK153) hb); replace HB := Aside0.mk (below_step bG hb); (try clear hb); (try clear hb2); (try clear hk); (try clear hi); have hcz60_0 : w59.cell? ⟨gb153, 0, none⟩ = some (.int .i64 a0_0) := (blk_cell BK153.out 0).trans rfl; have hcz60_1 : w59.cell? ⟨gb153, 1, none⟩ = some (.string a0_1) := (blk_cell BK153.out 1).trans rfl; have hcz60_2 : w59.cell? ⟨gb153, 2, none⟩ = some (.slice A0_2 l0_2.length c0_2) := (blk_cell BK153.out 2).trans rfl; have hcz60_3 : w59.cell? ⟨gb153, 3, none⟩ = some (.string a0_3) := (blk_cell BK153.out 3).trans rfl; have hfz60_0 := blk_frozen BK153.out 0; have hfz60_1 := blk_frozen BK153.out 1; have hfz60_2 := blk_frozen BK153.out 2; have hfz60_3 := blk_frozen BK153.out 3; have p32 : 0 ≤ (0 : Int) := (by omega); have q32 : 0 < a0_1.size := (by have : (0 : Int) < (a0_1.size : Int) := of_decide_eq_true asA; omega); have hx32 : ∀ h : 0 < a0_1.size, ((a0_1[0]'h).toNat : Int) = bt a0_1 0 := bt_at a0_1 0; clear p32; have qi32 : (0 < (a0_1.size : Int)) = True := eq_true (of_decide_eq_true asA); replace q32 := eq_true q32; have p38 : 0 ≤ (0 : Int) := (by omega); have q38 : 0 < a0_1.size := (by have : (0 : Int) < (a0_1.size : Int) := of_decide_eq_true asA; omega); have hx38 : ∀ h : 0 < a0_1.size, ((a0_1[0]'h).toNat : Int) = bt a0_1 0 := bt_at a0_1 0; clear p38; have qi38 : (0 < (a0_1.size : Int)) = True := eq_true (of_decide_eq_true asA); replace q38 := eq_true q38) | ((with_reducible refine gate_callee (f := 38) rfl ?_); refine goesL_ (some 59) rfl rfl Tryd.func38 (by kernel_rfl) rfl #[.slice A0_2 l0_2.length c0_2, .func (.func 39) #[] #[]] rfl aP ?_; (with_reducible refine (has_bad.calls _ _ l0_2 false _ ?side1 ?side2 A50.out).mono ?_); (case side1 => repeat (first | exact (Kd.C_below HR0_2.out HB.out) | (with_reducible refine Kd.C_alloc ?_ _) | (with_reducible refine Kd.C_drewN ?_ _) | (with_reducible refine Kd.C_drew ?_))); (case side2 => exact HC0_2.out); rintro e w61 ⟨rfl, hb⟩; refine ⟨_, rfl, ?_⟩; replace BK153 := Aside0.mk (blk_below (g := gb153) (o := .cells #[.int .i64 a0_0, .string a0_1, .slice A0_2 l0_2.length c0_2, .string a0_3] 35 (0, 0)) (kB BK153) hb); replace HB := Aside0.mk (below_step bG hb); (try clear hb); (try clear hb2); (try clear hk); (try clear hi)))
         go_ret
         exact ⟨eW, bG⟩
      ·rw [if_neg c44] at H
       have c44b0 : (a0_3.toList == ([] : List UInt8)) = false := beq_eq_false_iff_ne.mpr c44
       have c44b1 : (a0_3.toList != ([] : List UInt8)) = true := bne_iff_ne.mpr c44
       obtain rfl := Option.some.inj H
       go_enter Tryd.func19, Tryd.ntmps19
       go_wp2_with (first | ((with_reducible refine gate_dst (N := 1) rfl ?_); (try (refine gate_guard (by rfl) ?_; dsimp only)); refine box_event ?hg (N := 1) ?hd (cs := #[.int .i64 a0_0, .string a0_1, .slice A0_2 l0_2.length c0_2, .string a0_3]) (t := 35) ?hr ?_; (case hd => rfl); (case hg => rfl); (case hr => first | (go_simp; done) | (go_simp; rfl)); intro gb153 hg w62 hbox hb; have BK153 := Aside0.mk (hbox); have GW153 := Aside0.mk ((geA hg : w.heap.size ≤ gb153)); have GE153 := Aside0.mk ((geA hg : w.heap.size ≤ gb153)); replace HB := Aside0.mk (below_step bA hb); clear hb hbox hg; have hcz63_0 : w62.cell? ⟨gb153, 0, none⟩ = some (.int .i64 a0_0) := (blk_cell BK153.out 0).trans rfl; have hcz63_1 : w62.cell? ⟨gb153, 1, none⟩ = some (.string a0_1) := (blk_cell BK153.out 1).trans rfl; have hcz63_2 : w62.cell? ⟨gb153, 2, none⟩ = some (.slice A0_2 l0_2.length c0_2) := (blk_cell BK153.out 2).trans rfl; have hcz63_3 : w62.cell? ⟨gb153, 3, none⟩ = some (.string a0_3) := (blk_cell BK153.out 3).trans rfl; have hfz63_0 := blk_frozen BK153.out 0; have hfz63_1 := blk_frozen BK153.out 1; have hfz63_2 := blk_frozen BK153.out 2; have hfz63_3 := blk_frozen BK153.out 3) | ((with_reducible refine gate_callee (f := 35) rfl ?_); refine goesL_ (some 10) rfl rfl Tryd.func35 (by kernel_rfl) rfl #[.string a0_1, .string (⟨#[32, 9, 10, 13, 92, 34]⟩ : ByteArray)] rfl aP ?_; (with_reducible refine (strings_ContainsAny.calls a0_1 (⟨#[32, 9, 10, 13, 92, 34]⟩ : ByteArray) false _ A26.out).mono ?_); rintro e w64 ⟨rfl, hb⟩; refine ⟨_, rfl, ?_⟩; replace BK153 := Aside0.mk (blk_below (g := gb153) (o := .cells #[.int .i64 a0_0, .string a0_1, .slice A0_2 l0_2.length c0_2, .string a0_3] 35 (0, 0)) (kB BK153) hb); replace HB := Aside0.mk (below_step bG hb); (try clear hb); (try clear hb2); (try clear hk); (try clear hi); have hcz65_0 : w64.cell? ⟨gb153, 0, none⟩ = some (.int .i64 a0_0) := (blk_cell BK153.out 0).trans rfl; have hcz65_1 : w64.cell? ⟨gb153, 1, none⟩ = some (.string a0_1) := (blk_cell BK153.out 1).trans rfl; have hcz65_2 : w64.cell? ⟨gb153, 2, none⟩ = some (.slice A0_2 l0_2.length c0_2) := (blk_cell BK153.out 2).trans rfl; have hcz65_3 : w64.cell? ⟨gb153, 3, none⟩ = some (.string a0_3) := (blk_cell BK153.out 3).trans rfl; have hfz65_0 := blk_frozen BK153.out 0; have hfz65_1 := blk_frozen BK153.out 1; have hfz65_2 := blk_frozen BK153.out 2; have hfz65_3 := blk_frozen BK153.out 3; have p32 : 0 ≤ (0 : Int) := (by omega); have q32 : 0 < a0_1.size := (by have : (0 : Int) < (a0_1.size : Int) := of_decide_eq_true asA; omega); have hx32 : ∀ h : 0 < a0_1.size, ((a0_1[0]'h).toNat : Int) = bt a0_1 0 := bt_at a0_1 0; clear p32; have qi32 : (0 < (a0_1.size : Int)) = True := eq_true (of_decide_eq_true asA); replace q32 := eq_true q32; have p38 : 0 ≤ (0 : Int) := (by omega); have q38 : 0 < a0_1.size := (by have : (0 : Int) < (a0_1.size : Int) := of_decide_eq_true asA; omega); have hx38 : ∀ h : 0 < a0_1.size, ((a0_1[0]'h).toNat : Int) = bt a0_1 0 := bt_at a0_1 0; clear p38; have qi38 : (0 < (a0_1.size : Int)) = True := eq_true (of_decide_eq_true asA); replace q38 := eq_true q38))
       go_ret
       exact ⟨eW, bG⟩
   ·rw [if_neg c31] at H
    exact absurd H (by simp)

/-! ### flongref05_Long: function 20 -/
mutual
def flongref05_Long.l0 : Nat → List (S35) → Int → Int → Option (Int)
 | 0, _, _, _ => none
 | k + 1, x0, x3, x4 => if x4 < (x0.length : Int) then (if 0 ≤ x4 then (flongref05_Long.l1 k x0 (wrap64 ((wrap64 ((wrap64 (x3 + 2)) + (((rd_T35 x0 x4).f1).size : Int))) + (((rd_T35 x0 x4).f3).size : Int))) x4 0) else (none)) else (some x3)
def flongref05_Long.l1 : Nat → List (S35) → Int → Int → Int → Option (Int)
 | 0, _, _, _, _ => none
 | k + 1, x0, x3, x4, x5 => if 0 ≤ x4 then (if x4 < (x0.length : Int) then (if x5 < (((rd_T35 x0 x4).f2).length : Int) then (if 0 ≤ x5 then (flongref05_Long.l1 k x0 (wrap64 ((wrap64 (x3 + 3)) + ((rdOf ByteArray.empty ((rd_T35 x0 x4).f2) x5).size : Int))) x4 (wrap64 (x5 + 1))) else (none)) else (flongref05_Long.l0 k x0 x3 (wrap64 (x4 + 1)))) else (none)) else (none)
end
def flongref05_Long.f (k : Nat) (l0 : List (S35)) : Option (Int) := flongref05_Long.l0 k l0 0 0
theorem flongref05_Long.mono_l : ∀ k, (∀ y0 y1 y2, LeO (flongref05_Long.l0 k y0 y1 y2) (flongref05_Long.l0 (k + 1) y0 y1 y2)) ∧ (∀ y0 y1 y2 y3, LeO (flongref05_Long.l1 k y0 y1 y2 y3) (flongref05_Long.l1 (k + 1) y0 y1 y2 y3))
 | 0 => ⟨fun _ _ _ r h => by simp [flongref05_Long.l0] at h, fun _ _ _ _ r h => by simp [flongref05_Long.l1] at h⟩
 | k + 1 => by
  obtain ⟨ih0, ih1⟩ := flongref05_Long.mono_l k
  refine ⟨?_, ?_⟩
  ·intro y0 y1 y2
   unfold flongref05_Long.l0
   repeat' first
   | (with_reducible exact ih0 _ _ _)
   | (with_reducible exact ih1 _ _ _ _)
   | (with_reducible exact LeO.refl _)
   | (with_reducible exact LeO.none _)
   | (with_reducible refine LeO.ite ?_ ?_)
   | (with_reducible refine LeO.bind ?_ (fun _ => ?_))
  ·intro y0 y1 y2 y3
   unfold flongref05_Long.l1
   repeat' first
   | (with_reducible exact ih0 _ _ _)
   | (with_reducible exact ih1 _ _ _ _)
   | (with_reducible exact LeO.refl _)
   | (with_reducible exact LeO.none _)
   | (with_reducible refine LeO.ite ?_ ?_)
   | (with_reducible refine LeO.bind ?_ (fun _ => ?_))
theorem flongref05_Long.mono : ∀ a0 k, LeO (flongref05_Long.f k a0) (flongref05_Long.f (k + 1) a0) := by
 intro a0 k
 obtain ⟨ih0, ih1⟩ := flongref05_Long.mono_l k
 unfold flongref05_Long.f
 repeat' first
   | (with_reducible exact ih0 _ _ _)
   | (with_reducible exact ih1 _ _ _ _)
   | (with_reducible exact LeO.refl _)
   | (with_reducible exact LeO.none _)
   | (with_reducible refine LeO.ite ?_ ?_)
   | (with_reducible refine LeO.bind ?_ (fun _ => ?_))
theorem flongref05_Long.calls (k : Nat) (A0 : Option Addr) (c0 : Nat) (l0 : List (S35)) (r : Int) (w : World) (hr0 : Kd.C k35 w A0 l0.length l0) (hc0 : l0.length ≤ c0) (h : flongref05_Long.f k l0 = some r) :
  Calls Tryd.prog 20 #[.slice A0 l0.length c0] w fun e w' => e = .returned (.int .i64 r) ∧ Drawn0 w w' := by
 have HR0 := Aside0.mk hr0
 have HC0 := Aside0.mk hc0
 clear hr0 hc0
 have H : (flongref05_Long.l0 k l0 0 0) = some r := h
 clear h
 have H' := Aside0.mk H
 clear H
 go_enter Tryd.func20, Tryd.ntmps20
 go_wp2
 repeat (go_quiet (fail); try go_wp2)
 go_loopg [3, 4] k (fun kq v3 v4 w' => ∃ (x3_1 : Int) (x4_1 : Int), v3 = .int .i64 x3_1 ∧ v4 = .int .i64 x4_1 ∧ Aside0 (flongref05_Long.l0 kq l0 x3_1 x4_1 = some r) ∧ Aside0 (kq ≤ k) ∧ Drawn0 w w')
 case atStart => exact ⟨(0), (0), sA, sA, H', ⟨Nat.le_refl _⟩, by repeat (first | exact Drawn0.refl _ | apply Drawn0.step)⟩
 case round =>
  clear H'
  obtain ⟨x3_1, x4_1, rfl, rfl, HA, HK1, ⟨m1, rfl⟩⟩ := hrel
  cases gk with
  | zero => exact absurd HA.out (by simp [flongref05_Long.l0])
  | succ k1 =>
   have H := HA.out
   clear HA
   simp only [flongref05_Long.l0] at H
   by_cases c2 : x4_1 < (l0.length : Int)
   ·rw [if_pos c2] at H
    have c2b0 : decide (x4_1 < (l0.length : Int)) = true := decide_eq_true c2
    clear c2
    by_cases c3 : 0 ≤ x4_1
    ·rw [if_pos c3] at H
     have c3b0 : decide (0 ≤ x4_1) = true := decide_eq_true c3
     clear c3
     have H' := Aside0.mk H
     clear H
     have p160 : 0 ≤ (x4_1 : Int) := of_decide_eq_true asA
     have q160 : x4_1 < (l0.length : Int) := of_decide_eq_true asA
     obtain ⟨ad160, A160_2, c160_2, e160, hx160_0, hx160_1, hx160_2, hx160_3, hl160_2, hi160_2⟩ := at_T35 HR0.out x4_1 p160 q160
     cases e160
     have HR160_2 := Aside0.mk hi160_2
     have HC160_2 := Aside0.mk hl160_2
     clear hi160_2 hl160_2
     replace p160 := eq_true p160
     replace q160 := eq_true q160
     have p161 : 0 ≤ (x4_1 : Int) := of_decide_eq_true asA
     have q161 : x4_1 < (l0.length : Int) := of_decide_eq_true asA
     obtain ⟨ad161, A161_2, c161_2, e161, hx161_0, hx161_1, hx161_2, hx161_3, hl161_2, hi161_2⟩ := at_T35 HR0.out x4_1 p161 q161
     obtain rfl : ad160 = ad161 := (by injection e161)
     have HR161_2 := Aside0.mk hi161_2
     have HC161_2 := Aside0.mk hl161_2
     clear hi161_2 hl161_2
     replace p161 := eq_true p161
     replace q161 := eq_true q161
     have ea_ := Option.some.inj (hx160_2.symm.trans hx161_2)
     injection ea_ with ea_ en_ ec_
     subst ea_
     subst ec_
     clear en_
     go_wp2
     repeat (go_quiet (fail); try go_wp2)
     go_loopg [3, 5] k1 (fun kq v3 v5 w' => ∃ (x3_2 : Int) (x5_2 : Int), v3 = .int .i64 x3_2 ∧ v5 = .int .i64 x5_2 ∧ Aside0 (flongref05_Long.l1 kq l0 x3_2 x4_1 x5_2 = some r) ∧ Aside0 (kq ≤ k1) ∧ Drawn0 w w')
     case atStart => exact ⟨(wrap64 ((wrap64 ((wrap64 (x3_1 + 2)) + (((rd_T35 l0 x4_1).f1).size : Int))) + (((rd_T35 l0 x4_1).f3).size : Int))), (0), sA, sA, H', ⟨Nat.le_refl _⟩, by repeat (first | exact Drawn0.refl _ | apply Drawn0.step)⟩
     case round =>
      clear H'
      try clear c1
      try clear p1
      try clear q1
      try clear hx1
      try clear c2
      try clear c2b0
      try clear p2
      try clear c3
      try clear c3b0
      try clear hx160_0
      try clear hx160_1
      try clear hx160_2
      try clear hx160_3
      try clear hx161_0
      try clear hx161_1
      try clear hx161_2
      try clear hx161_3
      try clear p160
      try clear p161
      try clear q160
      try clear q161
      obtain ⟨x3_2, x5_2, rfl, rfl, HA, HK2, ⟨m2, rfl⟩⟩ := hrel
      cases gk with
      | zero => exact absurd HA.out (by simp [flongref05_Long.l1])
      | succ k2 =>
       have H := HA.out
       clear HA
       simp only [flongref05_Long.l1] at H
       by_cases c4 : 0 ≤ x4_1
       ·rw [if_pos c4] at H
        have c4b0 : decide (0 ≤ x4_1) = true := decide_eq_true c4
        clear c4
        by_cases c5 : x4_1 < (l0.length : Int)
        ·rw [if_pos c5] at H
         have c5b0 : decide (x4_1 < (l0.length : Int)) = true := decide_eq_true c5
         clear c5
         by_cases c6 : x5_2 < (((rd_T35 l0 x4_1).f2).length : Int)
         ·rw [if_pos c6] at H
          have c6b0 : decide (x5_2 < (((rd_T35 l0 x4_1).f2).length : Int)) = true := decide_eq_true c6
          clear c6
          by_cases c7 : 0 ≤ x5_2
          ·rw [if_pos c7] at H
           have c7b0 : decide (0 ≤ x5_2) = true := decide_eq_true c7
           clear c7
           have H' := Aside0.mk H
           clear H
           have p162 : 0 ≤ (x4_1 : Int) := of_decide_eq_true asA
           have q162 : x4_1 < (l0.length : Int) := of_decide_eq_true asA
           obtain ⟨ad162, A162_2, c162_2, e162, hx162_0, hx162_1, hx162_2, hx162_3, hl162_2, hi162_2⟩ := at_T35 HR0.out x4_1 p162 q162
           obtain rfl : ad160 = ad162 := (by injection e162)
           have HR162_2 := Aside0.mk hi162_2
           have HC162_2 := Aside0.mk hl162_2
           clear hi162_2 hl162_2
           replace p162 := eq_true p162
           replace q162 := eq_true q162
           have p163 : 0 ≤ (x4_1 : Int) := of_decide_eq_true asA
           have q163 : x4_1 < (l0.length : Int) := of_decide_eq_true asA
           obtain ⟨ad163, A163_2, c163_2, e163, hx163_0, hx163_1, hx163_2, hx163_3, hl163_2, hi163_2⟩ := at_T35 HR0.out x4_1 p163 q163
           obtain rfl : ad160 = ad163 := (by injection e163)
           have HR163_2 := Aside0.mk hi163_2
           have HC163_2 := Aside0.mk hl163_2
           clear hi163_2 hl163_2
           replace p163 := eq_true p163
           replace q163 := eq_true q163
           have ea_ := Option.some.inj (hx162_2.symm.trans hx163_2)
           injection ea_ with ea_ en_ ec_
           subst ea_
           subst ec_
           clear en_
           have p164 : 0 ≤ (x5_2 : Int) := of_decide_eq_true asA
           have q164 : x5_2 < (((rd_T35 l0 x4_1).f2).length : Int) := of_decide_eq_true asA
           obtain ⟨ad164, e164, hx164_0⟩ := Kd.at_string HR163_2.out x5_2 p164 q164
           cases e164
           replace p164 := eq_true p164
           replace q164 := eq_true q164
           go_wp2
           repeat (go_quiet (fail); try go_wp2)
           go_roundg k2
           case measure => have := HK1.out; have := HK2.out; omega
           case rel => exact ⟨(wrap64 ((wrap64 (x3_2 + 3)) + ((rdOf ByteArray.empty ((rd_T35 l0 x4_1).f2) x5_2).size : Int))), (wrap64 (x5_2 + 1)), sA, sA, H', ⟨by have := HK1.out; have := HK2.out; omega⟩, by repeat (first | exact Drawn0.refl _ | apply Drawn0.step)⟩
          ·rw [if_neg c7] at H
           exact absurd H (by simp)
         ·rw [if_neg c6] at H
          have c6b0 : decide (x5_2 < (((rd_T35 l0 x4_1).f2).length : Int)) = false := decide_eq_false c6
          clear c6
          have H' := Aside0.mk H
          clear H
          have p162 : 0 ≤ (x4_1 : Int) := of_decide_eq_true asA
          have q162 : x4_1 < (l0.length : Int) := of_decide_eq_true asA
          obtain ⟨ad162, A162_2, c162_2, e162, hx162_0, hx162_1, hx162_2, hx162_3, hl162_2, hi162_2⟩ := at_T35 HR0.out x4_1 p162 q162
          obtain rfl : ad160 = ad162 := (by injection e162)
          have HR162_2 := Aside0.mk hi162_2
          have HC162_2 := Aside0.mk hl162_2
          clear hi162_2 hl162_2
          replace p162 := eq_true p162
          replace q162 := eq_true q162
          go_wp2
          repeat (go_quiet (fail); try go_wp2)
          go_roundg k2
          case measure => have := HK1.out; have := HK2.out; omega
          case rel => exact ⟨(x3_2), (wrap64 (x4_1 + 1)), sA, sA, H', ⟨by have := HK1.out; have := HK2.out; omega⟩, by repeat (first | exact Drawn0.refl _ | apply Drawn0.step)⟩
        ·rw [if_neg c5] at H
         exact absurd H (by simp)
       ·rw [if_neg c4] at H
        exact absurd H (by simp)
    ·rw [if_neg c3] at H
     exact absurd H (by simp)
   ·rw [if_neg c2] at H
    have c2b0 : decide (x4_1 < (l0.length : Int)) = false := decide_eq_false c2
    clear c2
    obtain rfl := Option.some.inj H
    go_wp2
    repeat (go_quiet (fail); try go_wp2)
    go_ret
    exact ⟨sA, by repeat (first | exact Drawn0.refl _ | apply Drawn0.step)⟩

/-! ### flongref05_has: function 42 -/
mutual
def flongref05_has.l0 : Nat → ByteArray → ByteArray → Int → Option (Bool)
 | 0, _, _, _ => none
 | k + 1, x0, x1, x5 => if x5 < (x0.size : Int) then (flongref05_has.l1 k x0 x1 x5 0) else (some false)
def flongref05_has.l1 : Nat → ByteArray → ByteArray → Int → Int → Option (Bool)
 | 0, _, _, _, _ => none
 | k + 1, x0, x1, x5, x6 => if x6 < (x1.size : Int) then (if 0 ≤ x5 then (if x5 < (x0.size : Int) then (if 0 ≤ x6 then (if (bt x0 x5) = (bt x1 x6) then (some true) else (flongref05_has.l1 k x0 x1 x5 (wrap64 (x6 + 1)))) else (none)) else (none)) else (none)) else (flongref05_has.l0 k x0 x1 (wrap64 (x5 + 1)))
end
def flongref05_has.f (k : Nat) (a0 : ByteArray) (a1 : ByteArray) : Option (Bool) := flongref05_has.l0 k a0 a1 0
theorem flongref05_has.mono_l : ∀ k, (∀ y0 y1 y2, LeO (flongref05_has.l0 k y0 y1 y2) (flongref05_has.l0 (k + 1) y0 y1 y2)) ∧ (∀ y0 y1 y2 y3, LeO (flongref05_has.l1 k y0 y1 y2 y3) (flongref05_has.l1 (k + 1) y0 y1 y2 y3))
 | 0 => ⟨fun _ _ _ r h => by simp [flongref05_has.l0] at h, fun _ _ _ _ r h => by simp [flongref05_has.l1] at h⟩
 | k + 1 => by
  obtain ⟨ih0, ih1⟩ := flongref05_has.mono_l k
  refine ⟨?_, ?_⟩
  ·intro y0 y1 y2
   unfold flongref05_has.l0
   repeat' first
   | (with_reducible exact ih0 _ _ _)
   | (with_reducible exact ih1 _ _ _ _)
   | (with_reducible exact LeO.refl _)
   | (with_reducible exact LeO.none _)
   | (with_reducible refine LeO.ite ?_ ?_)
   | (with_reducible refine LeO.bind ?_ (fun _ => ?_))
  ·intro y0 y1 y2 y3
   unfold flongref05_has.l1
   repeat' first
   | (with_reducible exact ih0 _ _ _)
   | (with_reducible exact ih1 _ _ _ _)
   | (with_reducible exact LeO.refl _)
   | (with_reducible exact LeO.none _)
   | (with_reducible refine LeO.ite ?_ ?_)
   | (with_reducible refine LeO.bind ?_ (fun _ => ?_))
theorem flongref05_has.mono : ∀ a0 a1 k, LeO (flongref05_has.f k a0 a1) (flongref05_has.f (k + 1) a0 a1) := by
 intro a0 a1 k
 obtain ⟨ih0, ih1⟩ := flongref05_has.mono_l k
 unfold flongref05_has.f
 repeat' first
   | (with_reducible exact ih0 _ _ _)
   | (with_reducible exact ih1 _ _ _ _)
   | (with_reducible exact LeO.refl _)
   | (with_reducible exact LeO.none _)
   | (with_reducible refine LeO.ite ?_ ?_)
   | (with_reducible refine LeO.bind ?_ (fun _ => ?_))
theorem flongref05_has.calls (k : Nat) (a0 : ByteArray) (a1 : ByteArray) (r : Bool) (w : World) (h : flongref05_has.f k a0 a1 = some r) :
  Calls Tryd.prog 42 #[.string a0, .string a1] w fun e w' => e = .returned (.bool r) ∧ Drawn0 w w' := by
 have H : (flongref05_has.l0 k a0 a1 0) = some r := h
 clear h
 have H' := Aside0.mk H
 clear H
 go_enter Tryd.func42, Tryd.ntmps42
 go_wp2
 repeat (go_quiet (fail); try go_wp2)
 go_loopg [5] k (fun kq v5 w' => ∃ (x5_1 : Int), v5 = .int .i64 x5_1 ∧ Aside0 (flongref05_has.l0 kq a0 a1 x5_1 = some r) ∧ Aside0 (kq ≤ k) ∧ Drawn0 w w')
 case atStart => exact ⟨(0), sA, H', ⟨Nat.le_refl _⟩, by repeat (first | exact Drawn0.refl _ | apply Drawn0.step)⟩
 case round =>
  clear H'
  try clear p2
  obtain ⟨x5_1, rfl, HA, HK1, ⟨m1, rfl⟩⟩ := hrel
  cases gk with
  | zero => exact absurd HA.out (by simp [flongref05_has.l0])
  | succ k1 =>
   have H := HA.out
   clear HA
   simp only [flongref05_has.l0] at H
   by_cases c3 : x5_1 < (a0.size : Int)
   ·rw [if_pos c3] at H
    have c3b0 : decide (x5_1 < (a0.size : Int)) = true := decide_eq_true c3
    clear c3
    have H' := Aside0.mk H
    clear H
    go_wp2
    repeat (go_quiet (fail); try go_wp2)
    go_loopg [6] k1 (fun kq v6 w' => ∃ (x6_2 : Int), v6 = .int .i64 x6_2 ∧ Aside0 (flongref05_has.l1 kq a0 a1 x5_1 x6_2 = some r) ∧ Aside0 (kq ≤ k1) ∧ Drawn0 w w')
    case atStart => exact ⟨(0), sA, H', ⟨Nat.le_refl _⟩, by repeat (first | exact Drawn0.refl _ | apply Drawn0.step)⟩
    case round =>
     clear H'
     try clear p2
     try clear c3
     try clear c3b0
     try clear p2
     obtain ⟨x6_2, rfl, HA, HK2, ⟨m2, rfl⟩⟩ := hrel
     cases gk with
     | zero => exact absurd HA.out (by simp [flongref05_has.l1])
     | succ k2 =>
      have H := HA.out
      clear HA
      simp only [flongref05_has.l1] at H
      by_cases c4 : x6_2 < (a1.size : Int)
      ·rw [if_pos c4] at H
       have c4b0 : decide (x6_2 < (a1.size : Int)) = true := decide_eq_true c4
       clear c4
       by_cases c5 : 0 ≤ x5_1
       ·rw [if_pos c5] at H
        have c5b0 : decide (0 ≤ x5_1) = true := decide_eq_true c5
        clear c5
        by_cases c6 : x5_1 < (a0.size : Int)
        ·rw [if_pos c6] at H
         have c6b0 : decide (x5_1 < (a0.size : Int)) = true := decide_eq_true c6
         clear c6
         by_cases c8 : 0 ≤ x6_2
         ·rw [if_pos c8] at H
          have c8b0 : decide (0 ≤ x6_2) = true := decide_eq_true c8
          clear c8
          by_cases c10 : (bt a0 x5_1) = (bt a1 x6_2)
          ·rw [if_pos c10] at H
           have c10b0 : ((bt a0 x5_1) == (bt a1 x6_2)) = true := beq_iff_eq.mpr c10
           have c10b1 : ((bt a0 x5_1) != (bt a1 x6_2)) = false := bne_eq_false_iff_eq.mpr c10
           clear c10
           obtain rfl := Option.some.inj H
           have p7 : 0 ≤ (x5_1 : Int) := of_decide_eq_true asA
           have q7 : x5_1 < (a0.size : Int) := of_decide_eq_true asA
           have hx7 := bt_at a0 x5_1
           replace p7 := eq_true p7
           replace q7 := eq_true q7
           have p9 : 0 ≤ (x6_2 : Int) := of_decide_eq_true asA
           have q9 : x6_2 < (a1.size : Int) := of_decide_eq_true asA
           have hx9 := bt_at a1 x6_2
           replace p9 := eq_true p9
           replace q9 := eq_true q9
           go_wp2
           repeat (go_quiet (fail); try go_wp2)
           go_ret
           exact ⟨sA, by repeat (first | exact Drawn0.refl _ | apply Drawn0.step)⟩
          ·rw [if_neg c10] at H
           have c10b0 : ((bt a0 x5_1) == (bt a1 x6_2)) = false := beq_eq_false_iff_ne.mpr c10
           have c10b1 : ((bt a0 x5_1) != (bt a1 x6_2)) = true := bne_iff_ne.mpr c10
           have H' := Aside0.mk H
           clear H
           have p7 : 0 ≤ (x5_1 : Int) := of_decide_eq_true asA
           have q7 : x5_1 < (a0.size : Int) := of_decide_eq_true asA
           have hx7 := bt_at a0 x5_1
           replace p7 := eq_true p7
           replace q7 := eq_true q7
           have p9 : 0 ≤ (x6_2 : Int) := of_decide_eq_true asA
           have q9 : x6_2 < (a1.size : Int) := of_decide_eq_true asA
           have hx9 := bt_at a1 x6_2
           replace p9 := eq_true p9
           replace q9 := eq_true q9
           go_wp2
           repeat (go_quiet (fail); try go_wp2)
           go_roundg k2
           case measure => have := HK1.out; have := HK2.out; omega
           case rel => exact ⟨(wrap64 (x6_2 + 1)), sA, H', ⟨by have := HK1.out; have := HK2.out; omega⟩, by repeat (first | exact Drawn0.refl _ | apply Drawn0.step)⟩
         ·rw [if_neg c8] at H
          exact absurd H (by simp)
        ·rw [if_neg c6] at H
         exact absurd H (by simp)
       ·rw [if_neg c5] at H
        exact absurd H (by simp)
      ·rw [if_neg c4] at H
       have c4b0 : decide (x6_2 < (a1.size : Int)) = false := decide_eq_false c4
       clear c4
       have H' := Aside0.mk H
       clear H
       go_wp2
       repeat (go_quiet (fail); try go_wp2)
       go_roundg k2
       case measure => have := HK1.out; have := HK2.out; omega
       case rel => exact ⟨(wrap64 (x5_1 + 1)), sA, H', ⟨by have := HK1.out; have := HK2.out; omega⟩, by repeat (first | exact Drawn0.refl _ | apply Drawn0.step)⟩
   ·rw [if_neg c3] at H
    have c3b0 : decide (x5_1 < (a0.size : Int)) = false := decide_eq_false c3
    clear c3
    obtain rfl := Option.some.inj H
    go_wp2
    repeat (go_quiet (fail); try go_wp2)
    go_ret
    exact ⟨sA, by repeat (first | exact Drawn0.refl _ | apply Drawn0.step)⟩

/-! ### flongref05_sign: function 43 -/
def flongref05_sign.f (a0 : ByteArray) : Option (Bool) := if (a0.size : Int) > 0 then (if 0 < (a0.size : Int) then (if (bt a0 0) = 46 then (some true) else (some ((bt a0 0) == 39))) else (none)) else (some false)
theorem flongref05_sign.calls (a0 : ByteArray) (r : Bool) (w : World) (h : flongref05_sign.f a0 = some r) :
  Calls Tryd.prog 43 #[.string a0] w fun e w' => e = .returned (.bool r) ∧ Drawn0 w w' := by
 have H : (if (a0.size : Int) > 0 then (if 0 < (a0.size : Int) then (if (bt a0 0) = 46 then (some true) else (some ((bt a0 0) == 39))) else (none)) else (some false)) = some r := h
 clear h
 by_cases c2 : (a0.size : Int) > 0
 ·rw [if_pos c2] at H
  have c2b0 : decide (0 < (a0.size : Int)) = true := decide_eq_true c2
  have c2b1 : decide (0 < a0.size) = true := decide_eq_true (by omega)
  clear c2
  by_cases c3 : 0 < (a0.size : Int)
  ·rw [if_pos c3] at H
   have c3b0 : decide (0 < (a0.size : Int)) = true := decide_eq_true c3
   have c3b1 : decide (0 < a0.size) = true := decide_eq_true (by omega)
   clear c3
   by_cases c5 : (bt a0 0) = 46
   ·rw [if_pos c5] at H
    have c5b0 : ((bt a0 0) == 46) = true := beq_iff_eq.mpr c5
    have c5b1 : ((bt a0 0) != 46) = false := bne_eq_false_iff_eq.mpr c5
    clear c5
    obtain rfl := Option.some.inj H
    have p4 : 0 ≤ (0 : Int) := (by omega)
    have q4 : 0 < a0.size := (by have : (0 : Int) < (a0.size : Int) := of_decide_eq_true asA; omega)
    have hx4 : ∀ h : 0 < a0.size, ((a0[0]'h).toNat : Int) = bt a0 0 := bt_at a0 0
    clear p4
    have qi4 : (0 < (a0.size : Int)) = True := eq_true (of_decide_eq_true asA)
    replace q4 := eq_true q4
    go_enter Tryd.func43, Tryd.ntmps43
    go_wp2
    go_ret
    exact ⟨sA, by repeat (first | exact Drawn0.refl _ | apply Drawn0.step)⟩
   ·rw [if_neg c5] at H
    have c5b0 : ((bt a0 0) == 46) = false := beq_eq_false_iff_ne.mpr c5
    have c5b1 : ((bt a0 0) != 46) = true := bne_iff_ne.mpr c5
    obtain rfl := Option.some.inj H
    have p4 : 0 ≤ (0 : Int) := (by omega)
    have q4 : 0 < a0.size := (by have : (0 : Int) < (a0.size : Int) := of_decide_eq_true asA; omega)
    have hx4 : ∀ h : 0 < a0.size, ((a0[0]'h).toNat : Int) = bt a0 0 := bt_at a0 0
    clear p4
    have qi4 : (0 < (a0.size : Int)) = True := eq_true (of_decide_eq_true asA)
    replace q4 := eq_true q4
    have p6 : 0 ≤ (0 : Int) := (by omega)
    have q6 : 0 < a0.size := (by have : (0 : Int) < (a0.size : Int) := of_decide_eq_true asA; omega)
    have hx6 : ∀ h : 0 < a0.size, ((a0[0]'h).toNat : Int) = bt a0 0 := bt_at a0 0
    clear p6
    have qi6 : (0 < (a0.size : Int)) = True := eq_true (of_decide_eq_true asA)
    replace q6 := eq_true q6
    go_enter Tryd.func43, Tryd.ntmps43
    go_wp2
    go_ret
    exact ⟨sA, by repeat (first | exact Drawn0.refl _ | apply Drawn0.step)⟩
  ·rw [if_neg c3] at H
   exact absurd H (by simp)
 ·rw [if_neg c2] at H
  have c2b0 : decide (0 < (a0.size : Int)) = false := decide_eq_false c2
  have c2b1 : decide (0 < a0.size) = false := decide_eq_false (by omega)
  clear c2
  obtain rfl := Option.some.inj H
  go_enter Tryd.func43, Tryd.ntmps43
  go_wp2
  go_ret
  exact ⟨sA, by repeat (first | exact Drawn0.refl _ | apply Drawn0.step)⟩

/-! ### flongref05_Check: function 22 -/
mutual
def flongref05_Check.j0 : Nat → Bool → Int → ByteArray → List ByteArray → ByteArray → Option (Int)
 | 0, _, _, _, _, _ => none
 | k + 1, x55, x166000, x166001, x166002, x166003 => if x55 = true then (some 2) else (flongref05_Check.l0 k 0 x166000 x166001 x166002 x166003)
def flongref05_Check.l0 : Nat → Int → Int → ByteArray → List ByteArray → ByteArray → Option (Int)
 | 0, _, _, _, _, _ => none
 | k + 1, x3, x166000, x166001, x166002, x166003 => if x3 < (x166002.length : Int) then (if 0 ≤ x3 then ((flongref05_has.f k (rdOf ByteArray.empty x166002 x3) (⟨#[10, 13, 92]⟩ : ByteArray)).bind fun t171 => (if t171 = true then (some 2) else (flongref05_Check.l0 k (wrap64 (x3 + 1)) x166000 x166001 x166002 x166003))) else (none)) else (some 0)
end
def flongref05_Check.f (k : Nat) (a0_0 : Int) (a0_1 : ByteArray) (l0_2 : List ByteArray) (a0_3 : ByteArray) : Option (Int) := if a0_1.toList = ([] : List UInt8) then (if (l0_2.length : Int) > 0 then (some 2) else ((flongref05_has.f k a0_3 (⟨#[10, 92]⟩ : ByteArray)).bind fun t166 => (if t166 = true then (some 2) else ((flongref05_sign.f a0_3).bind fun t167 => (if t167 = true then (some 2) else (if (a0_3.size : Int) > 0 then (if 0 ≤ (wrap64 ((a0_3.size : Int) - 1)) then (if (wrap64 ((a0_3.size : Int) - 1)) < (a0_3.size : Int) then (if (bt a0_3 (wrap64 ((a0_3.size : Int) - 1))) = 13 then (some 2) else (some 0)) else (none)) else (none)) else (some 0))))))) else ((flongref05_has.f k a0_1 (⟨#[32, 9, 10, 13, 92, 34]⟩ : ByteArray)).bind fun t168 => (if t168 = true then (flongref05_Check.j0 k true a0_0 a0_1 l0_2 a0_3) else ((flongref05_sign.f a0_1).bind fun t169 => (if t169 = true then (flongref05_Check.j0 k true a0_0 a0_1 l0_2 a0_3) else (if a0_3.toList = ([] : List UInt8) then (flongref05_Check.j0 k (decide ((l0_2.length : Int) > 200)) a0_0 a0_1 l0_2 a0_3) else (flongref05_Check.j0 k true a0_0 a0_1 l0_2 a0_3))))))
theorem flongref05_Check.mono_l : ∀ k, (∀ y0 y1 y2 y3 y4, LeO (flongref05_Check.j0 k y0 y1 y2 y3 y4) (flongref05_Check.j0 (k + 1) y0 y1 y2 y3 y4)) ∧ (∀ y0 y1 y2 y3 y4, LeO (flongref05_Check.l0 k y0 y1 y2 y3 y4) (flongref05_Check.l0 (k + 1) y0 y1 y2 y3 y4))
 | 0 => ⟨fun _ _ _ _ _ r h => by simp [flongref05_Check.j0] at h, fun _ _ _ _ _ r h => by simp [flongref05_Check.l0] at h⟩
 | k + 1 => by
  obtain ⟨ih0, ih1⟩ := flongref05_Check.mono_l k
  refine ⟨?_, ?_⟩
  ·intro y0 y1 y2 y3 y4
   unfold flongref05_Check.j0
   repeat' first
   | (with_reducible exact ih0 _ _ _ _ _)
   | (with_reducible exact ih1 _ _ _ _ _)
   | (with_reducible exact flongref05_has.mono _ _ _)
   | (with_reducible exact LeO.refl _)
   | (with_reducible exact LeO.none _)
   | (with_reducible refine LeO.ite ?_ ?_)
   | (with_reducible refine LeO.bind ?_ (fun _ => ?_))
  ·intro y0 y1 y2 y3 y4
   unfold flongref05_Check.l0
   repeat' first
   | (with_reducible exact ih0 _ _ _ _ _)
   | (with_reducible exact ih1 _ _ _ _ _)
   | (with_reducible exact flongref05_has.mono _ _ _)
   | (with_reducible exact LeO.refl _)
   | (with_reducible exact LeO.none _)
   | (with_reducible refine LeO.ite ?_ ?_)
   | (with_reducible refine LeO.bind ?_ (fun _ => ?_))
theorem flongref05_Check.mono : ∀ a0 a1 a2 a3 k, LeO (flongref05_Check.f k a0 a1 a2 a3) (flongref05_Check.f (k + 1) a0 a1 a2 a3) := by
 intro a0 a1 a2 a3 k
 obtain ⟨ih0, ih1⟩ := flongref05_Check.mono_l k
 unfold flongref05_Check.f
 repeat' first
   | (with_reducible exact ih0 _ _ _ _ _)
   | (with_reducible exact ih1 _ _ _ _ _)
   | (with_reducible exact flongref05_has.mono _ _ _)
   | (with_reducible exact LeO.refl _)
   | (with_reducible exact LeO.none _)
   | (with_reducible refine LeO.ite ?_ ?_)
   | (with_reducible refine LeO.bind ?_ (fun _ => ?_))
theorem flongref05_Check.calls (k : Nat) (a0_0 : Int) (a0_1 : ByteArray) (A0_2 : Option Addr) (c0_2 : Nat) (l0_2 : List ByteArray) (a0_3 : ByteArray) (r : Int) (w : World) (hr0_2 : Kd.C Kd.string w A0_2 l0_2.length l0_2) (hc0_2 : l0_2.length ≤ c0_2) (h : flongref05_Check.f k a0_0 a0_1 l0_2 a0_3 = some r) :
  Calls Tryd.prog 22 #[.agg #[.int .i64 a0_0, .string a0_1, .slice A0_2 l0_2.length c0_2, .string a0_3]] w fun e w' => e = .returned (.int .i64 r) ∧ Below w.heap.size w w' := by
 have hu35 := Tryd.underlying35
 have HR0_2 := Aside0.mk hr0_2
 have HC0_2 := Aside0.mk hc0_2
 clear hr0_2 hc0_2
 have HB := Aside0.mk (Below.refl w.heap.size w)
 have H : (if a0_1.toList = ([] : List UInt8) then (if (l0_2.length : Int) > 0 then (some 2) else ((flongref05_has.f k a0_3 (⟨#[10, 92]⟩ : ByteArray)).bind fun t166 => (if t166 = true then (some 2) else ((flongref05_sign.f a0_3).bind fun t167 => (if t167 = true then (some 2) else (if (a0_3.size : Int) > 0 then (if 0 ≤ (wrap64 ((a0_3.size : Int) - 1)) then (if (wrap64 ((a0_3.size : Int) - 1)) < (a0_3.size : Int) then (if (bt a0_3 (wrap64 ((a0_3.size : Int) - 1))) = 13 then (some 2) else (some 0)) else (none)) else (none)) else (some 0))))))) else ((flongref05_has.f k a0_1 (⟨#[32, 9, 10, 13, 92, 34]⟩ : ByteArray)).bind fun t168 => (if t168 = true then (flongref05_Check.j0 k true a0_0 a0_1 l0_2 a0_3) else ((flongref05_sign.f a0_1).bind fun t169 => (if t169 = true then (flongref05_Check.j0 k true a0_0 a0_1 l0_2 a0_3) else (if a0_3.toList = ([] : List UInt8) then (flongref05_Check.j0 k (decide ((l0_2.length : Int) > 200)) a0_0 a0_1 l0_2 a0_3) else (flongref05_Check.j0 k true a0_0 a0_1 l0_2 a0_3))))))) = some r := h
 clear h
 by_cases c2 : a0_1.toList = ([] : List UInt8)
 ·rw [if_pos c2] at H
  have c2b0 : (a0_1.toList == ([] : List UInt8)) = true := beq_iff_eq.mpr c2
  have c2b1 : (a0_1.toList != ([] : List UInt8)) = false := bne_eq_false_iff_eq.mpr c2
  clear c2
  by_cases c3 : (l0_2.length : Int) > 0
  ·rw [if_pos c3] at H
   have c3b0 : decide (0 < (l0_2.length : Int)) = true := decide_eq_true c3
   have c3b1 : decide (0 < l0_2.length) = true := decide_eq_true (by omega)
   clear c3
   obtain rfl := Option.some.inj H
   go_enter Tryd.func22, Tryd.ntmps22
   go_wp2_with (first | ((with_reducible refine gate_dst (N := 1) rfl ?_); (try (refine gate_guard (by rfl) ?_; dsimp only)); refine box_event ?hg (N := 1) ?hd (cs := #[.int .i64 a0_0, .string a0_1, .slice A0_2 l0_2.length c0_2, .string a0_3]) (t := 35) ?hr ?_; (case hd => rfl); (case hg => rfl); (case hr => first | (go_simp; done) | (go_simp; rfl)); intro gb165 hg w4 hbox hb; have BK165 := Aside0.mk (hbox); have GW165 := Aside0.mk ((geA hg : w.heap.size ≤ gb165)); have GE165 := Aside0.mk ((geA hg : w.heap.size ≤ gb165)); replace HB := Aside0.mk (below_step bA hb); clear hb hbox hg; have hcz5_0 : w4.cell? ⟨gb165, 0, none⟩ = some (.int .i64 a0_0) := (blk_cell BK165.out 0).trans rfl; have hcz5_1 : w4.cell? ⟨gb165, 1, none⟩ = some (.string a0_1) := (blk_cell BK165.out 1).trans rfl; have hcz5_2 : w4.cell? ⟨gb165, 2, none⟩ = some (.slice A0_2 l0_2.length c0_2) := (blk_cell BK165.out 2).trans rfl; have hcz5_3 : w4.cell? ⟨gb165, 3, none⟩ = some (.string a0_3) := (blk_cell BK165.out 3).trans rfl; have hfz5_0 := blk_frozen BK165.out 0; have hfz5_1 := blk_frozen BK165.out 1; have hfz5_2 := blk_frozen BK165.out 2; have hfz5_3 := blk_frozen BK165.out 3))
   go_ret
   exact ⟨eW, bG⟩
  ·rw [if_neg c3] at H
   have c3b0 : decide (0 < (l0_2.length : Int)) = false := decide_eq_false c3
   have c3b1 : decide (0 < l0_2.length) = false := decide_eq_false (by omega)
   clear c3
   replace H := Option.bind_eq_some_iff.mp H
   obtain ⟨t166, A60, H⟩ := H
   replace H : (if t166 = true then (some 2) else ((flongref05_sign.f a0_3).bind fun t167 => (if t167 = true then (some 2) else (if (a0_3.size : Int) > 0 then (if 0 ≤ (wrap64 ((a0_3.size : Int) - 1)) then (if (wrap64 ((a0_3.size : Int) - 1)) < (a0_3.size : Int) then (if (bt a0_3 (wrap64 ((a0_3.size : Int) - 1))) = 13 then (some 2) else (some 0)) else (none)) else (none)) else (some 0))))) = some r := H
   have A6 := Aside0.mk A60
   clear A60
   by_cases c7 : t166 = true
   ·subst c7
    have H1 : (some 2) = some r := by rw [if_pos rfl] at H; exact H
    clear H
    have H := H1
    clear H1
    obtain rfl := Option.some.inj H
    go_enter Tryd.func22, Tryd.ntmps22
    go_wp2_with (first | ((with_reducible refine gate_dst (N := 1) rfl ?_); (try (refine gate_guard (by rfl) ?_; dsimp only)); refine box_event ?hg (N := 1) ?hd (cs := #[.int .i64 a0_0, .string a0_1, .slice A0_2 l0_2.length c0_2, .string a0_3]) (t := 35) ?hr ?_; (case hd => rfl); (case hg => rfl); (case hr => first | (go_simp; done) | (go_simp; rfl)); intro gb165 hg w8 hbox hb; have BK165 := Aside0.mk (hbox); have GW165 := Aside0.mk ((geA hg : w.heap.size ≤ gb165)); have GE165 := Aside0.mk ((geA hg : w.heap.size ≤ gb165)); replace HB := Aside0.mk (below_step bA hb); clear hb hbox hg; have hcz9_0 : w8.cell? ⟨gb165, 0, none⟩ = some (.int .i64 a0_0) := (blk_cell BK165.out 0).trans rfl; have hcz9_1 : w8.cell? ⟨gb165, 1, none⟩ = some (.string a0_1) := (blk_cell BK165.out 1).trans rfl; have hcz9_2 : w8.cell? ⟨gb165, 2, none⟩ = some (.slice A0_2 l0_2.length c0_2) := (blk_cell BK165.out 2).trans rfl; have hcz9_3 : w8.cell? ⟨gb165, 3, none⟩ = some (.string a0_3) := (blk_cell BK165.out 3).trans rfl; have hfz9_0 := blk_frozen BK165.out 0; have hfz9_1 := blk_frozen BK165.out 1; have hfz9_2 := blk_frozen BK165.out 2; have hfz9_3 := blk_frozen BK165.out 3) | (go_at_call 42; (with_reducible refine (flongref05_has.calls k a0_3 (⟨#[10, 92]⟩ : ByteArray) true _ A6.out).mono ?_); rintro e w' ⟨rfl, ⟨nd, rfl⟩⟩))
    go_ret
    exact ⟨eW, bG⟩
   ·replace c7 := Bool.eq_false_iff.mpr c7
    subst c7
    have H1 : ((flongref05_sign.f a0_3).bind fun t167 => (if t167 = true then (some 2) else (if (a0_3.size : Int) > 0 then (if 0 ≤ (wrap64 ((a0_3.size : Int) - 1)) then (if (wrap64 ((a0_3.size : Int) - 1)) < (a0_3.size : Int) then (if (bt a0_3 (wrap64 ((a0_3.size : Int) - 1))) = 13 then (some 2) else (some 0)) else (none)) else (none)) else (some 0)))) = some r := by rw [if_neg (show ¬ (false = true) by decide)] at H; exact H
    clear H
    have H := H1
    clear H1
    replace H := Option.bind_eq_some_iff.mp H
    obtain ⟨t167, A100, H⟩ := H
    replace H : (if t167 = true then (some 2) else (if (a0_3.size : Int) > 0 then (if 0 ≤ (wrap64 ((a0_3.size : Int) - 1)) then (if (wrap64 ((a0_3.size : Int) - 1)) < (a0_3.size : Int) then (if (bt a0_3 (wrap64 ((a0_3.size : Int) - 1))) = 13 then (some 2) else (some 0)) else (none)) else (none)) else (some 0))) = some r := H
    have A10 := Aside0.mk A100
    clear A100
    by_cases c11 : t167 = true
    ·subst c11
     have H1 : (some 2) = some r := by rw [if_pos rfl] at H; exact H
     clear H
     have H := H1
     clear H1
     obtain rfl := Option.some.inj H
     go_enter Tryd.func22, Tryd.ntmps22
     go_wp2_with (first | ((with_reducible refine gate_dst (N := 1) rfl ?_); (try (refine gate_guard (by rfl) ?_; dsimp only)); refine box_event ?hg (N := 1) ?hd (cs := #[.int .i64 a0_0, .string a0_1, .slice A0_2 l0_2.length c0_2, .string a0_3]) (t := 35) ?hr ?_; (case hd => rfl); (case hg => rfl); (case hr => first | (go_simp; done) | (go_simp; rfl)); intro gb165 hg w12 hbox hb; have BK165 := Aside0.mk (hbox); have GW165 := Aside0.mk ((geA hg : w.heap.size ≤ gb165)); have GE165 := Aside0.mk ((geA hg : w.heap.size ≤ gb165)); replace HB := Aside0.mk (below_step bA hb); clear hb hbox hg; have hcz13_0 : w12.cell? ⟨gb165, 0, none⟩ = some (.int .i64 a0_0) := (blk_cell BK165.out 0).trans rfl; have hcz13_1 : w12.cell? ⟨gb165, 1, none⟩ = some (.string a0_1) := (blk_cell BK165.out 1).trans rfl; have hcz13_2 : w12.cell? ⟨gb165, 2, none⟩ = some (.slice A0_2 l0_2.length c0_2) := (blk_cell BK165.out 2).trans rfl; have hcz13_3 : w12.cell? ⟨gb165, 3, none⟩ = some (.string a0_3) := (blk_cell BK165.out 3).trans rfl; have hfz13_0 := blk_frozen BK165.out 0; have hfz13_1 := blk_frozen BK165.out 1; have hfz13_2 := blk_frozen BK165.out 2; have hfz13_3 := blk_frozen BK165.out 3) | (go_at_call 42; (with_reducible refine (flongref05_has.calls k a0_3 (⟨#[10, 92]⟩ : ByteArray) false _ A6.out).mono ?_); rintro e w' ⟨rfl, ⟨nd, rfl⟩⟩) | (go_at_call 43; (with_reducible refine (flongref05_sign.calls a0_3 true _ A10.out).mono ?_); rintro e w' ⟨rfl, ⟨nd, rfl⟩⟩))
     go_ret
     exact ⟨eW, bG⟩
    ·replace c11 := Bool.eq_false_iff.mpr c11
     subst c11
     have H1 : (if (a0_3.size : Int) > 0 then (if 0 ≤ (wrap64 ((a0_3.size : Int) - 1)) then (if (wrap64 ((a0_3.size : Int) - 1)) < (a0_3.size : Int) then (if (bt a0_3 (wrap64 ((a0_3.size : Int) - 1))) = 13 then (some 2) else (some 0)) else (none)) else (none)) else (some 0)) = some r := by rw [if_neg (show ¬ (false = true) by decide)] at H; exact H
     clear H
     have H := H1
     clear H1
     by_cases c14 : (a0_3.size : Int) > 0
     ·rw [if_pos c14] at H
      have c14b0 : decide (0 < (a0_3.size : Int)) = true := decide_eq_true c14
      have c14b1 : decide (0 < a0_3.size) = true := decide_eq_true (by omega)
      clear c14
      obtain ⟨ji15, hji15⟩ : ∃ j_ : Int, (wrap64 ((a0_3.size : Int) - 1)) = j_ := ⟨_, rfl⟩
      replace H : (if 0 ≤ (ji15) then (if (ji15) < (a0_3.size : Int) then (if (bt a0_3 (ji15)) = 13 then (some 2) else (some 0)) else (none)) else (none)) = some r := by first | (rw [hji15] at H; exact H) | (simp only [hji15] at H ⊢; exact H)
      (try rw [hji15] at A6)
      (try rw [hji15] at A10)
      have hji15w : (IntKind.i64.wrap ((a0_3.size : Int) - 1)) = ji15 := (i64_w _).trans hji15
      by_cases c16 : 0 ≤ (ji15)
      ·rw [if_pos c16] at H
       have c16b0 : decide (0 ≤ (ji15)) = true := decide_eq_true c16
       clear c16
       by_cases c17 : (ji15) < (a0_3.size : Int)
       ·rw [if_pos c17] at H
        have c17b0 : decide ((ji15) < (a0_3.size : Int)) = true := decide_eq_true c17
        clear c17
        by_cases c19 : (bt a0_3 (ji15)) = 13
        ·rw [if_pos c19] at H
         have c19b0 : ((bt a0_3 (ji15)) == 13) = true := beq_iff_eq.mpr c19
         have c19b1 : ((bt a0_3 (ji15)) != 13) = false := bne_eq_false_iff_eq.mpr c19
         clear c19
         obtain rfl := Option.some.inj H
         go_enter Tryd.func22, Tryd.ntmps22
         go_wp2_with (first | ((with_reducible refine gate_dst (N := 1) rfl ?_); (try (refine gate_guard (by rfl) ?_; dsimp only)); refine box_event ?hg (N := 1) ?hd (cs := #[.int .i64 a0_0, .string a0_1, .slice A0_2 l0_2.length c0_2, .string a0_3]) (t := 35) ?hr ?_; (case hd => rfl); (case hg => rfl); (case hr => first | (go_simp; done) | (go_simp; rfl)); intro gb165 hg w20 hbox hb; have BK165 := Aside0.mk (hbox); have GW165 := Aside0.mk ((geA hg : w.heap.size ≤ gb165)); have GE165 := Aside0.mk ((geA hg : w.heap.size ≤ gb165)); replace HB := Aside0.mk (below_step bA hb); clear hb hbox hg; have hcz21_0 : w20.cell? ⟨gb165, 0, none⟩ = some (.int .i64 a0_0) := (blk_cell BK165.out 0).trans rfl; have hcz21_1 : w20.cell? ⟨gb165, 1, none⟩ = some (.string a0_1) := (blk_cell BK165.out 1).trans rfl; have hcz21_2 : w20.cell? ⟨gb165, 2, none⟩ = some (.slice A0_2 l0_2.length c0_2) := (blk_cell BK165.out 2).trans rfl; have hcz21_3 : w20.cell? ⟨gb165, 3, none⟩ = some (.string a0_3) := (blk_cell BK165.out 3).trans rfl; have hfz21_0 := blk_frozen BK165.out 0; have hfz21_1 := blk_frozen BK165.out 1; have hfz21_2 := blk_frozen BK165.out 2; have hfz21_3 := blk_frozen BK165.out 3) | (go_at_call 42; (with_reducible refine (flongref05_has.calls k a0_3 (⟨#[10, 92]⟩ : ByteArray) false _ A6.out).mono ?_); rintro e w' ⟨rfl, ⟨nd, rfl⟩⟩) | (go_at_call 43; (with_reducible refine (flongref05_sign.calls a0_3 false _ A10.out).mono ?_); rintro e w' ⟨rfl, ⟨nd, rfl⟩⟩; have p18 : 0 ≤ ((ji15) : Int) := of_decide_eq_true asA; have q18 : (ji15) < (a0_3.size : Int) := of_decide_eq_true asA; have hx18 := bt_at a0_3 (ji15); replace p18 := eq_true p18; replace q18 := eq_true q18))
         go_ret
         exact ⟨by first | rfl | (simp [errW_none, errW_some] <;> rfl) | (simp only [← hji15]; first | rfl | (simp [errW_none, errW_some] <;> rfl)) | (simp [*, errW_none, errW_some] <;> rfl), bG⟩
        ·rw [if_neg c19] at H
         have c19b0 : ((bt a0_3 (ji15)) == 13) = false := beq_eq_false_iff_ne.mpr c19
         have c19b1 : ((bt a0_3 (ji15)) != 13) = true := bne_iff_ne.mpr c19
         obtain rfl := Option.some.inj H
         go_enter Tryd.func22, Tryd.ntmps22
         go_wp2_with (first | ((with_reducible refine gate_dst (N := 1) rfl ?_); (try (refine gate_guard (by rfl) ?_; dsimp only)); refine box_event ?hg (N := 1) ?hd (cs := #[.int .i64 a0_0, .string a0_1, .slice A0_2 l0_2.length c0_2, .string a0_3]) (t := 35) ?hr ?_; (case hd => rfl); (case hg => rfl); (case hr => first | (go_simp; done) | (go_simp; rfl)); intro gb165 hg w22 hbox hb; have BK165 := Aside0.mk (hbox); have GW165 := Aside0.mk ((geA hg : w.heap.size ≤ gb165)); have GE165 := Aside0.mk ((geA hg : w.heap.size ≤ gb165)); replace HB := Aside0.mk (below_step bA hb); clear hb hbox hg; have hcz23_0 : w22.cell? ⟨gb165, 0, none⟩ = some (.int .i64 a0_0) := (blk_cell BK165.out 0).trans rfl; have hcz23_1 : w22.cell? ⟨gb165, 1, none⟩ = some (.string a0_1) := (blk_cell BK165.out 1).trans rfl; have hcz23_2 : w22.cell? ⟨gb165, 2, none⟩ = some (.slice A0_2 l0_2.length c0_2) := (blk_cell BK165.out 2).trans rfl; have hcz23_3 : w22.cell? ⟨gb165, 3, none⟩ = some (.string a0_3) := (blk_cell BK165.out 3).trans rfl; have hfz23_0 := blk_frozen BK165.out 0; have hfz23_1 := blk_frozen BK165.out 1; have hfz23_2 := blk_frozen BK165.out 2; have hfz23_3 := blk_frozen BK165.out 3) | (go_at_call 42; (with_reducible refine (flongref05_has.calls k a0_3 (⟨#[10, 92]⟩ : ByteArray) false _ A6.out).mono ?_); rintro e w' ⟨rfl, ⟨nd, rfl⟩⟩) | (go_at_call 43; (with_reducible refine (flongref05_sign.calls a0_3 false _ A10.out).mono ?_); rintro e w' ⟨rfl, ⟨nd, rfl⟩⟩; have p18 : 0 ≤ ((ji15) : Int) := of_decide_eq_true asA; have q18 : (ji15) < (a0_3.size : Int) := of_decide_eq_true asA; have hx18 := bt_at a0_3 (ji15); replace p18 := eq_true p18; replace q18 := eq_true q18))
         go_ret
         exact ⟨by first | rfl | (simp [errW_none, errW_some] <;> rfl) | (simp only [← hji15]; first | rfl | (simp [errW_none, errW_some] <;> rfl)) | (simp [*, errW_none, errW_some] <;> rfl), bG⟩
       ·rw [if_neg c17] at H
        exact absurd H (by simp)
      ·rw [if_neg c16] at H
       exact absurd H (by simp)
     ·rw [if_neg c14] at H
      have c14b0 : decide (0 < (a0_3.size : Int)) = false := decide_eq_false c14
      have c14b1 : decide (0 < a0_3.size) = false := decide_eq_false (by omega)
      clear c14
      obtain rfl := Option.some.inj H
      go_enter Tryd.func22, Tryd.ntmps22
      go_wp2_with (first | ((with_reducible refine gate_dst (N := 1) rfl ?_); (try (refine gate_guard (by rfl) ?_; dsimp only)); refine box_event ?hg (N := 1) ?hd (cs := #[.int .i64 a0_0, .string a0_1, .slice A0_2 l0_2.length c0_2, .string a0_3]) (t := 35) ?hr ?_; (case hd => rfl); (case hg => rfl); (case hr => first | (go_simp; done) | (go_simp; rfl)); intro gb165 hg w24 hbox hb; have BK165 := Aside0.mk (hbox); have GW165 := Aside0.mk ((geA hg : w.heap.size ≤ gb165)); have GE165 := Aside0.mk ((geA hg : w.heap.size ≤ gb165)); replace HB := Aside0.mk (below_step bA hb); clear hb hbox hg; have hcz25_0 : w24.cell? ⟨gb165, 0, none⟩ = some (.int .i64 a0_0) := (blk_cell BK165.out 0).trans rfl; have hcz25_1 : w24.cell? ⟨gb165, 1, none⟩ = some (.string a0_1) := (blk_cell BK165.out 1).trans rfl; have hcz25_2 : w24.cell? ⟨gb165, 2, none⟩ = some (.slice A0_2 l0_2.length c0_2) := (blk_cell BK165.out 2).trans rfl; have hcz25_3 : w24.cell? ⟨gb165, 3, none⟩ = some (.string a0_3) := (blk_cell BK165.out 3).trans rfl; have hfz25_0 := blk_frozen BK165.out 0; have hfz25_1 := blk_frozen BK165.out 1; have hfz25_2 := blk_frozen BK165.out 2; have hfz25_3 := blk_frozen BK165.out 3) | (go_at_call 42; (with_reducible refine (flongref05_has.calls k a0_3 (⟨#[10, 92]⟩ : ByteArray) false _ A6.out).mono ?_); rintro e w' ⟨rfl, ⟨nd, rfl⟩⟩) | (go_at_call 43; (with_reducible refine (flongref05_sign.calls a0_3 false _ A10.out).mono ?_); rintro e w' ⟨rfl, ⟨nd, rfl⟩⟩))
      go_ret
      exact ⟨eW, bG⟩
 ·rw [if_neg c2] at H
  have c2b0 : (a0_1.toList == ([] : List UInt8)) = false := beq_eq_false_iff_ne.mpr c2
  have c2b1 : (a0_1.toList != ([] : List UInt8)) = true := bne_iff_ne.mpr c2
  have HC26 := Aside0.mk H
  clear H
  go_enter Tryd.func22, Tryd.ntmps22
  go_upto_region 5 with (first | ((with_reducible refine gate_dst (N := 1) rfl ?_); (try (refine gate_guard (by rfl) ?_; dsimp only)); refine box_event ?hg (N := 1) ?hd (cs := #[.int .i64 a0_0, .string a0_1, .slice A0_2 l0_2.length c0_2, .string a0_3]) (t := 35) ?hr ?_; (case hd => rfl); (case hg => rfl); (case hr => first | (go_simp; done) | (go_simp; rfl)); intro gb165 hg w27 hbox hb; have BK165 := Aside0.mk (hbox); have GW165 := Aside0.mk ((geA hg : w.heap.size ≤ gb165)); have GE165 := Aside0.mk ((geA hg : w.heap.size ≤ gb165)); replace HB := Aside0.mk (below_step bA hb); clear hb hbox hg; have hcz28_0 : w27.cell? ⟨gb165, 0, none⟩ = some (.int .i64 a0_0) := (blk_cell BK165.out 0).trans rfl; have hcz28_1 : w27.cell? ⟨gb165, 1, none⟩ = some (.string a0_1) := (blk_cell BK165.out 1).trans rfl; have hcz28_2 : w27.cell? ⟨gb165, 2, none⟩ = some (.slice A0_2 l0_2.length c0_2) := (blk_cell BK165.out 2).trans rfl; have hcz28_3 : w27.cell? ⟨gb165, 3, none⟩ = some (.string a0_3) := (blk_cell BK165.out 3).trans rfl; have hfz28_0 := blk_frozen BK165.out 0; have hfz28_1 := blk_frozen BK165.out 1; have hfz28_2 := blk_frozen BK165.out 2; have hfz28_3 := blk_frozen BK165.out 3))
  (try simp only [Act.put, List.setIfInBounds_toArray, List.set_cons_zero, List.set_cons_succ])
  go_cut [55] (fun v55 wc => ∃ (kq : Nat) (x55_25 : Bool), v55 = .bool x55_25 ∧ Aside0 (flongref05_Check.j0 kq x55_25 a0_0 a0_1 l0_2 a0_3 = some r) ∧ Aside0 (kq ≤ k) ∧ Aside0 (wc.heap[gb165]? = some (.cells #[.int .i64 a0_0, .string a0_1, (.slice A0_2 l0_2.length c0_2), .string a0_3] 35 (0, 0))) ∧ Aside0 (Below w.heap.size w wc))
  case first =>
   have H := HC26.out
   clear HC26
   replace H := Option.bind_eq_some_iff.mp H
   obtain ⟨t168, A290, H⟩ := H
   replace H : (if t168 = true then (flongref05_Check.j0 k true a0_0 a0_1 l0_2 a0_3) else ((flongref05_sign.f a0_1).bind fun t169 => (if t169 = true then (flongref05_Check.j0 k true a0_0 a0_1 l0_2 a0_3) else (if a0_3.toList = ([] : List UInt8) then (flongref05_Check.j0 k (decide ((l0_2.length : Int) > 200)) a0_0 a0_1 l0_2 a0_3) else (flongref05_Check.j0 k true a0_0 a0_1 l0_2 a0_3))))) = some r := H
   have A29 := Aside0.mk A290
   clear A290
   by_cases c30 : t168 = true
   ·subst c30
    have H1 : (flongref05_Check.j0 k true a0_0 a0_1 l0_2 a0_3) = some r := by rw [if_pos rfl] at H; exact H
    clear H
    have H := H1
    clear H1
    have H' := Aside0.mk H
    clear H
    have hcz31_0 : w27.cell? ⟨gb165, 0, none⟩ = some (.int .i64 a0_0) := (blk_cell BK165.out 0).trans rfl
    have hcz31_1 : w27.cell? ⟨gb165, 1, none⟩ = some (.string a0_1) := (blk_cell BK165.out 1).trans rfl
    have hcz31_2 : w27.cell? ⟨gb165, 2, none⟩ = some (.slice A0_2 l0_2.length c0_2) := (blk_cell BK165.out 2).trans rfl
    have hcz31_3 : w27.cell? ⟨gb165, 3, none⟩ = some (.string a0_3) := (blk_cell BK165.out 3).trans rfl
    have hfz31_0 := blk_frozen BK165.out 0
    have hfz31_1 := blk_frozen BK165.out 1
    have hfz31_2 := blk_frozen BK165.out 2
    have hfz31_3 := blk_frozen BK165.out 3
    go_wp2_with (first | ((with_reducible refine gate_callee (f := 42) rfl ?_); refine goesL_ (some 39) rfl rfl Tryd.func42 (by kernel_rfl) rfl #[.string a0_1, .string (⟨#[32, 9, 10, 13, 92, 34]⟩ : ByteArray)] rfl aP ?_; (with_reducible refine (flongref05_has.calls k a0_1 (⟨#[32, 9, 10, 13, 92, 34]⟩ : ByteArray) true _ A29.out).mono ?_); rintro e w' ⟨rfl, ⟨nd, rfl⟩⟩; refine ⟨_, rfl, ?_⟩))
    go_meet
    case rel => exact ⟨_, (true), sA, H', ⟨by first | omega | exact Nat.le_refl _⟩, ⟨kB BK165⟩, ⟨bG⟩⟩
   ·replace c30 := Bool.eq_false_iff.mpr c30
    subst c30
    have H1 : ((flongref05_sign.f a0_1).bind fun t169 => (if t169 = true then (flongref05_Check.j0 k true a0_0 a0_1 l0_2 a0_3) else (if a0_3.toList = ([] : List UInt8) then (flongref05_Check.j0 k (decide ((l0_2.length : Int) > 200)) a0_0 a0_1 l0_2 a0_3) else (flongref05_Check.j0 k true a0_0 a0_1 l0_2 a0_3)))) = some r := by rw [if_neg (show ¬ (false = true) by decide)] at H; exact H
    clear H
    have H := H1
    clear H1
    replace H := Option.bind_eq_some_iff.mp H
    obtain ⟨t169, A320, H⟩ := H
    replace H : (if t169 = true then (flongref05_Check.j0 k true a0_0 a0_1 l0_2 a0_3) else (if a0_3.toList = ([] : List UInt8) then (flongref05_Check.j0 k (decide ((l0_2.length : Int) > 200)) a0_0 a0_1 l0_2 a0_3) else (flongref05_Check.j0 k true a0_0 a0_1 l0_2 a0_3))) = some r := H
    have A32 := Aside0.mk A320
    clear A320
    by_cases c33 : t169 = true
    ·subst c33
     have H1 : (flongref05_Check.j0 k true a0_0 a0_1 l0_2 a0_3) = some r := by rw [if_pos rfl] at H; exact H
     clear H
     have H := H1
     clear H1
     have H' := Aside0.mk H
     clear H
     have hcz34_0 : w27.cell? ⟨gb165, 0, none⟩ = some (.int .i64 a0_0) := (blk_cell BK165.out 0).trans rfl
     have hcz34_1 : w27.cell? ⟨gb165, 1, none⟩ = some (.string a0_1) := (blk_cell BK165.out 1).trans rfl
     have hcz34_2 : w27.cell? ⟨gb165, 2, none⟩ = some (.slice A0_2 l0_2.length c0_2) := (blk_cell BK165.out 2).trans rfl
     have hcz34_3 : w27.cell? ⟨gb165, 3, none⟩ = some (.string a0_3) := (blk_cell BK165.out 3).trans rfl
     have hfz34_0 := blk_frozen BK165.out 0
     have hfz34_1 := blk_frozen BK165.out 1
     have hfz34_2 := blk_frozen BK165.out 2
     have hfz34_3 := blk_frozen BK165.out 3
     go_wp2_with (first | ((with_reducible refine gate_callee (f := 42) rfl ?_); refine goesL_ (some 39) rfl rfl Tryd.func42 (by kernel_rfl) rfl #[.string a0_1, .string (⟨#[32, 9, 10, 13, 92, 34]⟩ : ByteArray)] rfl aP ?_; (with_reducible refine (flongref05_has.calls k a0_1 (⟨#[32, 9, 10, 13, 92, 34]⟩ : ByteArray) false _ A29.out).mono ?_); rintro e w' ⟨rfl, ⟨nd, rfl⟩⟩; refine ⟨_, rfl, ?_⟩) | (go_at_call 43; (with_reducible refine (flongref05_sign.calls a0_1 true _ A32.out).mono ?_); rintro e w' ⟨rfl, ⟨nd, rfl⟩⟩))
     go_meet
     case rel => exact ⟨_, (true), sA, H', ⟨by first | omega | exact Nat.le_refl _⟩, ⟨kB BK165⟩, ⟨bG⟩⟩
    ·replace c33 := Bool.eq_false_iff.mpr c33
     subst c33
     have H1 : (if a0_3.toList = ([] : List UInt8) then (flongref05_Check.j0 k (decide ((l0_2.length : Int) > 200)) a0_0 a0_1 l0_2 a0_3) else (flongref05_Check.j0 k true a0_0 a0_1 l0_2 a0_3)) = some r := by rw [if_neg (show ¬ (false = true) by decide)] at H; exact H
     clear H
     have H := H1
     clear H1
     by_cases c35 : a0_3.toList = ([] : List UInt8)
     ·rw [if_pos c35] at H
      have c35b0 : (a0_3.toList == ([] : List UInt8)) = true := beq_iff_eq.mpr c35
      have c35b1 : (a0_3.toList != ([] : List UInt8)) = false := bne_eq_false_iff_eq.mpr c35
      clear c35
      (first | rw [c35b0] | (simp only [i64_w, i32_w]; rw [c35b0]) | skip)
      have H' := Aside0.mk H
      clear H
      have hcz36_0 : w27.cell? ⟨gb165, 0, none⟩ = some (.int .i64 a0_0) := (blk_cell BK165.out 0).trans rfl
      have hcz36_1 : w27.cell? ⟨gb165, 1, none⟩ = some (.string a0_1) := (blk_cell BK165.out 1).trans rfl
      have hcz36_2 : w27.cell? ⟨gb165, 2, none⟩ = some (.slice A0_2 l0_2.length c0_2) := (blk_cell BK165.out 2).trans rfl
      have hcz36_3 : w27.cell? ⟨gb165, 3, none⟩ = some (.string a0_3) := (blk_cell BK165.out 3).trans rfl
      have hfz36_0 := blk_frozen BK165.out 0
      have hfz36_1 := blk_frozen BK165.out 1
      have hfz36_2 := blk_frozen BK165.out 2
      have hfz36_3 := blk_frozen BK165.out 3
      go_wp2_with (first | ((with_reducible refine gate_callee (f := 42) rfl ?_); refine goesL_ (some 39) rfl rfl Tryd.func42 (by kernel_rfl) rfl #[.string a0_1, .string (⟨#[32, 9, 10, 13, 92, 34]⟩ : ByteArray)] rfl aP ?_; (with_reducible refine (flongref05_has.calls k a0_1 (⟨#[32, 9, 10, 13, 92, 34]⟩ : ByteArray) false _ A29.out).mono ?_); rintro e w' ⟨rfl, ⟨nd, rfl⟩⟩; refine ⟨_, rfl, ?_⟩) | (go_at_call 43; (with_reducible refine (flongref05_sign.calls a0_1 false _ A32.out).mono ?_); rintro e w' ⟨rfl, ⟨nd, rfl⟩⟩))
      go_meet
      case rel => exact ⟨_, (decide ((l0_2.length : Int) > 200)), sA, H', ⟨by first | omega | exact Nat.le_refl _⟩, ⟨kB BK165⟩, ⟨bG⟩⟩
     ·rw [if_neg c35] at H
      have c35b0 : (a0_3.toList == ([] : List UInt8)) = false := beq_eq_false_iff_ne.mpr c35
      have c35b1 : (a0_3.toList != ([] : List UInt8)) = true := bne_iff_ne.mpr c35
      (first | rw [c35b0] | (simp only [i64_w, i32_w]; rw [c35b0]) | skip)
      have H' := Aside0.mk H
      clear H
      have hcz37_0 : w27.cell? ⟨gb165, 0, none⟩ = some (.int .i64 a0_0) := (blk_cell BK165.out 0).trans rfl
      have hcz37_1 : w27.cell? ⟨gb165, 1, none⟩ = some (.string a0_1) := (blk_cell BK165.out 1).trans rfl
      have hcz37_2 : w27.cell? ⟨gb165, 2, none⟩ = some (.slice A0_2 l0_2.length c0_2) := (blk_cell BK165.out 2).trans rfl
      have hcz37_3 : w27.cell? ⟨gb165, 3, none⟩ = some (.string a0_3) := (blk_cell BK165.out 3).trans rfl
      have hfz37_0 := blk_frozen BK165.out 0
      have hfz37_1 := blk_frozen BK165.out 1
      have hfz37_2 := blk_frozen BK165.out 2
      have hfz37_3 := blk_frozen BK165.out 3
      go_wp2_with (first | ((with_reducible refine gate_callee (f := 42) rfl ?_); refine goesL_ (some 39) rfl rfl Tryd.func42 (by kernel_rfl) rfl #[.string a0_1, .string (⟨#[32, 9, 10, 13, 92, 34]⟩ : ByteArray)] rfl aP ?_; (with_reducible refine (flongref05_has.calls k a0_1 (⟨#[32, 9, 10, 13, 92, 34]⟩ : ByteArray) false _ A29.out).mono ?_); rintro e w' ⟨rfl, ⟨nd, rfl⟩⟩; refine ⟨_, rfl, ?_⟩) | (go_at_call 43; (with_reducible refine (flongref05_sign.calls a0_1 false _ A32.out).mono ?_); rintro e w' ⟨rfl, ⟨nd, rfl⟩⟩))
      go_meet
      case rel => exact ⟨_, (true), sA, H', ⟨by first | omega | exact Nat.le_refl _⟩, ⟨kB BK165⟩, ⟨bG⟩⟩
  case rest =>
   clear HC26
   try clear c1
   try clear p1
   try clear q1
   try clear hx1
   try clear c2
   try clear c2b0
   try clear c2b1
   try clear p2
   try clear c3
   try clear c3b0
   try clear c3b1
   try clear c4
   try clear p6
   try clear c7
   try clear c11
   try clear c14
   try clear c14b0
   try clear c14b1
   try clear c16
   try clear c16b0
   try clear c17
   try clear c17b0
   try clear p18
   try clear q18
   try clear hx18
   try clear c19
   try clear c19b0
   try clear c19b1
   try clear c22
   try clear c30
   try clear c33
   try clear c35
   try clear c35b0
   try clear c35b1
   try clear hcz13_0
   try clear hcz13_1
   try clear hcz13_2
   try clear hcz13_3
   try clear hcz21_0
   try clear hcz21_1
   try clear hcz21_2
   try clear hcz21_3
   try clear hcz23_0
   try clear hcz23_1
   try clear hcz23_2
   try clear hcz23_3
   try clear hcz25_0
   try clear hcz25_1
   try clear hcz25_2
   try clear hcz25_3
   try clear hcz28_0
   try clear hcz28_1
   try clear hcz28_2
   try clear hcz28_3
   try clear hcz31_0
   try clear hcz31_1
   try clear hcz31_2
   try clear hcz31_3
   try clear hcz34_0
   try clear hcz34_1
   try clear hcz34_2
   try clear hcz34_3
   try clear hcz36_0
   try clear hcz36_1
   try clear hcz36_2
   try clear hcz36_3
   try clear hcz37_0
   try clear hcz37_1
   try clear hcz37_2
   try clear hcz37_3
   try clear hcz5_0
   try clear hcz5_1
   try clear hcz5_2
   try clear hcz5_3
   try clear hcz9_0
   try clear hcz9_1
   try clear hcz9_2
   try clear hcz9_3
   try clear hfz13_0
   try clear hfz13_1
   try clear hfz13_2
   try clear hfz13_3
   try clear hfz21_0
   try clear hfz21_1
   try clear hfz21_2
   try clear hfz21_3
   try clear hfz23_0
   try clear hfz23_1
   try clear hfz23_2
   try clear hfz23_3
   try clear hfz25_0
   try clear hfz25_1
   try clear hfz25_2
   try clear hfz25_3
   try clear hfz28_0
   try clear hfz28_1
   try clear hfz28_2
   try clear hfz28_3
   try clear hfz31_0
   try clear hfz31_1
   try clear hfz31_2
   try clear hfz31_3
   try clear hfz34_0
   try clear hfz34_1
   try clear hfz34_2
   try clear hfz34_3
   try clear hfz36_0
   try clear hfz36_1
   try clear hfz36_2
   try clear hfz36_3
   try clear hfz37_0
   try clear hfz37_1
   try clear hfz37_2
   try clear hfz37_3
   try clear hfz5_0
   try clear hfz5_1
   try clear hfz5_2
   try clear hfz5_3
   try clear hfz9_0
   try clear hfz9_1
   try clear hfz9_2
   try clear hfz9_3
   try clear p18
   try clear q18
   obtain ⟨kq, x55_25, rfl, HA, HJ25, BK165, HB⟩ := hcut
   cases kq with
   | zero => exact absurd HA.out (by simp [flongref05_Check.j0])
   | succ kj25 =>
    have H := HA.out
    clear HA
    simp only [flongref05_Check.j0] at H
    by_cases c38 : x55_25 = true
    ·subst c38
     have H1 : (some 2) = some r := by rw [if_pos rfl] at H; exact H
     clear H
     have H := H1
     clear H1
     obtain rfl := Option.some.inj H
     go_wp2
     go_ret
     exact ⟨eW, bG⟩
    ·replace c38 := Bool.eq_false_iff.mpr c38
     subst c38
     have H1 : (flongref05_Check.l0 kj25 0 a0_0 a0_1 l0_2 a0_3) = some r := by rw [if_neg (show ¬ (false = true) by decide)] at H; exact H
     clear H
     have H := H1
     clear H1
     have H' := Aside0.mk H
     clear H
     go_wp2
     go_loopg [3] kj25 (fun kq v3 w' => ∃ (x3_2 : Int), v3 = .int .i64 x3_2 ∧ Aside0 (flongref05_Check.l0 kq x3_2 a0_0 a0_1 l0_2 a0_3 = some r) ∧ Aside0 (kq ≤ kj25) ∧ Aside0 (w'.heap[gb165]? = some (.cells #[.int .i64 a0_0, .string a0_1, (.slice A0_2 l0_2.length c0_2), .string a0_3] 35 (0, 0))) ∧ Aside0 (Below w.heap.size w w'))
     case atStart => exact ⟨(0), sA, H', ⟨Nat.le_refl _⟩, ⟨kB BK165⟩, ⟨bG⟩⟩
     case round =>
      clear H'
      try clear c1
      try clear p1
      try clear q1
      try clear hx1
      try clear c2
      try clear c2b0
      try clear c2b1
      try clear p2
      try clear c3
      try clear c3b0
      try clear c3b1
      try clear c4
      try clear p6
      try clear c7
      try clear c11
      try clear c14
      try clear c14b0
      try clear c14b1
      try clear c16
      try clear c16b0
      try clear c17
      try clear c17b0
      try clear p18
      try clear q18
      try clear hx18
      try clear c19
      try clear c19b0
      try clear c19b1
      try clear c22
      try clear c30
      try clear c33
      try clear c35
      try clear c35b0
      try clear c35b1
      try clear c38
      try clear hcz13_0
      try clear hcz13_1
      try clear hcz13_2
      try clear hcz13_3
      try clear hcz21_0
      try clear hcz21_1
      try clear hcz21_2
      try clear hcz21_3
      try clear hcz23_0
      try clear hcz23_1
      try clear hcz23_2
      try clear hcz23_3
      try clear hcz25_0
      try clear hcz25_1
      try clear hcz25_2
      try clear hcz25_3
      try clear hcz28_0
      try clear hcz28_1
      try clear hcz28_2
      try clear hcz28_3
      try clear hcz31_0
      try clear hcz31_1
      try clear hcz31_2
      try clear hcz31_3
      try clear hcz34_0
      try clear hcz34_1
      try clear hcz34_2
      try clear hcz34_3
      try clear hcz36_0
      try clear hcz36_1
      try clear hcz36_2
      try clear hcz36_3
      try clear hcz37_0
      try clear hcz37_1
      try clear hcz37_2
      try clear hcz37_3
      try clear hcz5_0
      try clear hcz5_1
      try clear hcz5_2
      try clear hcz5_3
      try clear hcz9_0
      try clear hcz9_1
      try clear hcz9_2
      try clear hcz9_3
      try clear hfz13_0
      try clear hfz13_1
      try clear hfz13_2
      try clear hfz13_3
      try clear hfz21_0
      try clear hfz21_1
      try clear hfz21_2
      try clear hfz21_3
      try clear hfz23_0
      try clear hfz23_1
      try clear hfz23_2
      try clear hfz23_3
      try clear hfz25_0
      try clear hfz25_1
      try clear hfz25_2
      try clear hfz25_3
      try clear hfz28_0
      try clear hfz28_1
      try clear hfz28_2
      try clear hfz28_3
      try clear hfz31_0
      try clear hfz31_1
      try clear hfz31_2
      try clear hfz31_3
      try clear hfz34_0
      try clear hfz34_1
      try clear hfz34_2
      try clear hfz34_3
      try clear hfz36_0
      try clear hfz36_1
      try clear hfz36_2
      try clear hfz36_3
      try clear hfz37_0
      try clear hfz37_1
      try clear hfz37_2
      try clear hfz37_3
      try clear hfz5_0
      try clear hfz5_1
      try clear hfz5_2
      try clear hfz5_3
      try clear hfz9_0
      try clear hfz9_1
      try clear hfz9_2
      try clear hfz9_3
      try clear p1
      try clear p18
      try clear p2
      try clear p6
      try clear q1
      try clear q18
      obtain ⟨x3_2, rfl, HA, HK2, BK165, HB⟩ := hrel
      cases gk with
      | zero => exact absurd HA.out (by simp [flongref05_Check.l0])
      | succ k2 =>
       have H := HA.out
       clear HA
       simp only [flongref05_Check.l0] at H
       by_cases c39 : x3_2 < (l0_2.length : Int)
       ·rw [if_pos c39] at H
        have c39b0 : decide (x3_2 < (l0_2.length : Int)) = true := decide_eq_true c39
        clear c39
        by_cases c40 : 0 ≤ x3_2
        ·rw [if_pos c40] at H
         have c40b0 : decide (0 ≤ x3_2) = true := decide_eq_true c40
         clear c40
         replace H := Option.bind_eq_some_iff.mp H
         obtain ⟨t171, A410, H⟩ := H
         replace H : (if t171 = true then (some 2) else (flongref05_Check.l0 k2 (wrap64 (x3_2 + 1)) a0_0 a0_1 l0_2 a0_3)) = some r := H
         have A41 := Aside0.mk A410
         clear A410
         by_cases c42 : t171 = true
         ·subst c42
          have H1 : (some 2) = some r := by rw [if_pos rfl] at H; exact H
          clear H
          have H := H1
          clear H1
          obtain rfl := Option.some.inj H
          have hcz43_0 : wr.cell? ⟨gb165, 0, none⟩ = some (.int .i64 a0_0) := (blk_cell BK165.out 0).trans rfl
          have hcz43_1 : wr.cell? ⟨gb165, 1, none⟩ = some (.string a0_1) := (blk_cell BK165.out 1).trans rfl
          have hcz43_2 : wr.cell? ⟨gb165, 2, none⟩ = some (.slice A0_2 l0_2.length c0_2) := (blk_cell BK165.out 2).trans rfl
          have hcz43_3 : wr.cell? ⟨gb165, 3, none⟩ = some (.string a0_3) := (blk_cell BK165.out 3).trans rfl
          have hfz43_0 := blk_frozen BK165.out 0
          have hfz43_1 := blk_frozen BK165.out 1
          have hfz43_2 := blk_frozen BK165.out 2
          have hfz43_3 := blk_frozen BK165.out 3
          have p170 : 0 ≤ (x3_2 : Int) := of_decide_eq_true asA
          have q170 : x3_2 < (l0_2.length : Int) := of_decide_eq_true asA
          obtain ⟨ad170, e170, hx170_0⟩ := Kd.at_string HR0_2.out x3_2 p170 q170
          cases e170
          replace hx170_0 := (HB.out.cell (World.block_lt_of_cell? w _ hx170_0)).trans hx170_0
          replace p170 := eq_true p170
          replace q170 := eq_true q170
          go_wp2_with (first | ((with_reducible refine gate_callee (f := 42) rfl ?_); refine goesL_ (some 68) rfl rfl Tryd.func42 (by kernel_rfl) rfl #[.string (rdOf ByteArray.empty l0_2 x3_2), .string (⟨#[10, 13, 92]⟩ : ByteArray)] rfl aP ?_; (with_reducible refine (flongref05_has.calls k2 (rdOf ByteArray.empty l0_2 x3_2) (⟨#[10, 13, 92]⟩ : ByteArray) true _ A41.out).mono ?_); rintro e w' ⟨rfl, ⟨nd, rfl⟩⟩; refine ⟨_, rfl, ?_⟩))
          go_ret
          exact ⟨eW, bG⟩
         ·replace c42 := Bool.eq_false_iff.mpr c42
          subst c42
          have H1 : (flongref05_Check.l0 k2 (wrap64 (x3_2 + 1)) a0_0 a0_1 l0_2 a0_3) = some r := by rw [if_neg (show ¬ (false = true) by decide)] at H; exact H
          clear H
          have H := H1
          clear H1
          have H' := Aside0.mk H
          clear H
          have hcz44_0 : wr.cell? ⟨gb165, 0, none⟩ = some (.int .i64 a0_0) := (blk_cell BK165.out 0).trans rfl
          have hcz44_1 : wr.cell? ⟨gb165, 1, none⟩ = some (.string a0_1) := (blk_cell BK165.out 1).trans rfl
          have hcz44_2 : wr.cell? ⟨gb165, 2, none⟩ = some (.slice A0_2 l0_2.length c0_2) := (blk_cell BK165.out 2).trans rfl
          have hcz44_3 : wr.cell? ⟨gb165, 3, none⟩ = some (.string a0_3) := (blk_cell BK165.out 3).trans rfl
          have hfz44_0 := blk_frozen BK165.out 0
          have hfz44_1 := blk_frozen BK165.out 1
          have hfz44_2 := blk_frozen BK165.out 2
          have hfz44_3 := blk_frozen BK165.out 3
          have p170 : 0 ≤ (x3_2 : Int) := of_decide_eq_true asA
          have q170 : x3_2 < (l0_2.length : Int) := of_decide_eq_true asA
          obtain ⟨ad170, e170, hx170_0⟩ := Kd.at_string HR0_2.out x3_2 p170 q170
          cases e170
          replace hx170_0 := (HB.out.cell (World.block_lt_of_cell? w _ hx170_0)).trans hx170_0
          replace p170 := eq_true p170
          replace q170 := eq_true q170
          go_wp2_with (first | ((with_reducible refine gate_callee (f := 42) rfl ?_); refine goesL_ (some 68) rfl rfl Tryd.func42 (by kernel_rfl) rfl #[.string (rdOf ByteArray.empty l0_2 x3_2), .string (⟨#[10, 13, 92]⟩ : ByteArray)] rfl aP ?_; (with_reducible refine (flongref05_has.calls k2 (rdOf ByteArray.empty l0_2 x3_2) (⟨#[10, 13, 92]⟩ : ByteArray) false _ A41.out).mono ?_); rintro e w' ⟨rfl, ⟨nd, rfl⟩⟩; refine ⟨_, rfl, ?_⟩))
          go_roundg k2
          case measure => have := HJ25.out; have := HK2.out; omega
          case rel => exact ⟨(wrap64 (x3_2 + 1)), sA, H', ⟨by have := HJ25.out; have := HK2.out; omega⟩, ⟨kB BK165⟩, ⟨bG⟩⟩
        ·rw [if_neg c40] at H
         exact absurd H (by simp)
       ·rw [if_neg c39] at H
        have c39b0 : decide (x3_2 < (l0_2.length : Int)) = false := decide_eq_false c39
        clear c39
        obtain rfl := Option.some.inj H
        have hcz45_0 : wr.cell? ⟨gb165, 0, none⟩ = some (.int .i64 a0_0) := (blk_cell BK165.out 0).trans rfl
        have hcz45_1 : wr.cell? ⟨gb165, 1, none⟩ = some (.string a0_1) := (blk_cell BK165.out 1).trans rfl
        have hcz45_2 : wr.cell? ⟨gb165, 2, none⟩ = some (.slice A0_2 l0_2.length c0_2) := (blk_cell BK165.out 2).trans rfl
        have hcz45_3 : wr.cell? ⟨gb165, 3, none⟩ = some (.string a0_3) := (blk_cell BK165.out 3).trans rfl
        have hfz45_0 := blk_frozen BK165.out 0
        have hfz45_1 := blk_frozen BK165.out 1
        have hfz45_2 := blk_frozen BK165.out 2
        have hfz45_3 := blk_frozen BK165.out 3
        go_wp2
        go_ret
        exact ⟨eW, bG⟩

end Go.Proofs.YtmfkokjbjmahkaaDoor.X
