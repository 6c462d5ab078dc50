-- Written by this session's xprint.py (a variant of the kit's printer). Not trusted: Lean checks it.
import Derived.Test.YtaoiogpgncjolaaDoorX0
import Derived.Test.YtaoiogpgncjolaaDoorX1
import Derived.Test.YtaoiogpgncjolaaDoorX3
import Derived.Test.YtaoiogpgncjolaaDoorX6
namespace Go.Proofs.YtaoiogpgncjolaaDoor.X
open Go.RowKit Go.Proofs.YtaoiogpgncjolaaDoorW.PrintWords Go.Proofs.YtaoiogpgncjolaaDoorW.PrintLast Go.Proofs.YtaoiogpgncjolaaDoorW.PrintMore
open Go.Proofs.YtaoiogpgncjolaaDoor.Hand
attribute [local go_sem] max2_int min2_int max_two min_two max_three min_three max_four min_four   -- for this text's walks alone
set_option linter.unusedVariables false
set_option linter.unusedSimpArgs false

/-! ### flonglaw02_RunesLengths: function 5 -/
def flonglaw02_RunesLengths.j0 : Nat → List Int → Int → List Int → Bool → Option (Bool)
  | 0, _, _, _, _ => none
  | k + 1, x0, x3, x9, x68 => if x68 = true then (some false) else (if x3 > 127 then ((flonglaw02_known.f k).bind fun t201 => (some t201)) else ((some (([x3] : List Int) : List Int)).bind fun y202 => (if y202.length + x0.length < 140737488355328 then ((runes_Decode.f k (y202 ++ x0)).bind fun t208 => (if (t208.length : Int) = (wrap64 ((x9.length : Int) + 1)) then (if 0 < (t208.length : Int) then (if (rd t208 0) = (wrap32 (x3)) then (if 1 ≤ (t208.length : Int) then ((flongref02_Same.f k (t208.drop 1) x9).bind fun t216 => (if t216 = true then ((flonglaw02_known.f k).bind fun t217 => (some t217)) else (some false))) else (none)) else (some false)) else (none)) else (some false))) else (none))))
def flonglaw02_RunesLengths.f (k : Nat) (l0 : List Int) (a1 : Int) (a2 : Int) (a3 : Int) : Option (Bool) := if (l0.length : Int) > 1000 then ((flonglaw02_known.f k).bind fun t181 => (some t181)) else ((runes_Decode.f k l0).bind fun t182 => ((runes_Encode.f k (([a1] : List Int))).bind fun t188 => ((runes_Encode.f k (([a2] : List Int))).bind fun t194 => (if (t182.length : Int) > (l0.length : Int) then (flonglaw02_RunesLengths.j0 k l0 a3 t182 true) else (if (l0.length : Int) > 0 then (if (t182.length : Int) = 0 then (flonglaw02_RunesLengths.j0 k l0 a3 t182 true) else (if (t188.length : Int) < 1 then (flonglaw02_RunesLengths.j0 k l0 a3 t182 true) else (if (t188.length : Int) > 4 then (flonglaw02_RunesLengths.j0 k l0 a3 t182 true) else ((runes_Valid.f a1).bind fun t197 => (if t197 = true then ((runes_Valid.f a2).bind fun t198 => (if t198 = true then (if a1 < a2 then (flonglaw02_RunesLengths.j0 k l0 a3 t182 (decide ((t188.length : Int) > (t194.length : Int)))) else (flonglaw02_RunesLengths.j0 k l0 a3 t182 false)) else (flonglaw02_RunesLengths.j0 k l0 a3 t182 false))) else (flonglaw02_RunesLengths.j0 k l0 a3 t182 false)))))) else (if (t188.length : Int) < 1 then (flonglaw02_RunesLengths.j0 k l0 a3 t182 true) else (if (t188.length : Int) > 4 then (flonglaw02_RunesLengths.j0 k l0 a3 t182 true) else ((runes_Valid.f a1).bind fun t199 => (if t199 = true then ((runes_Valid.f a2).bind fun t200 => (if t200 = true then (if a1 < a2 then (flonglaw02_RunesLengths.j0 k l0 a3 t182 (decide ((t188.length : Int) > (t194.length : Int)))) else (flonglaw02_RunesLengths.j0 k l0 a3 t182 false)) else (flonglaw02_RunesLengths.j0 k l0 a3 t182 false))) else (flonglaw02_RunesLengths.j0 k l0 a3 t182 false))))))))))
theorem flonglaw02_RunesLengths.mono_l : ∀ k, (∀ y0 y1 y2 y3, LeO (flonglaw02_RunesLengths.j0 k y0 y1 y2 y3) (flonglaw02_RunesLengths.j0 (k + 1) y0 y1 y2 y3))
  | 0 => fun _ _ _ _ r h => by simp [flonglaw02_RunesLengths.j0] at h
  | k + 1 => by
    have ih0 := flonglaw02_RunesLengths.mono_l k
    · intro y0 y1 y2 y3
      unfold flonglaw02_RunesLengths.j0
      repeat' first
      | (with_reducible exact ih0 _ _ _ _)
      | (with_reducible exact flonglaw02_known.mono _)
      | (with_reducible exact flongref02_Same.mono _ _ _)
      | (with_reducible exact runes_Decode.mono _ _)
      | (with_reducible exact runes_Encode.mono _ _)
      | (with_reducible exact LeO.refl _)
      | (with_reducible exact LeO.none _)
      | (with_reducible refine LeO.ite ?_ ?_)
      | (with_reducible refine LeO.bind ?_ (fun _ => ?_))
      | exact ih0 _ _ _ _
      | exact flonglaw02_known.mono _
      | exact flongref02_Same.mono _ _ _
      | exact runes_Decode.mono _ _
      | exact runes_Encode.mono _ _
      | exact LeO.none _
      | refine LeO.ite ?_ ?_
      | refine LeO.bind ?_ (fun _ => ?_)
theorem flonglaw02_RunesLengths.mono : ∀ a0 a1 a2 a3 k, LeO (flonglaw02_RunesLengths.f k a0 a1 a2 a3) (flonglaw02_RunesLengths.f (k + 1) a0 a1 a2 a3) := by
  intro a0 a1 a2 a3 k
  have ih0 := flonglaw02_RunesLengths.mono_l k
  unfold flonglaw02_RunesLengths.f
  repeat' first
      | (with_reducible exact ih0 _ _ _ _)
      | (with_reducible exact flonglaw02_known.mono _)
      | (with_reducible exact flongref02_Same.mono _ _ _)
      | (with_reducible exact runes_Decode.mono _ _)
      | (with_reducible exact runes_Encode.mono _ _)
      | (with_reducible exact LeO.refl _)
      | (with_reducible exact LeO.none _)
      | (with_reducible refine LeO.ite ?_ ?_)
      | (with_reducible refine LeO.bind ?_ (fun _ => ?_))
      | exact ih0 _ _ _ _
      | exact flonglaw02_known.mono _
      | exact flongref02_Same.mono _ _ _
      | exact runes_Decode.mono _ _
      | exact runes_Encode.mono _ _
      | exact LeO.none _
      | refine LeO.ite ?_ ?_
      | refine LeO.bind ?_ (fun _ => ?_)
set_option maxHeartbeats 8000000 in
set_option maxRecDepth 100000 in
theorem flonglaw02_RunesLengths.calls (k : Nat) (A0 : Option Addr) (c0 : Nat) (l0 : List Int) (a1 : Int) (a2 : Int) (a3 : Int) (r : Bool) (w : World) (hr0 : Kd.C (Kd.int .u8) w A0 l0.length l0) (hc0 : l0.length ≤ c0) (hG : GOK w) (h : flonglaw02_RunesLengths.f k l0 a1 a2 a3 = some r) :
    Calls Tryd.prog 5 #[.slice A0 l0.length c0, .int .i32 a1, .int .i32 a2, .int .u8 a3] w fun e w' => e = .returned (.bool r) ∧ Below w.heap.size w w' := by
  have HG := Aside0.mk hG
  clear hG
  have HR0 := Aside0.mk hr0
  have HC0 := Aside0.mk hc0
  clear hr0 hc0
  have HB := Aside0.mk (Below.refl w.heap.size w)
  have H : (if (l0.length : Int) > 1000 then ((flonglaw02_known.f k).bind fun t181 => (some t181)) else ((runes_Decode.f k l0).bind fun t182 => ((runes_Encode.f k (([a1] : List Int))).bind fun t188 => ((runes_Encode.f k (([a2] : List Int))).bind fun t194 => (if (t182.length : Int) > (l0.length : Int) then (flonglaw02_RunesLengths.j0 k l0 a3 t182 true) else (if (l0.length : Int) > 0 then (if (t182.length : Int) = 0 then (flonglaw02_RunesLengths.j0 k l0 a3 t182 true) else (if (t188.length : Int) < 1 then (flonglaw02_RunesLengths.j0 k l0 a3 t182 true) else (if (t188.length : Int) > 4 then (flonglaw02_RunesLengths.j0 k l0 a3 t182 true) else ((runes_Valid.f a1).bind fun t197 => (if t197 = true then ((runes_Valid.f a2).bind fun t198 => (if t198 = true then (if a1 < a2 then (flonglaw02_RunesLengths.j0 k l0 a3 t182 (decide ((t188.length : Int) > (t194.length : Int)))) else (flonglaw02_RunesLengths.j0 k l0 a3 t182 false)) else (flonglaw02_RunesLengths.j0 k l0 a3 t182 false))) else (flonglaw02_RunesLengths.j0 k l0 a3 t182 false)))))) else (if (t188.length : Int) < 1 then (flonglaw02_RunesLengths.j0 k l0 a3 t182 true) else (if (t188.length : Int) > 4 then (flonglaw02_RunesLengths.j0 k l0 a3 t182 true) else ((runes_Valid.f a1).bind fun t199 => (if t199 = true then ((runes_Valid.f a2).bind fun t200 => (if t200 = true then (if a1 < a2 then (flonglaw02_RunesLengths.j0 k l0 a3 t182 (decide ((t188.length : Int) > (t194.length : Int)))) else (flonglaw02_RunesLengths.j0 k l0 a3 t182 false)) else (flonglaw02_RunesLengths.j0 k l0 a3 t182 false))) else (flonglaw02_RunesLengths.j0 k l0 a3 t182 false))))))))))) = some r := h
  clear h
  by_cases c5 : (l0.length : Int) > 1000
  · rw [if_pos c5] at H
    have c5b0 : decide (1000 < (l0.length : Int)) = true := decide_eq_true c5
    have c5b1 : decide (1000 < l0.length) = true := decide_eq_true (by omega)
    clear c5
    replace H := Option.bind_eq_some_iff.mp H
    obtain ⟨t181, A60, H⟩ := H
    replace H : (some t181) = some r := H
    have A6 := Aside0.mk A60
    clear A60
    obtain rfl := Option.some.inj H
    go_enter Tryd.func5, Tryd.ntmps5
    go_wp2_with (first | ((with_reducible refine gate_callee (f := 14) rfl ?_); refine goesL_ (some 17) rfl rfl Tryd.func14 (by kernel_rfl) rfl #[] rfl (by (try simp only [List.map_toArray, List.map_cons, List.map_nil]); first | done | rfl | (simp only [List.length_drop, List.length_take]; rfl)) ?_; (with_reducible refine (flonglaw02_known.calls k  t181 _ ?side1 A6.out).mono ?_); (case side1 => exact GOK.of_below HG.out (by repeat (first | (with_reducible first | exact HB.out | apply below_alloc | apply pw_below_drewN | apply below_drew1) | exact HB.out))); rintro e w7 ⟨rfl, hb⟩; refine ⟨_, rfl, ?_⟩; have n0_ := Aside0.mk (below_step (by repeat (first | (with_reducible first | exact HB.out | apply below_alloc | apply pw_below_drewN | apply below_drew1) | exact HB.out)) hb); clear HB; have HB := n0_; clear n0_; (try clear hb); (try clear hb2); (try clear hk); (try clear hi)))
    go_ret
    exact ⟨by first | rfl | (simp [errW_none, errW_some] <;> rfl) | (simp [*, errW_none, errW_some] <;> rfl), by repeat (first | (with_reducible first | exact HB.out | apply below_alloc | apply pw_below_drewN | apply below_drew1) | exact HB.out)⟩
  · rw [if_neg c5] at H
    have c5b0 : decide (1000 < (l0.length : Int)) = false := decide_eq_false c5
    have c5b1 : decide (1000 < l0.length) = false := decide_eq_false (by omega)
    clear c5
    replace H := Option.bind_eq_some_iff.mp H
    obtain ⟨t182, A80, H⟩ := H
    replace H : ((runes_Encode.f k (([a1] : List Int))).bind fun t188 => ((runes_Encode.f k (([a2] : List Int))).bind fun t194 => (if (t182.length : Int) > (l0.length : Int) then (flonglaw02_RunesLengths.j0 k l0 a3 t182 true) else (if (l0.length : Int) > 0 then (if (t182.length : Int) = 0 then (flonglaw02_RunesLengths.j0 k l0 a3 t182 true) else (if (t188.length : Int) < 1 then (flonglaw02_RunesLengths.j0 k l0 a3 t182 true) else (if (t188.length : Int) > 4 then (flonglaw02_RunesLengths.j0 k l0 a3 t182 true) else ((runes_Valid.f a1).bind fun t197 => (if t197 = true then ((runes_Valid.f a2).bind fun t198 => (if t198 = true then (if a1 < a2 then (flonglaw02_RunesLengths.j0 k l0 a3 t182 (decide ((t188.length : Int) > (t194.length : Int)))) else (flonglaw02_RunesLengths.j0 k l0 a3 t182 false)) else (flonglaw02_RunesLengths.j0 k l0 a3 t182 false))) else (flonglaw02_RunesLengths.j0 k l0 a3 t182 false)))))) else (if (t188.length : Int) < 1 then (flonglaw02_RunesLengths.j0 k l0 a3 t182 true) else (if (t188.length : Int) > 4 then (flonglaw02_RunesLengths.j0 k l0 a3 t182 true) else ((runes_Valid.f a1).bind fun t199 => (if t199 = true then ((runes_Valid.f a2).bind fun t200 => (if t200 = true then (if a1 < a2 then (flonglaw02_RunesLengths.j0 k l0 a3 t182 (decide ((t188.length : Int) > (t194.length : Int)))) else (flonglaw02_RunesLengths.j0 k l0 a3 t182 false)) else (flonglaw02_RunesLengths.j0 k l0 a3 t182 false))) else (flonglaw02_RunesLengths.j0 k l0 a3 t182 false))))))))) = some r := H
    have A8 := Aside0.mk A80
    clear A80
    obtain ⟨y185, hy185⟩ : ∃ y_ : List Int, y_ = (([a1] : List Int)) := ⟨_, rfl⟩
    replace H : ((runes_Encode.f k y185).bind fun t188 => ((runes_Encode.f k (([a2] : List Int))).bind fun t194 => (if (t182.length : Int) > (l0.length : Int) then (flonglaw02_RunesLengths.j0 k l0 a3 t182 true) else (if (l0.length : Int) > 0 then (if (t182.length : Int) = 0 then (flonglaw02_RunesLengths.j0 k l0 a3 t182 true) else (if (t188.length : Int) < 1 then (flonglaw02_RunesLengths.j0 k l0 a3 t182 true) else (if (t188.length : Int) > 4 then (flonglaw02_RunesLengths.j0 k l0 a3 t182 true) else ((runes_Valid.f a1).bind fun t197 => (if t197 = true then ((runes_Valid.f a2).bind fun t198 => (if t198 = true then (if a1 < a2 then (flonglaw02_RunesLengths.j0 k l0 a3 t182 (decide ((t188.length : Int) > (t194.length : Int)))) else (flonglaw02_RunesLengths.j0 k l0 a3 t182 false)) else (flonglaw02_RunesLengths.j0 k l0 a3 t182 false))) else (flonglaw02_RunesLengths.j0 k l0 a3 t182 false)))))) else (if (t188.length : Int) < 1 then (flonglaw02_RunesLengths.j0 k l0 a3 t182 true) else (if (t188.length : Int) > 4 then (flonglaw02_RunesLengths.j0 k l0 a3 t182 true) else ((runes_Valid.f a1).bind fun t199 => (if t199 = true then ((runes_Valid.f a2).bind fun t200 => (if t200 = true then (if a1 < a2 then (flonglaw02_RunesLengths.j0 k l0 a3 t182 (decide ((t188.length : Int) > (t194.length : Int)))) else (flonglaw02_RunesLengths.j0 k l0 a3 t182 false)) else (flonglaw02_RunesLengths.j0 k l0 a3 t182 false))) else (flonglaw02_RunesLengths.j0 k l0 a3 t182 false))))))))) = some r := by first | (rw [hy185]; with_reducible exact H) | (have H2_ := (Option.bind_some _ _).symm.trans H; rw [hy185]; with_reducible exact H2_) | (have H2_ := (Option.bind_some _ _).symm.trans H; with_reducible exact H2_) | with_reducible exact H | (rw [hy185]; exact H) | exact H
    have Ny185 := Aside0.mk hy185
    clear hy185
    replace H := Option.bind_eq_some_iff.mp H
    obtain ⟨t188, A90, H⟩ := H
    replace H : ((runes_Encode.f k (([a2] : List Int))).bind fun t194 => (if (t182.length : Int) > (l0.length : Int) then (flonglaw02_RunesLengths.j0 k l0 a3 t182 true) else (if (l0.length : Int) > 0 then (if (t182.length : Int) = 0 then (flonglaw02_RunesLengths.j0 k l0 a3 t182 true) else (if (t188.length : Int) < 1 then (flonglaw02_RunesLengths.j0 k l0 a3 t182 true) else (if (t188.length : Int) > 4 then (flonglaw02_RunesLengths.j0 k l0 a3 t182 true) else ((runes_Valid.f a1).bind fun t197 => (if t197 = true then ((runes_Valid.f a2).bind fun t198 => (if t198 = true then (if a1 < a2 then (flonglaw02_RunesLengths.j0 k l0 a3 t182 (decide ((t188.length : Int) > (t194.length : Int)))) else (flonglaw02_RunesLengths.j0 k l0 a3 t182 false)) else (flonglaw02_RunesLengths.j0 k l0 a3 t182 false))) else (flonglaw02_RunesLengths.j0 k l0 a3 t182 false)))))) else (if (t188.length : Int) < 1 then (flonglaw02_RunesLengths.j0 k l0 a3 t182 true) else (if (t188.length : Int) > 4 then (flonglaw02_RunesLengths.j0 k l0 a3 t182 true) else ((runes_Valid.f a1).bind fun t199 => (if t199 = true then ((runes_Valid.f a2).bind fun t200 => (if t200 = true then (if a1 < a2 then (flonglaw02_RunesLengths.j0 k l0 a3 t182 (decide ((t188.length : Int) > (t194.length : Int)))) else (flonglaw02_RunesLengths.j0 k l0 a3 t182 false)) else (flonglaw02_RunesLengths.j0 k l0 a3 t182 false))) else (flonglaw02_RunesLengths.j0 k l0 a3 t182 false)))))))) = some r := H
    have A9 := Aside0.mk A90
    clear A90
    obtain ⟨y191, hy191⟩ : ∃ y_ : List Int, y_ = (([a2] : List Int)) := ⟨_, rfl⟩
    replace H : ((runes_Encode.f k y191).bind fun t194 => (if (t182.length : Int) > (l0.length : Int) then (flonglaw02_RunesLengths.j0 k l0 a3 t182 true) else (if (l0.length : Int) > 0 then (if (t182.length : Int) = 0 then (flonglaw02_RunesLengths.j0 k l0 a3 t182 true) else (if (t188.length : Int) < 1 then (flonglaw02_RunesLengths.j0 k l0 a3 t182 true) else (if (t188.length : Int) > 4 then (flonglaw02_RunesLengths.j0 k l0 a3 t182 true) else ((runes_Valid.f a1).bind fun t197 => (if t197 = true then ((runes_Valid.f a2).bind fun t198 => (if t198 = true then (if a1 < a2 then (flonglaw02_RunesLengths.j0 k l0 a3 t182 (decide ((t188.length : Int) > (t194.length : Int)))) else (flonglaw02_RunesLengths.j0 k l0 a3 t182 false)) else (flonglaw02_RunesLengths.j0 k l0 a3 t182 false))) else (flonglaw02_RunesLengths.j0 k l0 a3 t182 false)))))) else (if (t188.length : Int) < 1 then (flonglaw02_RunesLengths.j0 k l0 a3 t182 true) else (if (t188.length : Int) > 4 then (flonglaw02_RunesLengths.j0 k l0 a3 t182 true) else ((runes_Valid.f a1).bind fun t199 => (if t199 = true then ((runes_Valid.f a2).bind fun t200 => (if t200 = true then (if a1 < a2 then (flonglaw02_RunesLengths.j0 k l0 a3 t182 (decide ((t188.length : Int) > (t194.length : Int)))) else (flonglaw02_RunesLengths.j0 k l0 a3 t182 false)) else (flonglaw02_RunesLengths.j0 k l0 a3 t182 false))) else (flonglaw02_RunesLengths.j0 k l0 a3 t182 false)))))))) = some r := by first | (rw [hy191]; with_reducible exact H) | (have H2_ := (Option.bind_some _ _).symm.trans H; rw [hy191]; with_reducible exact H2_) | (have H2_ := (Option.bind_some _ _).symm.trans H; with_reducible exact H2_) | with_reducible exact H | (rw [hy191]; exact H) | exact H
    have Ny191 := Aside0.mk hy191
    clear hy191
    replace H := Option.bind_eq_some_iff.mp H
    obtain ⟨t194, A100, H⟩ := H
    replace H : (if (t182.length : Int) > (l0.length : Int) then (flonglaw02_RunesLengths.j0 k l0 a3 t182 true) else (if (l0.length : Int) > 0 then (if (t182.length : Int) = 0 then (flonglaw02_RunesLengths.j0 k l0 a3 t182 true) else (if (t188.length : Int) < 1 then (flonglaw02_RunesLengths.j0 k l0 a3 t182 true) else (if (t188.length : Int) > 4 then (flonglaw02_RunesLengths.j0 k l0 a3 t182 true) else ((runes_Valid.f a1).bind fun t197 => (if t197 = true then ((runes_Valid.f a2).bind fun t198 => (if t198 = true then (if a1 < a2 then (flonglaw02_RunesLengths.j0 k l0 a3 t182 (decide ((t188.length : Int) > (t194.length : Int)))) else (flonglaw02_RunesLengths.j0 k l0 a3 t182 false)) else (flonglaw02_RunesLengths.j0 k l0 a3 t182 false))) else (flonglaw02_RunesLengths.j0 k l0 a3 t182 false)))))) else (if (t188.length : Int) < 1 then (flonglaw02_RunesLengths.j0 k l0 a3 t182 true) else (if (t188.length : Int) > 4 then (flonglaw02_RunesLengths.j0 k l0 a3 t182 true) else ((runes_Valid.f a1).bind fun t199 => (if t199 = true then ((runes_Valid.f a2).bind fun t200 => (if t200 = true then (if a1 < a2 then (flonglaw02_RunesLengths.j0 k l0 a3 t182 (decide ((t188.length : Int) > (t194.length : Int)))) else (flonglaw02_RunesLengths.j0 k l0 a3 t182 false)) else (flonglaw02_RunesLengths.j0 k l0 a3 t182 false))) else (flonglaw02_RunesLengths.j0 k l0 a3 t182 false))))))) = some r := H
    have A10 := Aside0.mk A100
    clear A100
    have HC11 := Aside0.mk H
    clear H
    go_enter Tryd.func5, Tryd.ntmps5
    go_upto_region 6 with (first | ((with_reducible refine gate_callee (f := 16) rfl ?_); refine goesL_ (some 19) rfl rfl Tryd.func16 (by kernel_rfl) rfl #[.slice A0 l0.length c0] rfl (by (try simp only [List.map_toArray, List.map_cons, List.map_nil]); first | done | rfl | (simp only [List.length_drop, List.length_take]; rfl)) ?_; (with_reducible refine (runes_Decode.calls k (fun k_ => k_ < w.heap.size) _ _ l0 t182 _ ?side1 A8.out).mono ?_); (case side1 => exact Kd.V_mk HC0.out (Kd.F_below (Kd.C_F (Kd.heap_int .u8) HR0.out) (by repeat (first | (with_reducible first | exact HB.out | apply below_alloc | apply pw_below_drewN | apply below_drew1) | exact HB.out)))); rintro e w12 ⟨v183, rfl, ho0, hb⟩; refine ⟨_, rfl, ?_⟩; have n0_ := Aside0.mk (Kd.R_lower (Kd.R_mono (ok' := fun k_ => True) ho0 (fun _ hk_ => trivial)) (below_size (by repeat (first | (with_reducible first | exact HB.out | apply below_alloc | apply pw_below_drewN | apply below_drew1) | exact HB.out)))); have n1_ := Aside0.mk (below_step (by repeat (first | (with_reducible first | exact HB.out | apply below_alloc | apply pw_below_drewN | apply below_drew1) | exact HB.out)) hb); clear HB; have HO184 := n0_; have HB := n1_; clear n0_ n1_; (try clear hb); (try clear hb2); (try clear hk); (try clear hi); (try clear ho0)) | ((with_reducible refine gate_dst (N := 21) rfl ?_); (try (refine gate_guard (by rfl) ?_; dsimp only)); refine Kd.R_lit (Kd.int .i32) _ 21 ?hg (N := 21) ?hd (xs := ([a1] : List Int)) (inner := [.int .i32 a1]) (ok := fun _ => True) (okp := fun _ => True) ?hr ?hp (fun _ hk => hk) trivial (Below.refl _ _) (Nat.le_refl _) (by simp) ?_; (case hd => rfl); (case hg => rfl); (case hr => first | (go_simp; done) | (go_simp; rfl)); (case hp => exact (Reps.one (show Kd.M (Kd.int .i32) _ _ _ a1 [.int .i32 a1] from rfl) (Reps.none _ _))); intro v186 w13 ho14 hb hg_ hnew_; clear hg_ hnew_; (first | rw [← Ny185.out] at ho14 | (simp only [Int.reduceToNat] at ho14; rw [← Ny185.out] at ho14)); have n0_ := Aside0.mk (Kd.R_elder' (by (with_reducible repeat (first | apply Kd.R_alloc | apply Kd.R_drewN | apply Kd.R_drew)); exact HO184.out) (Kd.R_base ho14) hb); have n1_ := Aside0.mk (Kd.R_lower (Kd.R_new' ho14 (Kd.R_lt (by (with_reducible repeat (first | apply Kd.R_alloc | apply Kd.R_drewN | apply Kd.R_drew)); exact HO184.out))) (below_size (by repeat (first | (with_reducible first | exact HB.out | apply below_alloc | apply pw_below_drewN | apply below_drew1) | exact HB.out)))); have n2_ := Aside0.mk (below_step (by repeat (first | (with_reducible first | exact HB.out | apply below_alloc | apply pw_below_drewN | apply below_drew1) | exact HB.out)) hb); clear HO184; clear HB; have HO184 := n0_; have HO187 := n1_; have HB := n2_; clear n0_ n1_ n2_; clear hb ho14; obtain ⟨Ao15, co15, eo15⟩ := Kd.R_slice HO187.out; subst eo15) | ((with_reducible refine gate_callee (f := 17) rfl ?_); refine goesL_ (some 22) rfl rfl Tryd.func17 (by kernel_rfl) rfl #[.slice Ao15 y185.length co15] rfl (by (try simp only [List.map_toArray, List.map_cons, List.map_nil]); first | done | rfl | (simp only [List.length_drop, List.length_take]; rfl)) ?_; (with_reducible refine (runes_Encode.calls k _ _ y185 t188 _ ?side1 ?side2 A9.out).mono ?_); (case side1 => repeat (first | exact (Kd.R_reads' HO187.out).2.2 | (with_reducible refine Kd.C_alloc ?_ _) | (with_reducible refine Kd.C_drewN ?_ _) | (with_reducible refine Kd.C_drew ?_))); (case side2 => exact (Kd.R_reads' HO187.out).2.1); rintro e w16 ⟨v189, rfl, ho0, hb⟩; refine ⟨_, rfl, ?_⟩; have n0_ := Aside0.mk (Kd.R_below (by (with_reducible repeat (first | apply Kd.R_alloc | apply Kd.R_drewN | apply Kd.R_drew)); exact HO184.out) hb); have n1_ := Aside0.mk (Kd.R_below (by (with_reducible repeat (first | apply Kd.R_alloc | apply Kd.R_drewN | apply Kd.R_drew)); exact HO187.out) hb); have n2_ := Aside0.mk (Kd.R_lower ho0 (below_size (by repeat (first | (with_reducible first | exact HB.out | apply below_alloc | apply pw_below_drewN | apply below_drew1) | exact HB.out)))); have n3_ := Aside0.mk (below_step (by repeat (first | (with_reducible first | exact HB.out | apply below_alloc | apply pw_below_drewN | apply below_drew1) | exact HB.out)) hb); clear HO184; clear HO187; clear HB; have HO184 := n0_; have HO187 := n1_; have HO190 := n2_; have HB := n3_; clear n0_ n1_ n2_ n3_; (try clear hb); (try clear hb2); (try clear hk); (try clear hi); (try clear ho0); obtain ⟨Ao17, co17, eo17⟩ := Kd.R_slice HO190.out; subst eo17) | ((with_reducible refine gate_dst (N := 25) rfl ?_); (try (refine gate_guard (by rfl) ?_; dsimp only)); refine Kd.R_lit (Kd.int .i32) _ 21 ?hg (N := 25) ?hd (xs := ([a2] : List Int)) (inner := [.int .i32 a2]) (ok := fun _ => True) (okp := fun _ => True) ?hr ?hp (fun _ hk => hk) trivial (Below.refl _ _) (Nat.le_refl _) (by simp) ?_; (case hd => rfl); (case hg => rfl); (case hr => first | (go_simp; done) | (go_simp; rfl)); (case hp => exact (Reps.one (show Kd.M (Kd.int .i32) _ _ _ a2 [.int .i32 a2] from rfl) (Reps.none _ _))); intro v192 w18 ho19 hb hg_ hnew_; clear hg_ hnew_; (first | rw [← Ny191.out] at ho19 | (simp only [Int.reduceToNat] at ho19; rw [← Ny191.out] at ho19)); have n0_ := Aside0.mk (Kd.R_elder' (by (with_reducible repeat (first | apply Kd.R_alloc | apply Kd.R_drewN | apply Kd.R_drew)); exact HO184.out) (Kd.R_base ho19) hb); have n1_ := Aside0.mk (Kd.R_elder' (by (with_reducible repeat (first | apply Kd.R_alloc | apply Kd.R_drewN | apply Kd.R_drew)); exact HO187.out) (Kd.R_base ho19) hb); have n2_ := Aside0.mk (Kd.R_below (by (with_reducible repeat (first | apply Kd.R_alloc | apply Kd.R_drewN | apply Kd.R_drew)); exact HO190.out) hb); have n3_ := Aside0.mk (Kd.R_lower (Kd.R_new' (Kd.R_new' ho19 (Kd.R_lt (by (with_reducible repeat (first | apply Kd.R_alloc | apply Kd.R_drewN | apply Kd.R_drew)); exact HO184.out))) (Kd.R_lt (by (with_reducible repeat (first | apply Kd.R_alloc | apply Kd.R_drewN | apply Kd.R_drew)); exact HO187.out))) (below_size (by repeat (first | (with_reducible first | exact HB.out | apply below_alloc | apply pw_below_drewN | apply below_drew1) | exact HB.out)))); have n4_ := Aside0.mk (below_step (by repeat (first | (with_reducible first | exact HB.out | apply below_alloc | apply pw_below_drewN | apply below_drew1) | exact HB.out)) hb); clear HO184; clear HO187; clear HO190; clear HB; have HO184 := n0_; have HO187 := n1_; have HO190 := n2_; have HO193 := n3_; have HB := n4_; clear n0_ n1_ n2_ n3_ n4_; clear hb ho19; obtain ⟨Ao20, co20, eo20⟩ := Kd.R_slice HO193.out; subst eo20) | ((with_reducible refine gate_callee (f := 17) rfl ?_); refine goesL_ (some 26) rfl rfl Tryd.func17 (by kernel_rfl) rfl #[.slice Ao20 y191.length co20] rfl (by (try simp only [List.map_toArray, List.map_cons, List.map_nil]); first | done | rfl | (simp only [List.length_drop, List.length_take]; rfl)) ?_; (with_reducible refine (runes_Encode.calls k _ _ y191 t194 _ ?side1 ?side2 A10.out).mono ?_); (case side1 => repeat (first | exact (Kd.R_reads' HO193.out).2.2 | (with_reducible refine Kd.C_alloc ?_ _) | (with_reducible refine Kd.C_drewN ?_ _) | (with_reducible refine Kd.C_drew ?_))); (case side2 => exact (Kd.R_reads' HO193.out).2.1); rintro e w21 ⟨v195, rfl, ho0, hb⟩; refine ⟨_, rfl, ?_⟩; have n0_ := Aside0.mk (Kd.R_below (by (with_reducible repeat (first | apply Kd.R_alloc | apply Kd.R_drewN | apply Kd.R_drew)); exact HO184.out) hb); have n1_ := Aside0.mk (Kd.R_below (by (with_reducible repeat (first | apply Kd.R_alloc | apply Kd.R_drewN | apply Kd.R_drew)); exact HO187.out) hb); have n2_ := Aside0.mk (Kd.R_elder' (by (with_reducible repeat (first | apply Kd.R_alloc | apply Kd.R_drewN | apply Kd.R_drew)); exact HO190.out) (Kd.R_base ho0) hb); have n3_ := Aside0.mk (Kd.R_below (by (with_reducible repeat (first | apply Kd.R_alloc | apply Kd.R_drewN | apply Kd.R_drew)); exact HO193.out) hb); have n4_ := Aside0.mk (Kd.R_lower (Kd.R_new' ho0 (Kd.R_lt (by (with_reducible repeat (first | apply Kd.R_alloc | apply Kd.R_drewN | apply Kd.R_drew)); exact HO190.out))) (below_size (by repeat (first | (with_reducible first | exact HB.out | apply below_alloc | apply pw_below_drewN | apply below_drew1) | exact HB.out)))); have n5_ := Aside0.mk (below_step (by repeat (first | (with_reducible first | exact HB.out | apply below_alloc | apply pw_below_drewN | apply below_drew1) | exact HB.out)) hb); clear HO184; clear HO187; clear HO190; clear HO193; clear HB; have HO184 := n0_; have HO187 := n1_; have HO190 := n2_; have HO193 := n3_; have HO196 := n4_; have HB := n5_; clear n0_ n1_ n2_ n3_ n4_ n5_; (try clear hb); (try clear hb2); (try clear hk); (try clear hi); (try clear ho0); obtain ⟨Ao22, co22, eo22⟩ := Kd.R_slice HO196.out; subst eo22))
    (try simp only [Act.put, List.setIfInBounds_toArray, List.set_cons_zero, List.set_cons_succ])
    go_cut [68] (fun v68 wc => ∃ (kq : Nat) (x68_10 : Bool), v68 = .bool x68_10 ∧ Aside0 (flonglaw02_RunesLengths.j0 kq l0 a3 t182 x68_10 = some r) ∧ Aside0 (kq ≤ k) ∧ Aside0 (Kd.R (Kd.int .i32) 21 wc w.heap.size (fun _ => True) v183 t182) ∧ Aside0 (Below w.heap.size w wc))
    case first =>
      have H := HC11.out
      clear HC11
      by_cases c23 : (t182.length : Int) > (l0.length : Int)
      · rw [if_pos c23] at H
        have c23b0 : decide ((l0.length : Int) < (t182.length : Int)) = true := decide_eq_true c23
        have c23b1 : decide (l0.length < t182.length) = true := decide_eq_true (Int.ofNat_lt.mp c23)
        clear c23
        (first | rw [c23b0] | (simp only [i64_w, i32_w]; rw [c23b0]) | skip)
        have H' := Aside0.mk H
        clear H
        obtain ⟨Ao24, co24, eo24⟩ := Kd.R_slice HO184.out
        subst eo24
        go_wp2
        go_meet
        case rel => exact ⟨_, (true), (by first | rfl | (simp; done) | (simp [*]; done)), H', ⟨by first | omega | exact Nat.le_refl _⟩, ⟨by (with_reducible repeat (first | apply Kd.R_alloc | apply Kd.R_drewN | apply Kd.R_drew)); exact Kd.R_mono HO184.out (fun _ hk => trivial)⟩, ⟨by repeat (first | (with_reducible first | exact HB.out | apply below_alloc | apply pw_below_drewN | apply below_drew1) | exact HB.out)⟩⟩
      · rw [if_neg c23] at H
        have c23b0 : decide ((l0.length : Int) < (t182.length : Int)) = false := decide_eq_false c23
        have c23b1 : decide (l0.length < t182.length) = false := decide_eq_false (fun h => c23 (Int.ofNat_lt.mpr h))
        clear c23
        (first | rw [c23b0] | (simp only [i64_w, i32_w]; rw [c23b0]) | skip)
        by_cases c25 : (l0.length : Int) > 0
        · rw [if_pos c25] at H
          have c25b0 : decide (0 < (l0.length : Int)) = true := decide_eq_true c25
          have c25b1 : decide (0 < l0.length) = true := decide_eq_true (by omega)
          clear c25
          by_cases c26 : (t182.length : Int) = 0
          · rw [if_pos c26] at H
            have c26b0 : ((t182.length : Int) == 0) = true := beq_iff_eq.mpr c26
            have c26b1 : ((t182.length : Int) != 0) = false := bne_eq_false_iff_eq.mpr c26
            clear c26
            have H' := Aside0.mk H
            clear H
            obtain ⟨Ao27, co27, eo27⟩ := Kd.R_slice HO184.out
            subst eo27
            go_wp2
            go_meet
            case rel => exact ⟨_, (true), (by first | rfl | (simp; done) | (simp [*]; done)), H', ⟨by first | omega | exact Nat.le_refl _⟩, ⟨by (with_reducible repeat (first | apply Kd.R_alloc | apply Kd.R_drewN | apply Kd.R_drew)); exact Kd.R_mono HO184.out (fun _ hk => trivial)⟩, ⟨by repeat (first | (with_reducible first | exact HB.out | apply below_alloc | apply pw_below_drewN | apply below_drew1) | exact HB.out)⟩⟩
          · rw [if_neg c26] at H
            have c26b0 : ((t182.length : Int) == 0) = false := beq_eq_false_iff_ne.mpr c26
            have c26b1 : ((t182.length : Int) != 0) = true := bne_iff_ne.mpr c26
            have c26b2 : ¬ (t182 = []) := fun h_ => c26 (by rw [h_]; rfl)
            by_cases c28 : (t188.length : Int) < 1
            · rw [if_pos c28] at H
              have c28b0 : decide ((t188.length : Int) < 1) = true := decide_eq_true c28
              have c28b1 : decide (t188.length < 1) = true := decide_eq_true (by omega)
              clear c28
              have H' := Aside0.mk H
              clear H
              obtain ⟨Ao29, co29, eo29⟩ := Kd.R_slice HO184.out
              subst eo29
              go_wp2
              go_meet
              case rel => exact ⟨_, (true), (by first | rfl | (simp; done) | (simp [*]; done)), H', ⟨by first | omega | exact Nat.le_refl _⟩, ⟨by (with_reducible repeat (first | apply Kd.R_alloc | apply Kd.R_drewN | apply Kd.R_drew)); exact Kd.R_mono HO184.out (fun _ hk => trivial)⟩, ⟨by repeat (first | (with_reducible first | exact HB.out | apply below_alloc | apply pw_below_drewN | apply below_drew1) | exact HB.out)⟩⟩
            · rw [if_neg c28] at H
              have c28b0 : decide ((t188.length : Int) < 1) = false := decide_eq_false c28
              have c28b1 : decide (t188.length < 1) = false := decide_eq_false (by omega)
              clear c28
              by_cases c30 : (t188.length : Int) > 4
              · rw [if_pos c30] at H
                have c30b0 : decide (4 < (t188.length : Int)) = true := decide_eq_true c30
                have c30b1 : decide (4 < t188.length) = true := decide_eq_true (by omega)
                clear c30
                have H' := Aside0.mk H
                clear H
                obtain ⟨Ao31, co31, eo31⟩ := Kd.R_slice HO184.out
                subst eo31
                go_wp2
                go_meet
                case rel => exact ⟨_, (true), (by first | rfl | (simp; done) | (simp [*]; done)), H', ⟨by first | omega | exact Nat.le_refl _⟩, ⟨by (with_reducible repeat (first | apply Kd.R_alloc | apply Kd.R_drewN | apply Kd.R_drew)); exact Kd.R_mono HO184.out (fun _ hk => trivial)⟩, ⟨by repeat (first | (with_reducible first | exact HB.out | apply below_alloc | apply pw_below_drewN | apply below_drew1) | exact HB.out)⟩⟩
              · rw [if_neg c30] at H
                have c30b0 : decide (4 < (t188.length : Int)) = false := decide_eq_false c30
                have c30b1 : decide (4 < t188.length) = false := decide_eq_false (by omega)
                clear c30
                replace H := Option.bind_eq_some_iff.mp H
                obtain ⟨t197, A320, H⟩ := H
                replace H : (if t197 = true then ((runes_Valid.f a2).bind fun t198 => (if t198 = true then (if a1 < a2 then (flonglaw02_RunesLengths.j0 k l0 a3 t182 (decide ((t188.length : Int) > (t194.length : Int)))) else (flonglaw02_RunesLengths.j0 k l0 a3 t182 false)) else (flonglaw02_RunesLengths.j0 k l0 a3 t182 false))) else (flonglaw02_RunesLengths.j0 k l0 a3 t182 false)) = some r := H
                have A32 := Aside0.mk A320
                clear A320
                by_cases c33 : t197 = true
                · subst c33
                  have H1 : ((runes_Valid.f a2).bind fun t198 => (if t198 = true then (if a1 < a2 then (flonglaw02_RunesLengths.j0 k l0 a3 t182 (decide ((t188.length : Int) > (t194.length : Int)))) else (flonglaw02_RunesLengths.j0 k l0 a3 t182 false)) else (flonglaw02_RunesLengths.j0 k l0 a3 t182 false))) = some r := by rw [if_pos rfl] at H; exact H
                  clear H
                  have H := H1
                  clear H1
                  replace H := Option.bind_eq_some_iff.mp H
                  obtain ⟨t198, A340, H⟩ := H
                  replace H : (if t198 = true then (if a1 < a2 then (flonglaw02_RunesLengths.j0 k l0 a3 t182 (decide ((t188.length : Int) > (t194.length : Int)))) else (flonglaw02_RunesLengths.j0 k l0 a3 t182 false)) else (flonglaw02_RunesLengths.j0 k l0 a3 t182 false)) = some r := H
                  have A34 := Aside0.mk A340
                  clear A340
                  by_cases c35 : t198 = true
                  · subst c35
                    have H1 : (if a1 < a2 then (flonglaw02_RunesLengths.j0 k l0 a3 t182 (decide ((t188.length : Int) > (t194.length : Int)))) else (flonglaw02_RunesLengths.j0 k l0 a3 t182 false)) = some r := by rw [if_pos rfl] at H; exact H
                    clear H
                    have H := H1
                    clear H1
                    by_cases c36 : a1 < a2
                    · rw [if_pos c36] at H
                      have c36b0 : decide (a1 < a2) = true := decide_eq_true c36
                      clear c36
                      have H' := Aside0.mk H
                      clear H
                      obtain ⟨Ao37, co37, eo37⟩ := Kd.R_slice HO184.out
                      subst eo37
                      go_wp2_with (first | (go_at_call 11; (with_reducible refine (runes_Valid.calls a1 true _ A32.out).mono ?_); rintro e w' ⟨rfl, ⟨nd, rfl⟩⟩) | (go_at_call 11; (with_reducible refine (runes_Valid.calls a2 true _ A34.out).mono ?_); rintro e w' ⟨rfl, ⟨nd, rfl⟩⟩))
                      go_meet
                      case rel => exact ⟨_, (decide ((t188.length : Int) > (t194.length : Int))), (by first | rfl | (simp; done) | (simp [*]; done)), H', ⟨by first | omega | exact Nat.le_refl _⟩, ⟨by (with_reducible repeat (first | apply Kd.R_alloc | apply Kd.R_drewN | apply Kd.R_drew)); exact Kd.R_mono HO184.out (fun _ hk => trivial)⟩, ⟨by repeat (first | (with_reducible first | exact HB.out | apply below_alloc | apply pw_below_drewN | apply below_drew1) | exact HB.out)⟩⟩
                    · rw [if_neg c36] at H
                      have c36b0 : decide (a1 < a2) = false := decide_eq_false c36
                      clear c36
                      have H' := Aside0.mk H
                      clear H
                      obtain ⟨Ao38, co38, eo38⟩ := Kd.R_slice HO184.out
                      subst eo38
                      go_wp2_with (first | (go_at_call 11; (with_reducible refine (runes_Valid.calls a1 true _ A32.out).mono ?_); rintro e w' ⟨rfl, ⟨nd, rfl⟩⟩) | (go_at_call 11; (with_reducible refine (runes_Valid.calls a2 true _ A34.out).mono ?_); rintro e w' ⟨rfl, ⟨nd, rfl⟩⟩))
                      go_meet
                      case rel => exact ⟨_, (false), (by first | rfl | (simp; done) | (simp [*]; done)), H', ⟨by first | omega | exact Nat.le_refl _⟩, ⟨by (with_reducible repeat (first | apply Kd.R_alloc | apply Kd.R_drewN | apply Kd.R_drew)); exact Kd.R_mono HO184.out (fun _ hk => trivial)⟩, ⟨by repeat (first | (with_reducible first | exact HB.out | apply below_alloc | apply pw_below_drewN | apply below_drew1) | exact HB.out)⟩⟩
                  · replace c35 := Bool.eq_false_iff.mpr c35
                    subst c35
                    have H1 : (flonglaw02_RunesLengths.j0 k l0 a3 t182 false) = some r := by rw [if_neg (show ¬ (false = true) by decide)] at H; exact H
                    clear H
                    have H := H1
                    clear H1
                    have H' := Aside0.mk H
                    clear H
                    obtain ⟨Ao39, co39, eo39⟩ := Kd.R_slice HO184.out
                    subst eo39
                    go_wp2_with (first | (go_at_call 11; (with_reducible refine (runes_Valid.calls a1 true _ A32.out).mono ?_); rintro e w' ⟨rfl, ⟨nd, rfl⟩⟩) | (go_at_call 11; (with_reducible refine (runes_Valid.calls a2 false _ A34.out).mono ?_); rintro e w' ⟨rfl, ⟨nd, rfl⟩⟩))
                    go_meet
                    case rel => exact ⟨_, (false), (by first | rfl | (simp; done) | (simp [*]; done)), H', ⟨by first | omega | exact Nat.le_refl _⟩, ⟨by (with_reducible repeat (first | apply Kd.R_alloc | apply Kd.R_drewN | apply Kd.R_drew)); exact Kd.R_mono HO184.out (fun _ hk => trivial)⟩, ⟨by repeat (first | (with_reducible first | exact HB.out | apply below_alloc | apply pw_below_drewN | apply below_drew1) | exact HB.out)⟩⟩
                · replace c33 := Bool.eq_false_iff.mpr c33
                  subst c33
                  have H1 : (flonglaw02_RunesLengths.j0 k l0 a3 t182 false) = some r := by rw [if_neg (show ¬ (false = true) by decide)] at H; exact H
                  clear H
                  have H := H1
                  clear H1
                  have H' := Aside0.mk H
                  clear H
                  obtain ⟨Ao40, co40, eo40⟩ := Kd.R_slice HO184.out
                  subst eo40
                  go_wp2_with (first | (go_at_call 11; (with_reducible refine (runes_Valid.calls a1 false _ A32.out).mono ?_); rintro e w' ⟨rfl, ⟨nd, rfl⟩⟩))
                  go_meet
                  case rel => exact ⟨_, (false), (by first | rfl | (simp; done) | (simp [*]; done)), H', ⟨by first | omega | exact Nat.le_refl _⟩, ⟨by (with_reducible repeat (first | apply Kd.R_alloc | apply Kd.R_drewN | apply Kd.R_drew)); exact Kd.R_mono HO184.out (fun _ hk => trivial)⟩, ⟨by repeat (first | (with_reducible first | exact HB.out | apply below_alloc | apply pw_below_drewN | apply below_drew1) | exact HB.out)⟩⟩
        · rw [if_neg c25] at H
          have c25b0 : decide (0 < (l0.length : Int)) = false := decide_eq_false c25
          have c25b1 : decide (0 < l0.length) = false := decide_eq_false (by omega)
          clear c25
          by_cases c41 : (t188.length : Int) < 1
          · rw [if_pos c41] at H
            have c41b0 : decide ((t188.length : Int) < 1) = true := decide_eq_true c41
            have c41b1 : decide (t188.length < 1) = true := decide_eq_true (by omega)
            clear c41
            have H' := Aside0.mk H
            clear H
            obtain ⟨Ao42, co42, eo42⟩ := Kd.R_slice HO184.out
            subst eo42
            go_wp2
            go_meet
            case rel => exact ⟨_, (true), (by first | rfl | (simp; done) | (simp [*]; done)), H', ⟨by first | omega | exact Nat.le_refl _⟩, ⟨by (with_reducible repeat (first | apply Kd.R_alloc | apply Kd.R_drewN | apply Kd.R_drew)); exact Kd.R_mono HO184.out (fun _ hk => trivial)⟩, ⟨by repeat (first | (with_reducible first | exact HB.out | apply below_alloc | apply pw_below_drewN | apply below_drew1) | exact HB.out)⟩⟩
          · rw [if_neg c41] at H
            have c41b0 : decide ((t188.length : Int) < 1) = false := decide_eq_false c41
            have c41b1 : decide (t188.length < 1) = false := decide_eq_false (by omega)
            clear c41
            by_cases c43 : (t188.length : Int) > 4
            · rw [if_pos c43] at H
              have c43b0 : decide (4 < (t188.length : Int)) = true := decide_eq_true c43
              have c43b1 : decide (4 < t188.length) = true := decide_eq_true (by omega)
              clear c43
              have H' := Aside0.mk H
              clear H
              obtain ⟨Ao44, co44, eo44⟩ := Kd.R_slice HO184.out
              subst eo44
              go_wp2
              go_meet
              case rel => exact ⟨_, (true), (by first | rfl | (simp; done) | (simp [*]; done)), H', ⟨by first | omega | exact Nat.le_refl _⟩, ⟨by (with_reducible repeat (first | apply Kd.R_alloc | apply Kd.R_drewN | apply Kd.R_drew)); exact Kd.R_mono HO184.out (fun _ hk => trivial)⟩, ⟨by repeat (first | (with_reducible first | exact HB.out | apply below_alloc | apply pw_below_drewN | apply below_drew1) | exact HB.out)⟩⟩
            · rw [if_neg c43] at H
              have c43b0 : decide (4 < (t188.length : Int)) = false := decide_eq_false c43
              have c43b1 : decide (4 < t188.length) = false := decide_eq_false (by omega)
              clear c43
              replace H := Option.bind_eq_some_iff.mp H
              obtain ⟨t199, A450, H⟩ := H
              replace H : (if t199 = true then ((runes_Valid.f a2).bind fun t200 => (if t200 = true then (if a1 < a2 then (flonglaw02_RunesLengths.j0 k l0 a3 t182 (decide ((t188.length : Int) > (t194.length : Int)))) else (flonglaw02_RunesLengths.j0 k l0 a3 t182 false)) else (flonglaw02_RunesLengths.j0 k l0 a3 t182 false))) else (flonglaw02_RunesLengths.j0 k l0 a3 t182 false)) = some r := H
              have A45 := Aside0.mk A450
              clear A450
              by_cases c46 : t199 = true
              · subst c46
                have H1 : ((runes_Valid.f a2).bind fun t200 => (if t200 = true then (if a1 < a2 then (flonglaw02_RunesLengths.j0 k l0 a3 t182 (decide ((t188.length : Int) > (t194.length : Int)))) else (flonglaw02_RunesLengths.j0 k l0 a3 t182 false)) else (flonglaw02_RunesLengths.j0 k l0 a3 t182 false))) = some r := by rw [if_pos rfl] at H; exact H
                clear H
                have H := H1
                clear H1
                replace H := Option.bind_eq_some_iff.mp H
                obtain ⟨t200, A470, H⟩ := H
                replace H : (if t200 = true then (if a1 < a2 then (flonglaw02_RunesLengths.j0 k l0 a3 t182 (decide ((t188.length : Int) > (t194.length : Int)))) else (flonglaw02_RunesLengths.j0 k l0 a3 t182 false)) else (flonglaw02_RunesLengths.j0 k l0 a3 t182 false)) = some r := H
                have A47 := Aside0.mk A470
                clear A470
                by_cases c48 : t200 = true
                · subst c48
                  have H1 : (if a1 < a2 then (flonglaw02_RunesLengths.j0 k l0 a3 t182 (decide ((t188.length : Int) > (t194.length : Int)))) else (flonglaw02_RunesLengths.j0 k l0 a3 t182 false)) = some r := by rw [if_pos rfl] at H; exact H
                  clear H
                  have H := H1
                  clear H1
                  by_cases c49 : a1 < a2
                  · rw [if_pos c49] at H
                    have c49b0 : decide (a1 < a2) = true := decide_eq_true c49
                    clear c49
                    have H' := Aside0.mk H
                    clear H
                    obtain ⟨Ao50, co50, eo50⟩ := Kd.R_slice HO184.out
                    subst eo50
                    go_wp2_with (first | (go_at_call 11; (with_reducible refine (runes_Valid.calls a1 true _ A45.out).mono ?_); rintro e w' ⟨rfl, ⟨nd, rfl⟩⟩) | (go_at_call 11; (with_reducible refine (runes_Valid.calls a2 true _ A47.out).mono ?_); rintro e w' ⟨rfl, ⟨nd, rfl⟩⟩))
                    go_meet
                    case rel => exact ⟨_, (decide ((t188.length : Int) > (t194.length : Int))), (by first | rfl | (simp; done) | (simp [*]; done)), H', ⟨by first | omega | exact Nat.le_refl _⟩, ⟨by (with_reducible repeat (first | apply Kd.R_alloc | apply Kd.R_drewN | apply Kd.R_drew)); exact Kd.R_mono HO184.out (fun _ hk => trivial)⟩, ⟨by repeat (first | (with_reducible first | exact HB.out | apply below_alloc | apply pw_below_drewN | apply below_drew1) | exact HB.out)⟩⟩
                  · rw [if_neg c49] at H
                    have c49b0 : decide (a1 < a2) = false := decide_eq_false c49
                    clear c49
                    have H' := Aside0.mk H
                    clear H
                    obtain ⟨Ao51, co51, eo51⟩ := Kd.R_slice HO184.out
                    subst eo51
                    go_wp2_with (first | (go_at_call 11; (with_reducible refine (runes_Valid.calls a1 true _ A45.out).mono ?_); rintro e w' ⟨rfl, ⟨nd, rfl⟩⟩) | (go_at_call 11; (with_reducible refine (runes_Valid.calls a2 true _ A47.out).mono ?_); rintro e w' ⟨rfl, ⟨nd, rfl⟩⟩))
                    go_meet
                    case rel => exact ⟨_, (false), (by first | rfl | (simp; done) | (simp [*]; done)), H', ⟨by first | omega | exact Nat.le_refl _⟩, ⟨by (with_reducible repeat (first | apply Kd.R_alloc | apply Kd.R_drewN | apply Kd.R_drew)); exact Kd.R_mono HO184.out (fun _ hk => trivial)⟩, ⟨by repeat (first | (with_reducible first | exact HB.out | apply below_alloc | apply pw_below_drewN | apply below_drew1) | exact HB.out)⟩⟩
                · replace c48 := Bool.eq_false_iff.mpr c48
                  subst c48
                  have H1 : (flonglaw02_RunesLengths.j0 k l0 a3 t182 false) = some r := by rw [if_neg (show ¬ (false = true) by decide)] at H; exact H
                  clear H
                  have H := H1
                  clear H1
                  have H' := Aside0.mk H
                  clear H
                  obtain ⟨Ao52, co52, eo52⟩ := Kd.R_slice HO184.out
                  subst eo52
                  go_wp2_with (first | (go_at_call 11; (with_reducible refine (runes_Valid.calls a1 true _ A45.out).mono ?_); rintro e w' ⟨rfl, ⟨nd, rfl⟩⟩) | (go_at_call 11; (with_reducible refine (runes_Valid.calls a2 false _ A47.out).mono ?_); rintro e w' ⟨rfl, ⟨nd, rfl⟩⟩))
                  go_meet
                  case rel => exact ⟨_, (false), (by first | rfl | (simp; done) | (simp [*]; done)), H', ⟨by first | omega | exact Nat.le_refl _⟩, ⟨by (with_reducible repeat (first | apply Kd.R_alloc | apply Kd.R_drewN | apply Kd.R_drew)); exact Kd.R_mono HO184.out (fun _ hk => trivial)⟩, ⟨by repeat (first | (with_reducible first | exact HB.out | apply below_alloc | apply pw_below_drewN | apply below_drew1) | exact HB.out)⟩⟩
              · replace c46 := Bool.eq_false_iff.mpr c46
                subst c46
                have H1 : (flonglaw02_RunesLengths.j0 k l0 a3 t182 false) = some r := by rw [if_neg (show ¬ (false = true) by decide)] at H; exact H
                clear H
                have H := H1
                clear H1
                have H' := Aside0.mk H
                clear H
                obtain ⟨Ao53, co53, eo53⟩ := Kd.R_slice HO184.out
                subst eo53
                go_wp2_with (first | (go_at_call 11; (with_reducible refine (runes_Valid.calls a1 false _ A45.out).mono ?_); rintro e w' ⟨rfl, ⟨nd, rfl⟩⟩))
                go_meet
                case rel => exact ⟨_, (false), (by first | rfl | (simp; done) | (simp [*]; done)), H', ⟨by first | omega | exact Nat.le_refl _⟩, ⟨by (with_reducible repeat (first | apply Kd.R_alloc | apply Kd.R_drewN | apply Kd.R_drew)); exact Kd.R_mono HO184.out (fun _ hk => trivial)⟩, ⟨by repeat (first | (with_reducible first | exact HB.out | apply below_alloc | apply pw_below_drewN | apply below_drew1) | exact HB.out)⟩⟩
    case rest =>
      clear HC11
      try clear c1
      try clear c2
      try clear p2
      try clear c3
      try clear c4
      try clear c5
      try clear c5b0
      try clear c5b1
      try clear c14
      try clear c16
      try clear c17
      try clear c23
      try clear c23b0
      try clear c23b1
      try clear c25
      try clear c25b0
      try clear c25b1
      try clear c26
      try clear c26b0
      try clear c26b1
      try clear c26b2
      try clear c28
      try clear c28b0
      try clear c28b1
      try clear c30
      try clear c30b0
      try clear c30b1
      try clear c33
      try clear c35
      try clear c36
      try clear c36b0
      try clear c41
      try clear c41b0
      try clear c41b1
      try clear c43
      try clear c43b0
      try clear c43b1
      try clear c46
      try clear c48
      try clear c49
      try clear c49b0
      obtain ⟨kq, x68_10, rfl, HA, HJ10, HO_9, HB⟩ := hcut
      cases kq with
      | zero => exact absurd HA.out (by simp [flonglaw02_RunesLengths.j0])
      | succ kj10 =>
        have H := HA.out
        clear HA
        simp only [flonglaw02_RunesLengths.j0] at H
        by_cases c54 : x68_10 = true
        · subst c54
          have H1 : (some false) = some r := by rw [if_pos rfl] at H; exact H
          clear H
          have H := H1
          clear H1
          obtain rfl := Option.some.inj H
          go_wp2
          go_ret
          exact ⟨by first | rfl | (simp [errW_none, errW_some] <;> rfl) | (simp [*, errW_none, errW_some] <;> rfl), by repeat (first | (with_reducible first | exact HB.out | apply below_alloc | apply pw_below_drewN | apply below_drew1) | exact HB.out)⟩
        · replace c54 := Bool.eq_false_iff.mpr c54
          subst c54
          have H1 : (if a3 > 127 then ((flonglaw02_known.f kj10).bind fun t201 => (some t201)) else ((some (([a3] : List Int) : List Int)).bind fun y202 => (if y202.length + l0.length < 140737488355328 then ((runes_Decode.f kj10 (y202 ++ l0)).bind fun t208 => (if (t208.length : Int) = (wrap64 ((t182.length : Int) + 1)) then (if 0 < (t208.length : Int) then (if (rd t208 0) = (wrap32 (a3)) then (if 1 ≤ (t208.length : Int) then ((flongref02_Same.f kj10 (t208.drop 1) t182).bind fun t216 => (if t216 = true then ((flonglaw02_known.f kj10).bind fun t217 => (some t217)) else (some false))) else (none)) else (some false)) else (none)) else (some false))) else (none)))) = some r := by rw [if_neg (show ¬ (false = true) by decide)] at H; exact H
          clear H
          have H := H1
          clear H1
          by_cases c55 : a3 > 127
          · rw [if_pos c55] at H
            have c55b0 : decide (127 < a3) = true := decide_eq_true c55
            clear c55
            replace H := Option.bind_eq_some_iff.mp H
            obtain ⟨t201, A560, H⟩ := H
            replace H : (some t201) = some r := H
            have A56 := Aside0.mk A560
            clear A560
            obtain rfl := Option.some.inj H
            go_wp2_with (first | ((with_reducible refine gate_callee (f := 14) rfl ?_); refine goesL_ (some 71) rfl rfl Tryd.func14 (by kernel_rfl) rfl #[] rfl (by (try simp only [List.map_toArray, List.map_cons, List.map_nil]); first | done | rfl | (simp only [List.length_drop, List.length_take]; rfl)) ?_; (with_reducible refine (flonglaw02_known.calls kj10  t201 _ ?side1 A56.out).mono ?_); (case side1 => exact GOK.of_below HG.out (by repeat (first | (with_reducible first | exact HB.out | apply below_alloc | apply pw_below_drewN | apply below_drew1) | exact HB.out))); rintro e w57 ⟨rfl, hb⟩; refine ⟨_, rfl, ?_⟩; have n0_ := Aside0.mk (Kd.R_below (by (with_reducible repeat (first | apply Kd.R_alloc | apply Kd.R_drewN | apply Kd.R_drew)); exact HO_9.out) hb); have n1_ := Aside0.mk (below_step (by repeat (first | (with_reducible first | exact HB.out | apply below_alloc | apply pw_below_drewN | apply below_drew1) | exact HB.out)) hb); clear HO_9; clear HB; have HO_9 := n0_; have HB := n1_; clear n0_ n1_; (try clear hb); (try clear hb2); (try clear hk); (try clear hi)))
            go_ret
            exact ⟨by first | rfl | (simp [errW_none, errW_some] <;> rfl) | (simp [*, errW_none, errW_some] <;> rfl), by repeat (first | (with_reducible first | exact HB.out | apply below_alloc | apply pw_below_drewN | apply below_drew1) | exact HB.out)⟩
          · rw [if_neg c55] at H
            have c55b0 : decide (127 < a3) = false := decide_eq_false c55
            clear c55
            obtain ⟨y202, hy202⟩ : ∃ y_ : List Int, y_ = (([a3] : List Int)) := ⟨_, rfl⟩
            replace H : (if y202.length + l0.length < 140737488355328 then ((runes_Decode.f kj10 (y202 ++ l0)).bind fun t208 => (if (t208.length : Int) = (wrap64 ((t182.length : Int) + 1)) then (if 0 < (t208.length : Int) then (if (rd t208 0) = (wrap32 (a3)) then (if 1 ≤ (t208.length : Int) then ((flongref02_Same.f kj10 (t208.drop 1) t182).bind fun t216 => (if t216 = true then ((flonglaw02_known.f kj10).bind fun t217 => (some t217)) else (some false))) else (none)) else (some false)) else (none)) else (some false))) else (none)) = some r := by first | (rw [hy202]; with_reducible exact H) | (have H2_ := (Option.bind_some _ _).symm.trans H; rw [hy202]; with_reducible exact H2_) | (have H2_ := (Option.bind_some _ _).symm.trans H; with_reducible exact H2_) | with_reducible exact H | (rw [hy202]; exact H) | exact H
            have Ny202 := Aside0.mk hy202
            clear hy202
            by_cases c58 : y202.length + l0.length < 140737488355328
            · rw [if_pos c58] at H
              have LMc58 := Aside0.mk c58
              clear c58
              obtain ⟨y205, hy205⟩ : ∃ y_ : List Int, y_ = (y202 ++ l0) := ⟨_, rfl⟩
              replace H : ((runes_Decode.f kj10 y205).bind fun t208 => (if (t208.length : Int) = (wrap64 ((t182.length : Int) + 1)) then (if 0 < (t208.length : Int) then (if (rd t208 0) = (wrap32 (a3)) then (if 1 ≤ (t208.length : Int) then ((flongref02_Same.f kj10 (t208.drop 1) t182).bind fun t216 => (if t216 = true then ((flonglaw02_known.f kj10).bind fun t217 => (some t217)) else (some false))) else (none)) else (some false)) else (none)) else (some false))) = some r := by first | (rw [hy205]; with_reducible exact H) | (have H2_ := (Option.bind_some _ _).symm.trans H; rw [hy205]; with_reducible exact H2_) | (have H2_ := (Option.bind_some _ _).symm.trans H; with_reducible exact H2_) | with_reducible exact H | (rw [hy205]; exact H) | exact H
              have Ny205 := Aside0.mk hy205
              clear hy205
              replace H := Option.bind_eq_some_iff.mp H
              obtain ⟨t208, A590, H⟩ := H
              replace H : (if (t208.length : Int) = (wrap64 ((t182.length : Int) + 1)) then (if 0 < (t208.length : Int) then (if (rd t208 0) = (wrap32 (a3)) then (if 1 ≤ (t208.length : Int) then ((flongref02_Same.f kj10 (t208.drop 1) t182).bind fun t216 => (if t216 = true then ((flonglaw02_known.f kj10).bind fun t217 => (some t217)) else (some false))) else (none)) else (some false)) else (none)) else (some false)) = some r := H
              have A59 := Aside0.mk A590
              clear A590
              by_cases c60 : (t208.length : Int) = (wrap64 ((t182.length : Int) + 1))
              · rw [if_pos c60] at H
                have c60b0 : ((t208.length : Int) == (wrap64 ((t182.length : Int) + 1))) = true := beq_iff_eq.mpr c60
                have c60b1 : ((t208.length : Int) != (wrap64 ((t182.length : Int) + 1))) = false := bne_eq_false_iff_eq.mpr c60
                clear c60
                by_cases c61 : 0 < (t208.length : Int)
                · rw [if_pos c61] at H
                  have c61b0 : decide (0 < (t208.length : Int)) = true := decide_eq_true c61
                  have c61b1 : decide (0 < t208.length) = true := decide_eq_true (by omega)
                  clear c61
                  by_cases c62 : (rd t208 0) = (wrap32 (a3))
                  · rw [if_pos c62] at H
                    have c62b0 : ((rd t208 0) == (wrap32 (a3))) = true := beq_iff_eq.mpr c62
                    have c62b1 : ((rd t208 0) != (wrap32 (a3))) = false := bne_eq_false_iff_eq.mpr c62
                    clear c62
                    by_cases c63 : 1 ≤ (t208.length : Int)
                    · rw [if_pos c63] at H
                      have c63b0 := eq_true c63
                      have c63b1 : decide (1 ≤ (t208.length : Int)) = true := decide_eq_true c63
                      clear c63
                      obtain ⟨y212, hy212⟩ : ∃ y_ : List Int, y_ = (t208.drop 1) := ⟨_, rfl⟩
                      replace H : ((flongref02_Same.f kj10 y212 t182).bind fun t216 => (if t216 = true then ((flonglaw02_known.f kj10).bind fun t217 => (some t217)) else (some false))) = some r := by first | (rw [hy212]; with_reducible exact H) | (have H2_ := (Option.bind_some _ _).symm.trans H; rw [hy212]; with_reducible exact H2_) | (have H2_ := (Option.bind_some _ _).symm.trans H; with_reducible exact H2_) | with_reducible exact H | (rw [hy212]; exact H) | exact H
                      have Ny212 := Aside0.mk hy212
                      clear hy212
                      replace H := Option.bind_eq_some_iff.mp H
                      obtain ⟨t216, A640, H⟩ := H
                      replace H : (if t216 = true then ((flonglaw02_known.f kj10).bind fun t217 => (some t217)) else (some false)) = some r := H
                      have A64 := Aside0.mk A640
                      clear A640
                      by_cases c65 : t216 = true
                      · subst c65
                        have H1 : ((flonglaw02_known.f kj10).bind fun t217 => (some t217)) = some r := by rw [if_pos rfl] at H; exact H
                        clear H
                        have H := H1
                        clear H1
                        replace H := Option.bind_eq_some_iff.mp H
                        obtain ⟨t217, A660, H⟩ := H
                        replace H : (some t217) = some r := H
                        have A66 := Aside0.mk A660
                        clear A660
                        obtain rfl := Option.some.inj H
                        go_wp2_with (first | ((with_reducible refine gate_dst (N := 73) rfl ?_); (try (refine gate_guard (by rfl) ?_; dsimp only)); refine Kd.R_lit (Kd.int .u8) _ 5 ?hg (N := 73) ?hd (xs := ([a3] : List Int)) (inner := [.int .u8 a3]) (ok := fun _ => True) (okp := fun _ => True) ?hr ?hp (fun _ hk => hk) trivial (Below.refl _ _) (Nat.le_refl _) (by simp) ?_; (case hd => rfl); (case hg => rfl); (case hr => first | (go_simp; done) | (go_simp; rfl)); (case hp => exact (Reps.one (show Kd.M (Kd.int .u8) _ _ _ a3 [.int .u8 a3] from rfl) (Reps.none _ _))); intro v203 w67 ho68 hb hg_ hnew_; clear hg_ hnew_; (first | rw [← Ny202.out] at ho68 | (simp only [Int.reduceToNat] at ho68; rw [← Ny202.out] at ho68)); have n0_ := Aside0.mk (Kd.R_below (by (with_reducible repeat (first | apply Kd.R_alloc | apply Kd.R_drewN | apply Kd.R_drew)); exact HO_9.out) hb); have n1_ := Aside0.mk (Kd.R_lower ho68 (below_size (by repeat (first | (with_reducible first | exact HB.out | apply below_alloc | apply pw_below_drewN | apply below_drew1) | exact HB.out)))); have n2_ := Aside0.mk (below_step (by repeat (first | (with_reducible first | exact HB.out | apply below_alloc | apply pw_below_drewN | apply below_drew1) | exact HB.out)) hb); clear HO_9; clear HB; have HO_9 := n0_; have HO204 := n1_; have HB := n2_; clear n0_ n1_ n2_; clear hb ho68) | ((with_reducible refine gate_builtin (b := .append) (xs := #[.tmp 74, .tmp 75]) rfl ?_); (try (refine gate_guard (by rfl) ?_; dsimp only)); at_builtin; refine Kd.R_append_rows (Kd.int .u8) (w0 := w) w.heap.size rfl (.tmp 74) (.tmp 75) 29 5 (.int .u8 0) 1 rfl Tryd.underlying29 info5 rfl (by decide) (by omega) v203 y202 l0 _ _ _ (fun _ => True) (fun _ => False) rfl rfl ?aO ?aR (fun _ _ h => h) (fun _ h => h.elim) ?aF ?aB ?aS ?aL ?_; (case aR => repeat (first | exact (Kd.C_below HR0.out HB.out) | (with_reducible refine Kd.C_alloc ?_ _) | (with_reducible refine Kd.C_drewN ?_ _) | (with_reducible refine Kd.C_drew ?_))); (case aB => exact (by repeat (first | (with_reducible first | exact HB.out | apply below_alloc | apply pw_below_drewN | apply below_drew1) | exact HB.out))); (case aF => exact (fun _ _ => trivial)); (case aO => exact (by (with_reducible repeat (first | apply Kd.R_alloc | apply Kd.R_drewN | apply Kd.R_drew)); exact HO204.out)); (case aS => exact (below_size (by repeat (first | (with_reducible first | exact HB.out | apply below_alloc | apply pw_below_drewN | apply below_drew1) | exact HB.out)))); (case aL => have := LMc58.out; omega); intro v206 w69 ho hb hg hat; rw [← Ny205.out] at ho; have n0_ := Aside0.mk (Kd.R_over' (by (with_reducible repeat (first | apply Kd.R_alloc | apply Kd.R_drewN | apply Kd.R_drew)); exact HO_9.out) (Kd.R_typed (by (with_reducible repeat (first | apply Kd.R_alloc | apply Kd.R_drewN | apply Kd.R_drew)); exact HO204.out)) (by decide) hg); have n1_ := Aside0.mk (hb); have n2_ := Aside0.mk (ho); clear HO_9; clear HB; clear HO204; have HO_9 := n0_; have HB := n1_; have HO207 := n2_; clear n0_ n1_ n2_; clear ho hb hg hat; obtain ⟨Ao70, co70, eo70⟩ := Kd.R_slice HO207.out; subst eo70) | ((with_reducible refine gate_callee (f := 16) rfl ?_); refine goesL_ (some 78) rfl rfl Tryd.func16 (by kernel_rfl) rfl #[.slice Ao70 y205.length co70] rfl (by (try simp only [List.map_toArray, List.map_cons, List.map_nil]); first | done | rfl | (simp only [List.length_drop, List.length_take]; rfl)) ?_; (with_reducible refine (runes_Decode.calls kj10 (fun k_ => some k_ = (.slice Ao70 y205.length co70 : Value).ownBlock) _ _ y205 t208 _ ?side1 A59.out).mono ?_); (case side1 => exact Kd.R_V (Kd.R_tight rfl (Kd.R_apart' (HO207.out) (Kd.R_typed HO_9.out) (by decide)))); rintro e w71 ⟨v209, rfl, ho0, hb⟩; refine ⟨_, rfl, ?_⟩; have n0_ := Aside0.mk (Kd.R_elder' (by (with_reducible repeat (first | apply Kd.R_alloc | apply Kd.R_drewN | apply Kd.R_drew)); exact HO_9.out) (Kd.R_base ho0) hb); have n1_ := Aside0.mk (Kd.R_below (by (with_reducible repeat (first | apply Kd.R_alloc | apply Kd.R_drewN | apply Kd.R_drew)); exact HO207.out) hb); have n2_ := Aside0.mk (Kd.R_lower (Kd.R_new' (Kd.R_mono (ok' := fun k_ => True) ho0 (fun _ hk_ => trivial)) (Kd.R_lt (by (with_reducible repeat (first | apply Kd.R_alloc | apply Kd.R_drewN | apply Kd.R_drew)); exact HO_9.out))) (below_size (by repeat (first | (with_reducible first | exact HB.out | apply below_alloc | apply pw_below_drewN | apply below_drew1) | exact HB.out)))); have n3_ := Aside0.mk (below_step (by repeat (first | (with_reducible first | exact HB.out | apply below_alloc | apply pw_below_drewN | apply below_drew1) | exact HB.out)) hb); clear HO_9; clear HO207; clear HB; have HO_9 := n0_; have HO207 := n1_; have HO210 := n2_; have HB := n3_; clear n0_ n1_ n2_ n3_; (try clear hb); (try clear hb2); (try clear hk); (try clear hi); (try clear ho0); obtain ⟨Ao72, co72, eo72⟩ := Kd.R_slice HO210.out; subst eo72; obtain ⟨Ao73, co73, eo73⟩ := Kd.R_slice HO_9.out; subst eo73; have p211 : 0 ≤ (0 : Int) := (by omega); have q211 : 0 < (t208.length : Int) := of_decide_eq_true (by first | (with_reducible assumption) | assumption); obtain ⟨ad211, e211, hx211_0⟩ := Kd.at_int (Kd.R_reads' HO210.out).2.2 0 p211 q211; cases e211; have qi211 : (0 < t208.length) = True := eq_true (by omega); (try rw [show ((0 : Int)).toNat = 0 from rfl] at hx211_0); (try rw [Addr.add_zero'] at hx211_0); replace p211 := eq_true p211; replace q211 := eq_true q211; have q74 : (1 : Int) ≤ ((t208.length : Int) : Int) := of_decide_eq_true (by first | (with_reducible assumption) | assumption); obtain ⟨i074, hi074, _, hsz74, _⟩ := info_parts info21; have hroom74 : t208.length ≤ co72 := (Kd.R_reads' HO210.out).2.1; have hC74 : Kd.C (Kd.int .i32) _ (some ad211) t208.length t208 := (Kd.R_reads' HO210.out).2.2; have hcut74 := cut_from (P := Tryd.prog) 26 21 .i64 Tryd.underlying26 hi074 1 hsz74 (some ad211) t208.length co72 1 (by omega) q74; have hr74 := Kd.C_drop (m := (1 : Int).toNat) (c := co72) hC74 (by omega) hroom74; obtain ⟨A74, hA74⟩ : ∃ A1, A1 = (if co72 = (1 : Int).toNat then (some ad211) else ((some ad211) : Option Addr).map (·.add ((1 : Int).toNat * 1))) := ⟨_, rfl⟩; obtain ⟨c74, hc74⟩ : ∃ c1, c1 = co72 - (1 : Int).toNat := ⟨_, rfl⟩; have hy74 : y212.length = t208.length - (1 : Int).toNat := (by rw [Ny212.out, List.length_drop] <;> omega); rw [show (t208).drop (1 : Int).toNat = y212 from Ny212.out.symm] at hr74; replace hr74 : Kd.C (Kd.int .i32) _ A74 y212.length y212 := (by rw [hA74]; exact hr74); rw [← hy74, ← hA74, ← hc74] at hcut74; have HR215 := Aside0.mk hr74; have HC215 := Aside0.mk (show y212.length ≤ c74 from by rw [hy74, hc74]; exact Nat.sub_le_sub_right hroom74 _); clear hr74 hC74 hroom74 hi074 hsz74 hc74; have KY74 := Aside0.mk hy74; have KA74 := Aside0.mk hA74; clear hy74 hA74; have KL74 := Aside0.mk (show 1 ≤ t208.length from by omega); replace q74 := eq_true q74) | (go_at_call 18; (with_reducible refine (flongref02_Same.calls kj10 _ _ y212 _ _ t182 true _ ?side1 ?side2 ?side3 ?side4 A64.out).mono ?_); (case side1 => repeat (first | exact (by repeat (first | (with_reducible exact HR215.out) | (with_reducible refine Kd.C_alloc ?_ _) | (with_reducible refine Kd.C_drewN ?_ _) | (with_reducible refine Kd.C_drew ?_) | exact HR215.out)) | (with_reducible refine Kd.C_alloc ?_ _) | (with_reducible refine Kd.C_drewN ?_ _) | (with_reducible refine Kd.C_drew ?_))); (case side2 => exact HC215.out); (case side3 => repeat (first | exact (Kd.R_reads' HO_9.out).2.2 | (with_reducible refine Kd.C_alloc ?_ _) | (with_reducible refine Kd.C_drewN ?_ _) | (with_reducible refine Kd.C_drew ?_))); (case side4 => exact (Kd.R_reads' HO_9.out).2.1); rintro e w' ⟨rfl, ⟨nd, rfl⟩⟩) | (go_at_call 14; (with_reducible refine (flonglaw02_known.calls kj10  t217 _ ?side1 A66.out).mono ?_); (case side1 => exact GOK.of_below HG.out (by repeat (first | (with_reducible first | exact HB.out | apply below_alloc | apply pw_below_drewN | apply below_drew1) | exact HB.out))); rintro e w75 ⟨rfl, hb⟩; have n0_ := Aside0.mk (Kd.R_below (by (with_reducible repeat (first | apply Kd.R_alloc | apply Kd.R_drewN | apply Kd.R_drew)); exact HO_9.out) hb); have n1_ := Aside0.mk (Kd.R_below (by (with_reducible repeat (first | apply Kd.R_alloc | apply Kd.R_drewN | apply Kd.R_drew)); exact HO207.out) hb); have n2_ := Aside0.mk (Kd.R_below (by (with_reducible repeat (first | apply Kd.R_alloc | apply Kd.R_drewN | apply Kd.R_drew)); exact HO210.out) hb); have n3_ := Aside0.mk (Kd.C_below (by repeat (first | (with_reducible exact HR215.out) | (with_reducible refine Kd.C_alloc ?_ _) | (with_reducible refine Kd.C_drewN ?_ _) | (with_reducible refine Kd.C_drew ?_) | exact HR215.out)) hb); have n4_ := Aside0.mk (below_step (by repeat (first | (with_reducible first | exact HB.out | apply below_alloc | apply pw_below_drewN | apply below_drew1) | exact HB.out)) hb); clear HO_9; clear HO207; clear HO210; clear HR215; clear HB; have HO_9 := n0_; have HO207 := n1_; have HO210 := n2_; have HR215 := n3_; have HB := n4_; clear n0_ n1_ n2_ n3_ n4_; (try clear hb); (try clear hb2); (try clear hk); (try clear hi)))
                        go_ret
                        exact ⟨by first | rfl | (simp [errW_none, errW_some] <;> rfl) | (simp [*, errW_none, errW_some] <;> rfl), by repeat (first | (with_reducible first | exact HB.out | apply below_alloc | apply pw_below_drewN | apply below_drew1) | exact HB.out)⟩
                      · replace c65 := Bool.eq_false_iff.mpr c65
                        subst c65
                        have H1 : (some false) = some r := by rw [if_neg (show ¬ (false = true) by decide)] at H; exact H
                        clear H
                        have H := H1
                        clear H1
                        obtain rfl := Option.some.inj H
                        go_wp2_with (first | ((with_reducible refine gate_dst (N := 73) rfl ?_); (try (refine gate_guard (by rfl) ?_; dsimp only)); refine Kd.R_lit (Kd.int .u8) _ 5 ?hg (N := 73) ?hd (xs := ([a3] : List Int)) (inner := [.int .u8 a3]) (ok := fun _ => True) (okp := fun _ => True) ?hr ?hp (fun _ hk => hk) trivial (Below.refl _ _) (Nat.le_refl _) (by simp) ?_; (case hd => rfl); (case hg => rfl); (case hr => first | (go_simp; done) | (go_simp; rfl)); (case hp => exact (Reps.one (show Kd.M (Kd.int .u8) _ _ _ a3 [.int .u8 a3] from rfl) (Reps.none _ _))); intro v203 w76 ho77 hb hg_ hnew_; clear hg_ hnew_; (first | rw [← Ny202.out] at ho77 | (simp only [Int.reduceToNat] at ho77; rw [← Ny202.out] at ho77)); have n0_ := Aside0.mk (Kd.R_below (by (with_reducible repeat (first | apply Kd.R_alloc | apply Kd.R_drewN | apply Kd.R_drew)); exact HO_9.out) hb); have n1_ := Aside0.mk (Kd.R_lower ho77 (below_size (by repeat (first | (with_reducible first | exact HB.out | apply below_alloc | apply pw_below_drewN | apply below_drew1) | exact HB.out)))); have n2_ := Aside0.mk (below_step (by repeat (first | (with_reducible first | exact HB.out | apply below_alloc | apply pw_below_drewN | apply below_drew1) | exact HB.out)) hb); clear HO_9; clear HB; have HO_9 := n0_; have HO204 := n1_; have HB := n2_; clear n0_ n1_ n2_; clear hb ho77) | ((with_reducible refine gate_builtin (b := .append) (xs := #[.tmp 74, .tmp 75]) rfl ?_); (try (refine gate_guard (by rfl) ?_; dsimp only)); at_builtin; refine Kd.R_append_rows (Kd.int .u8) (w0 := w) w.heap.size rfl (.tmp 74) (.tmp 75) 29 5 (.int .u8 0) 1 rfl Tryd.underlying29 info5 rfl (by decide) (by omega) v203 y202 l0 _ _ _ (fun _ => True) (fun _ => False) rfl rfl ?aO ?aR (fun _ _ h => h) (fun _ h => h.elim) ?aF ?aB ?aS ?aL ?_; (case aR => repeat (first | exact (Kd.C_below HR0.out HB.out) | (with_reducible refine Kd.C_alloc ?_ _) | (with_reducible refine Kd.C_drewN ?_ _) | (with_reducible refine Kd.C_drew ?_))); (case aB => exact (by repeat (first | (with_reducible first | exact HB.out | apply below_alloc | apply pw_below_drewN | apply below_drew1) | exact HB.out))); (case aF => exact (fun _ _ => trivial)); (case aO => exact (by (with_reducible repeat (first | apply Kd.R_alloc | apply Kd.R_drewN | apply Kd.R_drew)); exact HO204.out)); (case aS => exact (below_size (by repeat (first | (with_reducible first | exact HB.out | apply below_alloc | apply pw_below_drewN | apply below_drew1) | exact HB.out)))); (case aL => have := LMc58.out; omega); intro v206 w78 ho hb hg hat; rw [← Ny205.out] at ho; have n0_ := Aside0.mk (Kd.R_over' (by (with_reducible repeat (first | apply Kd.R_alloc | apply Kd.R_drewN | apply Kd.R_drew)); exact HO_9.out) (Kd.R_typed (by (with_reducible repeat (first | apply Kd.R_alloc | apply Kd.R_drewN | apply Kd.R_drew)); exact HO204.out)) (by decide) hg); have n1_ := Aside0.mk (hb); have n2_ := Aside0.mk (ho); clear HO_9; clear HB; clear HO204; have HO_9 := n0_; have HB := n1_; have HO207 := n2_; clear n0_ n1_ n2_; clear ho hb hg hat; obtain ⟨Ao79, co79, eo79⟩ := Kd.R_slice HO207.out; subst eo79) | ((with_reducible refine gate_callee (f := 16) rfl ?_); refine goesL_ (some 78) rfl rfl Tryd.func16 (by kernel_rfl) rfl #[.slice Ao79 y205.length co79] rfl (by (try simp only [List.map_toArray, List.map_cons, List.map_nil]); first | done | rfl | (simp only [List.length_drop, List.length_take]; rfl)) ?_; (with_reducible refine (runes_Decode.calls kj10 (fun k_ => some k_ = (.slice Ao79 y205.length co79 : Value).ownBlock) _ _ y205 t208 _ ?side1 A59.out).mono ?_); (case side1 => exact Kd.R_V (Kd.R_tight rfl (Kd.R_apart' (HO207.out) (Kd.R_typed HO_9.out) (by decide)))); rintro e w80 ⟨v209, rfl, ho0, hb⟩; refine ⟨_, rfl, ?_⟩; have n0_ := Aside0.mk (Kd.R_elder' (by (with_reducible repeat (first | apply Kd.R_alloc | apply Kd.R_drewN | apply Kd.R_drew)); exact HO_9.out) (Kd.R_base ho0) hb); have n1_ := Aside0.mk (Kd.R_below (by (with_reducible repeat (first | apply Kd.R_alloc | apply Kd.R_drewN | apply Kd.R_drew)); exact HO207.out) hb); have n2_ := Aside0.mk (Kd.R_lower (Kd.R_new' (Kd.R_mono (ok' := fun k_ => True) ho0 (fun _ hk_ => trivial)) (Kd.R_lt (by (with_reducible repeat (first | apply Kd.R_alloc | apply Kd.R_drewN | apply Kd.R_drew)); exact HO_9.out))) (below_size (by repeat (first | (with_reducible first | exact HB.out | apply below_alloc | apply pw_below_drewN | apply below_drew1) | exact HB.out)))); have n3_ := Aside0.mk (below_step (by repeat (first | (with_reducible first | exact HB.out | apply below_alloc | apply pw_below_drewN | apply below_drew1) | exact HB.out)) hb); clear HO_9; clear HO207; clear HB; have HO_9 := n0_; have HO207 := n1_; have HO210 := n2_; have HB := n3_; clear n0_ n1_ n2_ n3_; (try clear hb); (try clear hb2); (try clear hk); (try clear hi); (try clear ho0); obtain ⟨Ao81, co81, eo81⟩ := Kd.R_slice HO210.out; subst eo81; obtain ⟨Ao82, co82, eo82⟩ := Kd.R_slice HO_9.out; subst eo82; have p211 : 0 ≤ (0 : Int) := (by omega); have q211 : 0 < (t208.length : Int) := of_decide_eq_true (by first | (with_reducible assumption) | assumption); obtain ⟨ad211, e211, hx211_0⟩ := Kd.at_int (Kd.R_reads' HO210.out).2.2 0 p211 q211; cases e211; have qi211 : (0 < t208.length) = True := eq_true (by omega); (try rw [show ((0 : Int)).toNat = 0 from rfl] at hx211_0); (try rw [Addr.add_zero'] at hx211_0); replace p211 := eq_true p211; replace q211 := eq_true q211; have q83 : (1 : Int) ≤ ((t208.length : Int) : Int) := of_decide_eq_true (by first | (with_reducible assumption) | assumption); obtain ⟨i083, hi083, _, hsz83, _⟩ := info_parts info21; have hroom83 : t208.length ≤ co81 := (Kd.R_reads' HO210.out).2.1; have hC83 : Kd.C (Kd.int .i32) _ (some ad211) t208.length t208 := (Kd.R_reads' HO210.out).2.2; have hcut83 := cut_from (P := Tryd.prog) 26 21 .i64 Tryd.underlying26 hi083 1 hsz83 (some ad211) t208.length co81 1 (by omega) q83; have hr83 := Kd.C_drop (m := (1 : Int).toNat) (c := co81) hC83 (by omega) hroom83; obtain ⟨A83, hA83⟩ : ∃ A1, A1 = (if co81 = (1 : Int).toNat then (some ad211) else ((some ad211) : Option Addr).map (·.add ((1 : Int).toNat * 1))) := ⟨_, rfl⟩; obtain ⟨c83, hc83⟩ : ∃ c1, c1 = co81 - (1 : Int).toNat := ⟨_, rfl⟩; have hy83 : y212.length = t208.length - (1 : Int).toNat := (by rw [Ny212.out, List.length_drop] <;> omega); rw [show (t208).drop (1 : Int).toNat = y212 from Ny212.out.symm] at hr83; replace hr83 : Kd.C (Kd.int .i32) _ A83 y212.length y212 := (by rw [hA83]; exact hr83); rw [← hy83, ← hA83, ← hc83] at hcut83; have HR215 := Aside0.mk hr83; have HC215 := Aside0.mk (show y212.length ≤ c83 from by rw [hy83, hc83]; exact Nat.sub_le_sub_right hroom83 _); clear hr83 hC83 hroom83 hi083 hsz83 hc83; have KY83 := Aside0.mk hy83; have KA83 := Aside0.mk hA83; clear hy83 hA83; have KL83 := Aside0.mk (show 1 ≤ t208.length from by omega); replace q83 := eq_true q83) | (go_at_call 18; (with_reducible refine (flongref02_Same.calls kj10 _ _ y212 _ _ t182 false _ ?side1 ?side2 ?side3 ?side4 A64.out).mono ?_); (case side1 => repeat (first | exact (by repeat (first | (with_reducible exact HR215.out) | (with_reducible refine Kd.C_alloc ?_ _) | (with_reducible refine Kd.C_drewN ?_ _) | (with_reducible refine Kd.C_drew ?_) | exact HR215.out)) | (with_reducible refine Kd.C_alloc ?_ _) | (with_reducible refine Kd.C_drewN ?_ _) | (with_reducible refine Kd.C_drew ?_))); (case side2 => exact HC215.out); (case side3 => repeat (first | exact (Kd.R_reads' HO_9.out).2.2 | (with_reducible refine Kd.C_alloc ?_ _) | (with_reducible refine Kd.C_drewN ?_ _) | (with_reducible refine Kd.C_drew ?_))); (case side4 => exact (Kd.R_reads' HO_9.out).2.1); rintro e w' ⟨rfl, ⟨nd, rfl⟩⟩))
                        go_ret
                        exact ⟨by first | rfl | (simp [errW_none, errW_some] <;> rfl) | (simp [*, errW_none, errW_some] <;> rfl), by repeat (first | (with_reducible first | exact HB.out | apply below_alloc | apply pw_below_drewN | apply below_drew1) | exact HB.out)⟩
                    · rw [if_neg c63] at H
                      exact absurd H (by simp)
                  · rw [if_neg c62] at H
                    have c62b0 : ((rd t208 0) == (wrap32 (a3))) = false := beq_eq_false_iff_ne.mpr c62
                    have c62b1 : ((rd t208 0) != (wrap32 (a3))) = true := bne_iff_ne.mpr c62
                    obtain rfl := Option.some.inj H
                    go_wp2_with (first | ((with_reducible refine gate_dst (N := 73) rfl ?_); (try (refine gate_guard (by rfl) ?_; dsimp only)); refine Kd.R_lit (Kd.int .u8) _ 5 ?hg (N := 73) ?hd (xs := ([a3] : List Int)) (inner := [.int .u8 a3]) (ok := fun _ => True) (okp := fun _ => True) ?hr ?hp (fun _ hk => hk) trivial (Below.refl _ _) (Nat.le_refl _) (by simp) ?_; (case hd => rfl); (case hg => rfl); (case hr => first | (go_simp; done) | (go_simp; rfl)); (case hp => exact (Reps.one (show Kd.M (Kd.int .u8) _ _ _ a3 [.int .u8 a3] from rfl) (Reps.none _ _))); intro v203 w84 ho85 hb hg_ hnew_; clear hg_ hnew_; (first | rw [← Ny202.out] at ho85 | (simp only [Int.reduceToNat] at ho85; rw [← Ny202.out] at ho85)); have n0_ := Aside0.mk (Kd.R_below (by (with_reducible repeat (first | apply Kd.R_alloc | apply Kd.R_drewN | apply Kd.R_drew)); exact HO_9.out) hb); have n1_ := Aside0.mk (Kd.R_lower ho85 (below_size (by repeat (first | (with_reducible first | exact HB.out | apply below_alloc | apply pw_below_drewN | apply below_drew1) | exact HB.out)))); have n2_ := Aside0.mk (below_step (by repeat (first | (with_reducible first | exact HB.out | apply below_alloc | apply pw_below_drewN | apply below_drew1) | exact HB.out)) hb); clear HO_9; clear HB; have HO_9 := n0_; have HO204 := n1_; have HB := n2_; clear n0_ n1_ n2_; clear hb ho85) | ((with_reducible refine gate_builtin (b := .append) (xs := #[.tmp 74, .tmp 75]) rfl ?_); (try (refine gate_guard (by rfl) ?_; dsimp only)); at_builtin; refine Kd.R_append_rows (Kd.int .u8) (w0 := w) w.heap.size rfl (.tmp 74) (.tmp 75) 29 5 (.int .u8 0) 1 rfl Tryd.underlying29 info5 rfl (by decide) (by omega) v203 y202 l0 _ _ _ (fun _ => True) (fun _ => False) rfl rfl ?aO ?aR (fun _ _ h => h) (fun _ h => h.elim) ?aF ?aB ?aS ?aL ?_; (case aR => repeat (first | exact (Kd.C_below HR0.out HB.out) | (with_reducible refine Kd.C_alloc ?_ _) | (with_reducible refine Kd.C_drewN ?_ _) | (with_reducible refine Kd.C_drew ?_))); (case aB => exact (by repeat (first | (with_reducible first | exact HB.out | apply below_alloc | apply pw_below_drewN | apply below_drew1) | exact HB.out))); (case aF => exact (fun _ _ => trivial)); (case aO => exact (by (with_reducible repeat (first | apply Kd.R_alloc | apply Kd.R_drewN | apply Kd.R_drew)); exact HO204.out)); (case aS => exact (below_size (by repeat (first | (with_reducible first | exact HB.out | apply below_alloc | apply pw_below_drewN | apply below_drew1) | exact HB.out)))); (case aL => have := LMc58.out; omega); intro v206 w86 ho hb hg hat; rw [← Ny205.out] at ho; have n0_ := Aside0.mk (Kd.R_over' (by (with_reducible repeat (first | apply Kd.R_alloc | apply Kd.R_drewN | apply Kd.R_drew)); exact HO_9.out) (Kd.R_typed (by (with_reducible repeat (first | apply Kd.R_alloc | apply Kd.R_drewN | apply Kd.R_drew)); exact HO204.out)) (by decide) hg); have n1_ := Aside0.mk (hb); have n2_ := Aside0.mk (ho); clear HO_9; clear HB; clear HO204; have HO_9 := n0_; have HB := n1_; have HO207 := n2_; clear n0_ n1_ n2_; clear ho hb hg hat; obtain ⟨Ao87, co87, eo87⟩ := Kd.R_slice HO207.out; subst eo87) | ((with_reducible refine gate_callee (f := 16) rfl ?_); refine goesL_ (some 78) rfl rfl Tryd.func16 (by kernel_rfl) rfl #[.slice Ao87 y205.length co87] rfl (by (try simp only [List.map_toArray, List.map_cons, List.map_nil]); first | done | rfl | (simp only [List.length_drop, List.length_take]; rfl)) ?_; (with_reducible refine (runes_Decode.calls kj10 (fun k_ => some k_ = (.slice Ao87 y205.length co87 : Value).ownBlock) _ _ y205 t208 _ ?side1 A59.out).mono ?_); (case side1 => exact Kd.R_V (Kd.R_tight rfl (Kd.R_apart' (HO207.out) (Kd.R_typed HO_9.out) (by decide)))); rintro e w88 ⟨v209, rfl, ho0, hb⟩; refine ⟨_, rfl, ?_⟩; have n0_ := Aside0.mk (Kd.R_elder' (by (with_reducible repeat (first | apply Kd.R_alloc | apply Kd.R_drewN | apply Kd.R_drew)); exact HO_9.out) (Kd.R_base ho0) hb); have n1_ := Aside0.mk (Kd.R_below (by (with_reducible repeat (first | apply Kd.R_alloc | apply Kd.R_drewN | apply Kd.R_drew)); exact HO207.out) hb); have n2_ := Aside0.mk (Kd.R_lower (Kd.R_new' (Kd.R_mono (ok' := fun k_ => True) ho0 (fun _ hk_ => trivial)) (Kd.R_lt (by (with_reducible repeat (first | apply Kd.R_alloc | apply Kd.R_drewN | apply Kd.R_drew)); exact HO_9.out))) (below_size (by repeat (first | (with_reducible first | exact HB.out | apply below_alloc | apply pw_below_drewN | apply below_drew1) | exact HB.out)))); have n3_ := Aside0.mk (below_step (by repeat (first | (with_reducible first | exact HB.out | apply below_alloc | apply pw_below_drewN | apply below_drew1) | exact HB.out)) hb); clear HO_9; clear HO207; clear HB; have HO_9 := n0_; have HO207 := n1_; have HO210 := n2_; have HB := n3_; clear n0_ n1_ n2_ n3_; (try clear hb); (try clear hb2); (try clear hk); (try clear hi); (try clear ho0); obtain ⟨Ao89, co89, eo89⟩ := Kd.R_slice HO210.out; subst eo89; obtain ⟨Ao90, co90, eo90⟩ := Kd.R_slice HO_9.out; subst eo90; have p211 : 0 ≤ (0 : Int) := (by omega); have q211 : 0 < (t208.length : Int) := of_decide_eq_true (by first | (with_reducible assumption) | assumption); obtain ⟨ad211, e211, hx211_0⟩ := Kd.at_int (Kd.R_reads' HO210.out).2.2 0 p211 q211; cases e211; have qi211 : (0 < t208.length) = True := eq_true (by omega); (try rw [show ((0 : Int)).toNat = 0 from rfl] at hx211_0); (try rw [Addr.add_zero'] at hx211_0); replace p211 := eq_true p211; replace q211 := eq_true q211))
                    go_ret
                    exact ⟨by first | rfl | (simp [errW_none, errW_some] <;> rfl) | (simp [*, errW_none, errW_some] <;> rfl), by repeat (first | (with_reducible first | exact HB.out | apply below_alloc | apply pw_below_drewN | apply below_drew1) | exact HB.out)⟩
                · rw [if_neg c61] at H
                  exact absurd H (by simp)
              · rw [if_neg c60] at H
                have c60b0 : ((t208.length : Int) == (wrap64 ((t182.length : Int) + 1))) = false := beq_eq_false_iff_ne.mpr c60
                have c60b1 : ((t208.length : Int) != (wrap64 ((t182.length : Int) + 1))) = true := bne_iff_ne.mpr c60
                obtain rfl := Option.some.inj H
                go_wp2_with (first | ((with_reducible refine gate_dst (N := 73) rfl ?_); (try (refine gate_guard (by rfl) ?_; dsimp only)); refine Kd.R_lit (Kd.int .u8) _ 5 ?hg (N := 73) ?hd (xs := ([a3] : List Int)) (inner := [.int .u8 a3]) (ok := fun _ => True) (okp := fun _ => True) ?hr ?hp (fun _ hk => hk) trivial (Below.refl _ _) (Nat.le_refl _) (by simp) ?_; (case hd => rfl); (case hg => rfl); (case hr => first | (go_simp; done) | (go_simp; rfl)); (case hp => exact (Reps.one (show Kd.M (Kd.int .u8) _ _ _ a3 [.int .u8 a3] from rfl) (Reps.none _ _))); intro v203 w91 ho92 hb hg_ hnew_; clear hg_ hnew_; (first | rw [← Ny202.out] at ho92 | (simp only [Int.reduceToNat] at ho92; rw [← Ny202.out] at ho92)); have n0_ := Aside0.mk (Kd.R_below (by (with_reducible repeat (first | apply Kd.R_alloc | apply Kd.R_drewN | apply Kd.R_drew)); exact HO_9.out) hb); have n1_ := Aside0.mk (Kd.R_lower ho92 (below_size (by repeat (first | (with_reducible first | exact HB.out | apply below_alloc | apply pw_below_drewN | apply below_drew1) | exact HB.out)))); have n2_ := Aside0.mk (below_step (by repeat (first | (with_reducible first | exact HB.out | apply below_alloc | apply pw_below_drewN | apply below_drew1) | exact HB.out)) hb); clear HO_9; clear HB; have HO_9 := n0_; have HO204 := n1_; have HB := n2_; clear n0_ n1_ n2_; clear hb ho92) | ((with_reducible refine gate_builtin (b := .append) (xs := #[.tmp 74, .tmp 75]) rfl ?_); (try (refine gate_guard (by rfl) ?_; dsimp only)); at_builtin; refine Kd.R_append_rows (Kd.int .u8) (w0 := w) w.heap.size rfl (.tmp 74) (.tmp 75) 29 5 (.int .u8 0) 1 rfl Tryd.underlying29 info5 rfl (by decide) (by omega) v203 y202 l0 _ _ _ (fun _ => True) (fun _ => False) rfl rfl ?aO ?aR (fun _ _ h => h) (fun _ h => h.elim) ?aF ?aB ?aS ?aL ?_; (case aR => repeat (first | exact (Kd.C_below HR0.out HB.out) | (with_reducible refine Kd.C_alloc ?_ _) | (with_reducible refine Kd.C_drewN ?_ _) | (with_reducible refine Kd.C_drew ?_))); (case aB => exact (by repeat (first | (with_reducible first | exact HB.out | apply below_alloc | apply pw_below_drewN | apply below_drew1) | exact HB.out))); (case aF => exact (fun _ _ => trivial)); (case aO => exact (by (with_reducible repeat (first | apply Kd.R_alloc | apply Kd.R_drewN | apply Kd.R_drew)); exact HO204.out)); (case aS => exact (below_size (by repeat (first | (with_reducible first | exact HB.out | apply below_alloc | apply pw_below_drewN | apply below_drew1) | exact HB.out)))); (case aL => have := LMc58.out; omega); intro v206 w93 ho hb hg hat; rw [← Ny205.out] at ho; have n0_ := Aside0.mk (Kd.R_over' (by (with_reducible repeat (first | apply Kd.R_alloc | apply Kd.R_drewN | apply Kd.R_drew)); exact HO_9.out) (Kd.R_typed (by (with_reducible repeat (first | apply Kd.R_alloc | apply Kd.R_drewN | apply Kd.R_drew)); exact HO204.out)) (by decide) hg); have n1_ := Aside0.mk (hb); have n2_ := Aside0.mk (ho); clear HO_9; clear HB; clear HO204; have HO_9 := n0_; have HB := n1_; have HO207 := n2_; clear n0_ n1_ n2_; clear ho hb hg hat; obtain ⟨Ao94, co94, eo94⟩ := Kd.R_slice HO207.out; subst eo94) | ((with_reducible refine gate_callee (f := 16) rfl ?_); refine goesL_ (some 78) rfl rfl Tryd.func16 (by kernel_rfl) rfl #[.slice Ao94 y205.length co94] rfl (by (try simp only [List.map_toArray, List.map_cons, List.map_nil]); first | done | rfl | (simp only [List.length_drop, List.length_take]; rfl)) ?_; (with_reducible refine (runes_Decode.calls kj10 (fun k_ => some k_ = (.slice Ao94 y205.length co94 : Value).ownBlock) _ _ y205 t208 _ ?side1 A59.out).mono ?_); (case side1 => exact Kd.R_V (Kd.R_tight rfl (Kd.R_apart' (HO207.out) (Kd.R_typed HO_9.out) (by decide)))); rintro e w95 ⟨v209, rfl, ho0, hb⟩; refine ⟨_, rfl, ?_⟩; have n0_ := Aside0.mk (Kd.R_elder' (by (with_reducible repeat (first | apply Kd.R_alloc | apply Kd.R_drewN | apply Kd.R_drew)); exact HO_9.out) (Kd.R_base ho0) hb); have n1_ := Aside0.mk (Kd.R_below (by (with_reducible repeat (first | apply Kd.R_alloc | apply Kd.R_drewN | apply Kd.R_drew)); exact HO207.out) hb); have n2_ := Aside0.mk (Kd.R_lower (Kd.R_new' (Kd.R_mono (ok' := fun k_ => True) ho0 (fun _ hk_ => trivial)) (Kd.R_lt (by (with_reducible repeat (first | apply Kd.R_alloc | apply Kd.R_drewN | apply Kd.R_drew)); exact HO_9.out))) (below_size (by repeat (first | (with_reducible first | exact HB.out | apply below_alloc | apply pw_below_drewN | apply below_drew1) | exact HB.out)))); have n3_ := Aside0.mk (below_step (by repeat (first | (with_reducible first | exact HB.out | apply below_alloc | apply pw_below_drewN | apply below_drew1) | exact HB.out)) hb); clear HO_9; clear HO207; clear HB; have HO_9 := n0_; have HO207 := n1_; have HO210 := n2_; have HB := n3_; clear n0_ n1_ n2_ n3_; (try clear hb); (try clear hb2); (try clear hk); (try clear hi); (try clear ho0); obtain ⟨Ao96, co96, eo96⟩ := Kd.R_slice HO210.out; subst eo96; obtain ⟨Ao97, co97, eo97⟩ := Kd.R_slice HO_9.out; subst eo97))
                go_ret
                exact ⟨by first | rfl | (simp [errW_none, errW_some] <;> rfl) | (simp [*, errW_none, errW_some] <;> rfl), by repeat (first | (with_reducible first | exact HB.out | apply below_alloc | apply pw_below_drewN | apply below_drew1) | exact HB.out)⟩
            · rw [if_neg c58] at H
              exact absurd H (by simp)

end Go.Proofs.YtaoiogpgncjolaaDoor.X
