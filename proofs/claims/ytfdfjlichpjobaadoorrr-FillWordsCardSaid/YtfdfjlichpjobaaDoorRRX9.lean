-- Written by this session's xprint.py (a variant of the kit's printer). Not trusted: Lean checks it.
import Derived.Test.YtfdfjlichpjobaaDoorRRX0
import Derived.Test.YtfdfjlichpjobaaDoorRRX2
import Derived.Test.YtfdfjlichpjobaaDoorRRX4
import Derived.Test.YtfdfjlichpjobaaDoorRRX7
import Derived.Test.YtfdfjlichpjobaaDoorRRX8
import Derived.Test.YtfdfjlichpjobaaDoorRRHandA
namespace Go.Proofs.YtfdfjlichpjobaaDoorRR.X
open Go.Proofs.YtfdfjlichpjobaaDoorRR.Hand
open Go.RowKit Go.Proofs.YtfdfjlichpjobaaDoorRRW.PrintWords Go.Proofs.YtfdfjlichpjobaaDoorRRW.PrintLast Go.Proofs.YtfdfjlichpjobaaDoorRRW.PrintMore
attribute [local go_sem] max2_int min2_int max_two min_two max_three min_three max_four min_four   -- for this text's walks alone
set_option linter.unusedVariables false
set_option linter.unusedSimpArgs false

/-! ### flonglaw12_FillWords: function 3 -/
def flonglaw12_FillWords.l0 : Nat → List (List (S39)) → List (List (S39)) → Int → Option (Bool)
  | 0, _, _, _ => none
  | k + 1, x7, x8, x9 => if x9 < (x7.length : Int) then (if 0 ≤ x9 then ((flongref03_Width.f k (rd_L3 x7 x9)).bind fun t280 => (if t280 < 1 then (some false) else ((flongref03_Clean.f k (rd_L3 x7 x9)).bind fun t282 => ((flongref03_Same.f k t282 (rd_L3 x7 x9)).bind fun t286 => (if t286 = true then (flonglaw12_FillWords.l0 k x7 x8 (wrap64 (x9 + 1))) else (some false)))))) else (none)) else ((flongref03_SameRows.f k x7 x8).bind fun t277 => (if t277 = true then ((flonglaw12_known.f k).bind fun t278 => (some t278)) else (some false)))
def flonglaw12_FillWords.f (k : Nat) (l0 : List (S39)) (l1 : List (S39)) (a2 : Int) : Option (Bool) := if (wrap64 ((l0.length : Int) + (l1.length : Int))) > 300 then ((flonglaw12_known.f k).bind fun t252 => (some t252)) else ((flongref03_Blank.f k (wrap64 (1 + (wrap64 (Int.tmod a2 4))))).bind fun t253 => ((flongref03_Join.f t253 l1).bind fun t256 => ((flongref03_Join.f l0 t256).bind fun t259 => ((fill_Words.f k t259).bind fun t262 => ((fill_Words.f k l0).bind fun t265 => (if ([] : List (List (S39))).length + t265.length < 5864062014805 then ((some (([] : List (List (S39))) ++ t265 : List (List (S39)))).bind fun y268 => ((fill_Words.f k l1).bind fun t271 => (if y268.length + t271.length < 5864062014805 then (flonglaw12_FillWords.l0 k t262 (y268 ++ t271) 0) else (none)))) else (none)))))))
theorem flonglaw12_FillWords.mono_l : ∀ k, (∀ y0 y1 y2, LeO (flonglaw12_FillWords.l0 k y0 y1 y2) (flonglaw12_FillWords.l0 (k + 1) y0 y1 y2))
  | 0 => fun _ _ _ r h => by simp [flonglaw12_FillWords.l0] at h
  | k + 1 => by
    have ih0 := flonglaw12_FillWords.mono_l k
    · intro y0 y1 y2
      unfold flonglaw12_FillWords.l0
      repeat' first
      | (with_reducible exact ih0 _ _ _)
      | (with_reducible exact fill_Words.mono _ _)
      | (with_reducible exact flonglaw12_known.mono _)
      | (with_reducible exact flongref03_Blank.mono _ _)
      | (with_reducible exact flongref03_Clean.mono _ _)
      | (with_reducible exact flongref03_Same.mono _ _ _)
      | (with_reducible exact flongref03_SameRows.mono _ _ _)
      | (with_reducible exact flongref03_Width.mono _ _)
      | (with_reducible exact LeO.refl _)
      | (with_reducible exact LeO.none _)
      | (with_reducible refine LeO.ite ?_ ?_)
      | (with_reducible refine LeO.bind ?_ (fun _ => ?_))
      | exact ih0 _ _ _
      | exact fill_Words.mono _ _
      | exact flonglaw12_known.mono _
      | exact flongref03_Blank.mono _ _
      | exact flongref03_Clean.mono _ _
      | exact flongref03_Same.mono _ _ _
      | exact flongref03_SameRows.mono _ _ _
      | exact flongref03_Width.mono _ _
      | exact LeO.none _
      | refine LeO.ite ?_ ?_
      | refine LeO.bind ?_ (fun _ => ?_)
theorem flonglaw12_FillWords.mono : ∀ a0 a1 a2 k, LeO (flonglaw12_FillWords.f k a0 a1 a2) (flonglaw12_FillWords.f (k + 1) a0 a1 a2) := by
  intro a0 a1 a2 k
  have ih0 := flonglaw12_FillWords.mono_l k
  unfold flonglaw12_FillWords.f
  repeat' first
      | (with_reducible exact ih0 _ _ _)
      | (with_reducible exact fill_Words.mono _ _)
      | (with_reducible exact flonglaw12_known.mono _)
      | (with_reducible exact flongref03_Blank.mono _ _)
      | (with_reducible exact flongref03_Clean.mono _ _)
      | (with_reducible exact flongref03_Same.mono _ _ _)
      | (with_reducible exact flongref03_SameRows.mono _ _ _)
      | (with_reducible exact flongref03_Width.mono _ _)
      | (with_reducible exact LeO.refl _)
      | (with_reducible exact LeO.none _)
      | (with_reducible refine LeO.ite ?_ ?_)
      | (with_reducible refine LeO.bind ?_ (fun _ => ?_))
      | exact ih0 _ _ _
      | exact fill_Words.mono _ _
      | exact flonglaw12_known.mono _
      | exact flongref03_Blank.mono _ _
      | exact flongref03_Clean.mono _ _
      | exact flongref03_Same.mono _ _ _
      | exact flongref03_SameRows.mono _ _ _
      | exact flongref03_Width.mono _ _
      | exact LeO.none _
      | refine LeO.ite ?_ ?_
      | refine LeO.bind ?_ (fun _ => ?_)
def flonglaw12_FillWords.T10 : Bool × List (List Nat × List Nat) := (true, [([], []), ([], []), ([0, 1], [0, 1]), ([2], [2]), ([3], [3]), ([4], [4]), ([5, 4], [5]), ([6], [6]), ([6], [6]), ([7, 8, 6], [6, 7, 8]), ([9, 6], [6, 9]), ([10, 6, 6], [6, 10]), ([6], [6]), ([6], [6]), ([12, 13, 6], [6, 12, 13]), ([14, 6], [6, 14]), ([11, 15, 11, 6], [6, 11, 15]), ([16, 6], [6, 16]), ([6, 17], [6, 17])])
def flonglaw12_FillWords.B10 : List Nat := [0, 0, 3, 7, 15, 31, 63, 127, 127, 511, 1023, 2047, 127, 127, 12415, 28799, 65535, 131071, 262143]
theorem flonglaw12_FillWords.tab10 : rtab .any (opsOf Tryd.f3 10) = flonglaw12_FillWords.T10 := by kernel_rfl
theorem flonglaw12_FillWords.bits10 : waitsOk flonglaw12_FillWords.T10.2 flonglaw12_FillWords.B10 = true := by kernel_rfl
set_option maxHeartbeats 8000000 in
set_option maxRecDepth 100000 in
theorem flonglaw12_FillWords.calls (k : Nat) (A0 : Option Addr) (c0 : Nat) (l0 : List (S39)) (A1 : Option Addr) (c1 : Nat) (l1 : List (S39)) (a2 : Int) (r : Bool) (w : World) (hr0 : Kd.C k39 w A0 l0.length l0) (hc0 : l0.length ≤ c0) (hr1 : Kd.C k39 w A1 l1.length l1) (hc1 : l1.length ≤ c1) (hG : GOK [0,2] w) (h : flonglaw12_FillWords.f k l0 l1 a2 = some r) :
    Calls Tryd.prog 3 #[.slice A0 l0.length c0, .slice A1 l1.length c1, .int .u8 a2] w fun e w' => e = .returned (.bool r) ∧ Below w.heap.size w w' := by
  have HG := Aside0.mk hG
  clear hG
  have HR0 := Aside0.mk hr0
  have HC0 := Aside0.mk hc0
  clear hr0 hc0
  have HR1 := Aside0.mk hr1
  have HC1 := Aside0.mk hc1
  clear hr1 hc1
  have HB := Aside0.mk (Below.refl w.heap.size w)
  have H : (if (wrap64 ((l0.length : Int) + (l1.length : Int))) > 300 then ((flonglaw12_known.f k).bind fun t252 => (some t252)) else ((flongref03_Blank.f k (wrap64 (1 + (wrap64 (Int.tmod a2 4))))).bind fun t253 => ((flongref03_Join.f t253 l1).bind fun t256 => ((flongref03_Join.f l0 t256).bind fun t259 => ((fill_Words.f k t259).bind fun t262 => ((fill_Words.f k l0).bind fun t265 => (if ([] : List (List (S39))).length + t265.length < 5864062014805 then ((some (([] : List (List (S39))) ++ t265 : List (List (S39)))).bind fun y268 => ((fill_Words.f k l1).bind fun t271 => (if y268.length + t271.length < 5864062014805 then (flonglaw12_FillWords.l0 k t262 (y268 ++ t271) 0) else (none)))) else (none)))))))) = some r := h
  clear h
  by_cases c4 : (wrap64 ((l0.length : Int) + (l1.length : Int))) > 300
  · rw [if_pos c4] at H
    have c4b0 : decide (300 < (wrap64 ((l0.length : Int) + (l1.length : Int)))) = true := decide_eq_true c4
    clear c4
    replace H := Option.bind_eq_some_iff.mp H
    obtain ⟨t252, A50, H⟩ := H
    replace H : (some t252) = some r := H
    have A5 := Aside0.mk A50
    clear A50
    obtain rfl := Option.some.inj H
    go_enter Tryd.func3, Tryd.ntmps3
    go_wp2_with (first | ((with_reducible refine gate_callee (f := 8) rfl ?_); refine goesL_ (some 16) rfl rfl Tryd.func8 (by kernel_rfl) rfl #[] rfl (by (try simp only [List.map_toArray, List.map_cons, List.map_nil]); first | done | rfl | (simp only [List.length_drop, List.length_take]; rfl)) ?_; (with_reducible refine (flonglaw12_known.calls k  t252 _ ?side1 A5.out).mono ?_); (case side1 => exact GOK.of_below (GOK.sub HG.out rfl) (by repeat (first | (with_reducible first | exact HB.out | apply below_alloc | apply pw_below_drewN | apply below_drew1) | exact HB.out))); rintro e w6 ⟨rfl, hb⟩; refine ⟨_, rfl, ?_⟩; have n0_ := Aside0.mk (below_step (by repeat (first | (with_reducible first | exact HB.out | apply below_alloc | apply pw_below_drewN | apply below_drew1) | exact HB.out)) hb); clear HB; have HB := n0_; clear n0_; (try clear hb); (try clear hb2); (try clear hk); (try clear hi)))
    go_ret
    exact ⟨by first | rfl | (simp [errW_none, errW_some] <;> rfl) | (simp [*, errW_none, errW_some] <;> rfl), by repeat (first | (with_reducible first | exact HB.out | apply below_alloc | apply pw_below_drewN | apply below_drew1) | exact HB.out)⟩
  · rw [if_neg c4] at H
    have c4b0 : decide (300 < (wrap64 ((l0.length : Int) + (l1.length : Int)))) = false := decide_eq_false c4
    clear c4
    replace H := Option.bind_eq_some_iff.mp H
    obtain ⟨t253, A70, H⟩ := H
    replace H : ((flongref03_Join.f t253 l1).bind fun t256 => ((flongref03_Join.f l0 t256).bind fun t259 => ((fill_Words.f k t259).bind fun t262 => ((fill_Words.f k l0).bind fun t265 => (if ([] : List (List (S39))).length + t265.length < 5864062014805 then ((some (([] : List (List (S39))) ++ t265 : List (List (S39)))).bind fun y268 => ((fill_Words.f k l1).bind fun t271 => (if y268.length + t271.length < 5864062014805 then (flonglaw12_FillWords.l0 k t262 (y268 ++ t271) 0) else (none)))) else (none)))))) = some r := H
    have A7 := Aside0.mk A70
    clear A70
    replace H := Option.bind_eq_some_iff.mp H
    obtain ⟨t256, A80, H⟩ := H
    replace H : ((flongref03_Join.f l0 t256).bind fun t259 => ((fill_Words.f k t259).bind fun t262 => ((fill_Words.f k l0).bind fun t265 => (if ([] : List (List (S39))).length + t265.length < 5864062014805 then ((some (([] : List (List (S39))) ++ t265 : List (List (S39)))).bind fun y268 => ((fill_Words.f k l1).bind fun t271 => (if y268.length + t271.length < 5864062014805 then (flonglaw12_FillWords.l0 k t262 (y268 ++ t271) 0) else (none)))) else (none))))) = some r := H
    have A8 := Aside0.mk A80
    clear A80
    replace H := Option.bind_eq_some_iff.mp H
    obtain ⟨t259, A90, H⟩ := H
    replace H : ((fill_Words.f k t259).bind fun t262 => ((fill_Words.f k l0).bind fun t265 => (if ([] : List (List (S39))).length + t265.length < 5864062014805 then ((some (([] : List (List (S39))) ++ t265 : List (List (S39)))).bind fun y268 => ((fill_Words.f k l1).bind fun t271 => (if y268.length + t271.length < 5864062014805 then (flonglaw12_FillWords.l0 k t262 (y268 ++ t271) 0) else (none)))) else (none)))) = some r := H
    have A9 := Aside0.mk A90
    clear A90
    replace H := Option.bind_eq_some_iff.mp H
    obtain ⟨t262, A100, H⟩ := H
    replace H : ((fill_Words.f k l0).bind fun t265 => (if ([] : List (List (S39))).length + t265.length < 5864062014805 then ((some (([] : List (List (S39))) ++ t265 : List (List (S39)))).bind fun y268 => ((fill_Words.f k l1).bind fun t271 => (if y268.length + t271.length < 5864062014805 then (flonglaw12_FillWords.l0 k t262 (y268 ++ t271) 0) else (none)))) else (none))) = some r := H
    have A10 := Aside0.mk A100
    clear A100
    replace H := Option.bind_eq_some_iff.mp H
    obtain ⟨t265, A110, H⟩ := H
    replace H : (if ([] : List (List (S39))).length + t265.length < 5864062014805 then ((some (([] : List (List (S39))) ++ t265 : List (List (S39)))).bind fun y268 => ((fill_Words.f k l1).bind fun t271 => (if y268.length + t271.length < 5864062014805 then (flonglaw12_FillWords.l0 k t262 (y268 ++ t271) 0) else (none)))) else (none)) = some r := H
    have A11 := Aside0.mk A110
    clear A110
    by_cases c12 : ([] : List (List (S39))).length + t265.length < 5864062014805
    · rw [if_pos c12] at H
      have LMc12 := Aside0.mk c12
      clear c12
      obtain ⟨y268, hy268⟩ : ∃ y_ : List (List (S39)), y_ = (([] : List (List (S39))) ++ t265) := ⟨_, rfl⟩
      replace H : ((fill_Words.f k l1).bind fun t271 => (if y268.length + t271.length < 5864062014805 then (flonglaw12_FillWords.l0 k t262 (y268 ++ t271) 0) else (none))) = some r := by first | (rw [hy268]; with_reducible exact H) | (have H2_ := (Option.bind_some _ _).symm.trans H; rw [hy268]; with_reducible exact H2_) | (have H2_ := (Option.bind_some _ _).symm.trans H; with_reducible exact H2_) | with_reducible exact H | (rw [hy268]; exact H) | exact H
      have Ny268 := Aside0.mk hy268
      clear hy268
      replace H := Option.bind_eq_some_iff.mp H
      obtain ⟨t271, A130, H⟩ := H
      replace H : (if y268.length + t271.length < 5864062014805 then (flonglaw12_FillWords.l0 k t262 (y268 ++ t271) 0) else (none)) = some r := H
      have A13 := Aside0.mk A130
      clear A130
      by_cases c14 : y268.length + t271.length < 5864062014805
      · rw [if_pos c14] at H
        have LMc14 := Aside0.mk c14
        clear c14
        obtain ⟨y274, hy274⟩ : ∃ y_ : List (List (S39)), y_ = (y268 ++ t271) := ⟨_, rfl⟩
        replace H : (flonglaw12_FillWords.l0 k t262 y274 0) = some r := by first | (rw [hy274]; with_reducible exact H) | (have H2_ := (Option.bind_some _ _).symm.trans H; rw [hy274]; with_reducible exact H2_) | (have H2_ := (Option.bind_some _ _).symm.trans H; with_reducible exact H2_) | with_reducible exact H | (rw [hy274]; exact H) | exact H
        have Ny274 := Aside0.mk hy274
        clear hy274
        have H' := Aside0.mk H
        clear H
        go_enter Tryd.func3, Tryd.ntmps3
        go_wp2_with (first | ((with_reducible refine gate_callee (f := 11) rfl ?_); refine goesL_ (some 22) rfl rfl Tryd.func11 (by kernel_rfl) rfl #[.int .i64 (wrap64 (1 + (wrap64 (Int.tmod a2 4))))] rfl (by (try simp only [List.map_toArray, List.map_cons, List.map_nil]); first | done | rfl | (simp only [List.length_drop, List.length_take]; rfl)) ?_; (with_reducible refine (flongref03_Blank.calls k (wrap64 (1 + (wrap64 (Int.tmod a2 4)))) t253 _ A7.out).mono ?_); rintro e w15 ⟨v254, rfl, ho0, hb⟩; refine ⟨_, rfl, ?_⟩; have n0_ := Aside0.mk (Kd.R_lower ho0 (below_size (by repeat (first | (with_reducible first | exact HB.out | apply below_alloc | apply pw_below_drewN | apply below_drew1) | exact HB.out)))); have n1_ := Aside0.mk (below_step (by repeat (first | (with_reducible first | exact HB.out | apply below_alloc | apply pw_below_drewN | apply below_drew1) | exact HB.out)) hb); clear HB; have HO255 := n0_; have HB := n1_; clear n0_ n1_; (try clear hb); (try clear hb2); (try clear hk); (try clear hi); (try clear ho0); obtain ⟨Ao16, co16, eo16⟩ := Kd.R_slice HO255.out; subst eo16) | ((with_reducible refine gate_callee (f := 10) rfl ?_); refine goesL_ (some 24) rfl rfl Tryd.func10 (by kernel_rfl) rfl #[.slice Ao16 t253.length co16, .slice A1 l1.length c1] rfl (by (try simp only [List.map_toArray, List.map_cons, List.map_nil]); first | done | rfl | (simp only [List.length_drop, List.length_take]; rfl)) ?_; (with_reducible refine (flongref03_Join.calls _ _ t253 _ _ l1 t256 _ ?side1 ?side2 ?side3 ?side4 A8.out).mono ?_); (case side1 => repeat (first | exact (Kd.R_reads' HO255.out).2.2 | (with_reducible refine Kd.C_alloc ?_ _) | (with_reducible refine Kd.C_drewN ?_ _) | (with_reducible refine Kd.C_drew ?_))); (case side2 => exact (Kd.R_reads' HO255.out).2.1); (case side3 => repeat (first | exact (Kd.C_below HR1.out HB.out) | (with_reducible refine Kd.C_alloc ?_ _) | (with_reducible refine Kd.C_drewN ?_ _) | (with_reducible refine Kd.C_drew ?_))); (case side4 => exact HC1.out); rintro e w17 ⟨v257, rfl, ho0, hb⟩; refine ⟨_, rfl, ?_⟩; have n0_ := Aside0.mk (Kd.R_elder' (by (with_reducible repeat (first | apply Kd.R_alloc | apply Kd.R_drewN | apply Kd.R_drew)); exact HO255.out) (Kd.R_base ho0) hb); have n1_ := Aside0.mk (Kd.R_lower (Kd.R_new' ho0 (Kd.R_lt (by (with_reducible repeat (first | apply Kd.R_alloc | apply Kd.R_drewN | apply Kd.R_drew)); exact HO255.out))) (below_size (by repeat (first | (with_reducible first | exact HB.out | apply below_alloc | apply pw_below_drewN | apply below_drew1) | exact HB.out)))); have n2_ := Aside0.mk (below_step (by repeat (first | (with_reducible first | exact HB.out | apply below_alloc | apply pw_below_drewN | apply below_drew1) | exact HB.out)) hb); clear HO255; clear HB; have HO255 := n0_; have HO258 := n1_; have HB := n2_; clear n0_ n1_ n2_; (try clear hb); (try clear hb2); (try clear hk); (try clear hi); (try clear ho0); obtain ⟨Ao18, co18, eo18⟩ := Kd.R_slice HO258.out; subst eo18) | ((with_reducible refine gate_callee (f := 10) rfl ?_); refine goesL_ (some 25) rfl rfl Tryd.func10 (by kernel_rfl) rfl #[.slice A0 l0.length c0, .slice Ao18 t256.length co18] rfl (by (try simp only [List.map_toArray, List.map_cons, List.map_nil]); first | done | rfl | (simp only [List.length_drop, List.length_take]; rfl)) ?_; (with_reducible refine (flongref03_Join.calls _ _ l0 _ _ t256 t259 _ ?side1 ?side2 ?side3 ?side4 A9.out).mono ?_); (case side1 => repeat (first | exact (Kd.C_below HR0.out HB.out) | (with_reducible refine Kd.C_alloc ?_ _) | (with_reducible refine Kd.C_drewN ?_ _) | (with_reducible refine Kd.C_drew ?_))); (case side2 => exact HC0.out); (case side3 => repeat (first | exact (Kd.R_reads' HO258.out).2.2 | (with_reducible refine Kd.C_alloc ?_ _) | (with_reducible refine Kd.C_drewN ?_ _) | (with_reducible refine Kd.C_drew ?_))); (case side4 => exact (Kd.R_reads' HO258.out).2.1); rintro e w19 ⟨v260, rfl, ho0, hb⟩; refine ⟨_, rfl, ?_⟩; have n0_ := Aside0.mk (Kd.R_elder' (by (with_reducible repeat (first | apply Kd.R_alloc | apply Kd.R_drewN | apply Kd.R_drew)); exact HO255.out) (Kd.R_base ho0) hb); have n1_ := Aside0.mk (Kd.R_elder' (by (with_reducible repeat (first | apply Kd.R_alloc | apply Kd.R_drewN | apply Kd.R_drew)); exact HO258.out) (Kd.R_base ho0) hb); have n2_ := Aside0.mk (Kd.R_lower (Kd.R_new' (Kd.R_new' ho0 (Kd.R_lt (by (with_reducible repeat (first | apply Kd.R_alloc | apply Kd.R_drewN | apply Kd.R_drew)); exact HO255.out))) (Kd.R_lt (by (with_reducible repeat (first | apply Kd.R_alloc | apply Kd.R_drewN | apply Kd.R_drew)); exact HO258.out))) (below_size (by repeat (first | (with_reducible first | exact HB.out | apply below_alloc | apply pw_below_drewN | apply below_drew1) | exact HB.out)))); have n3_ := Aside0.mk (below_step (by repeat (first | (with_reducible first | exact HB.out | apply below_alloc | apply pw_below_drewN | apply below_drew1) | exact HB.out)) hb); clear HO255; clear HO258; clear HB; have HO255 := n0_; have HO258 := n1_; have HO261 := n2_; have HB := n3_; clear n0_ n1_ n2_ n3_; (try clear hb); (try clear hb2); (try clear hk); (try clear hi); (try clear ho0); obtain ⟨Ao20, co20, eo20⟩ := Kd.R_slice HO261.out; subst eo20) | ((with_reducible refine gate_callee (f := 9) rfl ?_); refine goesL_ (some 26) rfl rfl Tryd.func9 (by kernel_rfl) rfl #[.slice Ao20 t259.length co20] rfl (by (try simp only [List.map_toArray, List.map_cons, List.map_nil]); first | done | rfl | (simp only [List.length_drop, List.length_take]; rfl)) ?_; (with_reducible refine (fill_Words.calls k (fun k_ => some k_ = (.slice Ao20 t259.length co20 : Value).ownBlock) _ _ t259 t262 _ ?side1 ?side2 A10.out).mono ?_); (case side1 => exact Kd.R_V (Kd.R_tight rfl (HO261.out))); (case side2 => exact GOK.of_below (GOK.sub HG.out rfl) (by repeat (first | (with_reducible first | exact HB.out | apply below_alloc | apply pw_below_drewN | apply below_drew1) | exact HB.out))); rintro e w21 ⟨v263, rfl, ho0, hb⟩; refine ⟨_, rfl, ?_⟩; replace ho0 := Kd.N_mono (ok' := fun k_ => ((some k_ = (.slice Ao20 t259.length co20 : Value).ownBlock)) ∨ _ ≤ k_) (Kd.S_N ho0) (fun _ h_ => .inr h_); have n0_ := Aside0.mk (Kd.R_below (by (with_reducible repeat (first | apply Kd.R_alloc | apply Kd.R_drewN | apply Kd.R_drew)); exact HO255.out) hb); have n1_ := Aside0.mk (Kd.R_below (by (with_reducible repeat (first | apply Kd.R_alloc | apply Kd.R_drewN | apply Kd.R_drew)); exact HO258.out) hb); have n2_ := Aside0.mk (Kd.R_below (by (with_reducible repeat (first | apply Kd.R_alloc | apply Kd.R_drewN | apply Kd.R_drew)); exact HO261.out) hb); have n3_ := Aside0.mk (Kd.N_lower (Kd.N_mono (ok' := fun k_ => some k_ ≠ (.slice Ao16 t253.length co16 : Value).ownBlock ∧ some k_ ≠ (.slice Ao18 t256.length co18 : Value).ownBlock) ho0 (fun k_ hk_ => ⟨Or.elim hk_ (fun hs_ => ((HO261.out).1 k_ hs_.symm).1.2) (fun hn_ => (Kd.fresh' (Kd.R_lt (by (with_reducible repeat (first | apply Kd.R_alloc | apply Kd.R_drewN | apply Kd.R_drew)); exact HO255.out)) k_ hn_)), Or.elim hk_ (fun hs_ => ((HO261.out).1 k_ hs_.symm).2) (fun hn_ => (Kd.fresh' (Kd.R_lt (by (with_reducible repeat (first | apply Kd.R_alloc | apply Kd.R_drewN | apply Kd.R_drew)); exact HO258.out)) k_ hn_))⟩)) (below_size (by repeat (first | (with_reducible first | exact HB.out | apply below_alloc | apply pw_below_drewN | apply below_drew1) | exact HB.out)))); have n4_ := Aside0.mk (below_step (by repeat (first | (with_reducible first | exact HB.out | apply below_alloc | apply pw_below_drewN | apply below_drew1) | exact HB.out)) hb); clear HO255; clear HO258; clear HO261; clear HB; have HO255 := n0_; have HO258 := n1_; have HO261 := n2_; have HO264 := n3_; have HB := n4_; clear n0_ n1_ n2_ n3_ n4_; (try clear hb); (try clear hb2); (try clear hk); (try clear hi); (try clear ho0)) | ((with_reducible refine gate_callee (f := 9) rfl ?_); refine goesL_ (some 29) rfl rfl Tryd.func9 (by kernel_rfl) rfl #[.slice A0 l0.length c0] rfl (by (try simp only [List.map_toArray, List.map_cons, List.map_nil]); first | done | rfl | (simp only [List.length_drop, List.length_take]; rfl)) ?_; (with_reducible refine (fill_Words.calls k (fun k_ => k_ < w.heap.size) _ _ l0 t265 _ ?side1 ?side2 A11.out).mono ?_); (case side1 => exact Kd.V_mk HC0.out (Kd.F_below (Kd.C_F k39_heap HR0.out) (by repeat (first | (with_reducible first | exact HB.out | apply below_alloc | apply pw_below_drewN | apply below_drew1) | exact HB.out)))); (case side2 => exact GOK.of_below (GOK.sub HG.out rfl) (by repeat (first | (with_reducible first | exact HB.out | apply below_alloc | apply pw_below_drewN | apply below_drew1) | exact HB.out))); rintro e w22 ⟨v266, rfl, ho0, hb⟩; refine ⟨_, rfl, ?_⟩; replace ho0 := Kd.N_mono (ok' := fun k_ => ((k_ < w.heap.size)) ∨ _ ≤ k_) (Kd.S_N ho0) (fun _ h_ => .inr h_); have n0_ := Aside0.mk (Kd.R_below (by (with_reducible repeat (first | apply Kd.R_alloc | apply Kd.R_drewN | apply Kd.R_drew)); exact HO255.out) hb); have n1_ := Aside0.mk (Kd.R_below (by (with_reducible repeat (first | apply Kd.R_alloc | apply Kd.R_drewN | apply Kd.R_drew)); exact HO258.out) hb); have n2_ := Aside0.mk (Kd.R_below (by (with_reducible repeat (first | apply Kd.R_alloc | apply Kd.R_drewN | apply Kd.R_drew)); exact HO261.out) hb); have n3_ := Aside0.mk (Kd.N_elder' (by (with_reducible repeat (first | apply Kd.N_alloc | apply Kd.N_drewN | apply Kd.N_drew)); exact HO264.out) (Kd.N_base ho0) hb); have n4_ := Aside0.mk (Kd.N_lower (Kd.N_mono (ok' := fun k_ => some k_ ≠ (.slice Ao16 t253.length co16 : Value).ownBlock ∧ some k_ ≠ (.slice Ao18 t256.length co18 : Value).ownBlock ∧ some k_ ≠ (.slice Ao20 t259.length co20 : Value).ownBlock ∧ some k_ ≠ (v263 : Value).ownBlock) ho0 (fun k_ hk_ => ⟨Or.elim hk_ (fun hs_ => fun e_ => Nat.not_le.2 hs_ (Kd.R_base HO255.out k_ e_.symm)) (fun hn_ => (Kd.fresh' (Kd.R_lt (by (with_reducible repeat (first | apply Kd.R_alloc | apply Kd.R_drewN | apply Kd.R_drew)); exact HO255.out)) k_ hn_)), Or.elim hk_ (fun hs_ => fun e_ => Nat.not_le.2 hs_ (Kd.R_base HO258.out k_ e_.symm)) (fun hn_ => (Kd.fresh' (Kd.R_lt (by (with_reducible repeat (first | apply Kd.R_alloc | apply Kd.R_drewN | apply Kd.R_drew)); exact HO258.out)) k_ hn_)), Or.elim hk_ (fun hs_ => fun e_ => Nat.not_le.2 hs_ (Kd.R_base HO261.out k_ e_.symm)) (fun hn_ => (Kd.fresh' (Kd.R_lt (by (with_reducible repeat (first | apply Kd.R_alloc | apply Kd.R_drewN | apply Kd.R_drew)); exact HO261.out)) k_ hn_)), Or.elim hk_ (fun hs_ => fun e_ => Nat.not_le.2 hs_ (Kd.N_base HO264.out k_ e_.symm)) (fun hn_ => (Kd.fresh' (Kd.N_lt (by (with_reducible repeat (first | apply Kd.N_alloc | apply Kd.N_drewN | apply Kd.N_drew)); exact HO264.out)) k_ hn_))⟩)) (below_size (by repeat (first | (with_reducible first | exact HB.out | apply below_alloc | apply pw_below_drewN | apply below_drew1) | exact HB.out)))); have n5_ := Aside0.mk (below_step (by repeat (first | (with_reducible first | exact HB.out | apply below_alloc | apply pw_below_drewN | apply below_drew1) | exact HB.out)) hb); clear HO255; clear HO258; clear HO261; clear HO264; clear HB; have HO255 := n0_; have HO258 := n1_; have HO261 := n2_; have HO264 := n3_; have HO267 := n4_; have HB := n5_; clear n0_ n1_ n2_ n3_ n4_ n5_; (try clear hb); (try clear hb2); (try clear hk); (try clear hi); (try clear ho0); obtain ⟨Ao24, co24, eo24⟩ := Kd.N_slice HO267.out; subst eo24) | ((with_reducible refine gate_builtin (b := .append) (xs := #[.tmp 27, .tmp 29]) rfl ?_); at_builtin; refine Kd.N_append_rows (Kd.slice 39 k39) (w0 := w) w.heap.size rfl (.tmp 27) (.tmp 29) 24 22 (.slice none 0 0) 24 rfl Tryd.underlying24 info22 rfl (by decide) (by omega) (.slice none 0 0) ([] : List (List (S39))) t265 _ _ _ (fun k_ => some k_ ≠ (.slice Ao16 t253.length co16 : Value).ownBlock ∧ some k_ ≠ (.slice Ao18 t256.length co18 : Value).ownBlock ∧ some k_ ≠ (.slice Ao20 t259.length co20 : Value).ownBlock ∧ some k_ ≠ (v263 : Value).ownBlock) (fun k_ => ((fun k_ => some k_ ≠ (.slice Ao16 t253.length co16 : Value).ownBlock ∧ some k_ ≠ (.slice Ao18 t256.length co18 : Value).ownBlock ∧ some k_ ≠ (.slice Ao20 t259.length co20 : Value).ownBlock ∧ some k_ ≠ (v263 : Value).ownBlock)) k_ ∧ some k_ ≠ (.slice none 0 0 : Value).ownBlock) rfl rfl ?aO ?aR (fun _ hk => hk) ?aF ?aB ?aS ?aL ?_; (case aR => exact (by skip; exact Kd.N_F (Kd.N_mono (ok' := (fun k_ => ((fun k_ => some k_ ≠ (.slice Ao16 t253.length co16 : Value).ownBlock ∧ some k_ ≠ (.slice Ao18 t256.length co18 : Value).ownBlock ∧ some k_ ≠ (.slice Ao20 t259.length co20 : Value).ownBlock ∧ some k_ ≠ (v263 : Value).ownBlock)) k_ ∧ some k_ ≠ (.slice none 0 0 : Value).ownBlock)) (HO267.out) (fun k_ hk => ⟨⟨hk.1, ⟨hk.2.1, ⟨hk.2.2.1, hk.2.2.2⟩⟩⟩, (by simp [Value.ownBlock])⟩)))); (case aB => exact (by repeat (first | (with_reducible first | exact HB.out | apply below_alloc | apply pw_below_drewN | apply below_drew1) | exact HB.out))); (case aF => exact (fun k_ hk => ⟨Kd.fresh' (Kd.R_lt (by (with_reducible repeat (first | apply Kd.R_alloc | apply Kd.R_drewN | apply Kd.R_drew)); exact HO255.out)) k_ hk, Kd.fresh' (Kd.R_lt (by (with_reducible repeat (first | apply Kd.R_alloc | apply Kd.R_drewN | apply Kd.R_drew)); exact HO258.out)) k_ hk, Kd.fresh' (Kd.R_lt (by (with_reducible repeat (first | apply Kd.R_alloc | apply Kd.R_drewN | apply Kd.R_drew)); exact HO261.out)) k_ hk, Kd.fresh' (Kd.N_lt (by (with_reducible repeat (first | apply Kd.N_alloc | apply Kd.N_drewN | apply Kd.N_drew)); exact HO264.out)) k_ hk⟩)); (case aO => exact ((Kd.N_nil _ _ _ _ (fun k_ => some k_ ≠ (.slice Ao16 t253.length co16 : Value).ownBlock ∧ some k_ ≠ (.slice Ao18 t256.length co18 : Value).ownBlock ∧ some k_ ≠ (.slice Ao20 t259.length co20 : Value).ownBlock ∧ some k_ ≠ (v263 : Value).ownBlock)))); (case aS => exact (below_size (by repeat (first | (with_reducible first | exact HB.out | apply below_alloc | apply pw_below_drewN | apply below_drew1) | exact HB.out)))); (case aL => have := LMc12.out; omega); intro v269 w23 ho hb hg hat; rw [← Ny268.out] at ho; have n0_ := Aside0.mk (Kd.R_grown (by (with_reducible repeat (first | apply Kd.R_alloc | apply Kd.R_drewN | apply Kd.R_drew)); exact HO255.out) hg (fun _ _ => by simp [Value.ownBlock])); have n1_ := Aside0.mk (Kd.R_grown (by (with_reducible repeat (first | apply Kd.R_alloc | apply Kd.R_drewN | apply Kd.R_drew)); exact HO258.out) hg (fun _ _ => by simp [Value.ownBlock])); have n2_ := Aside0.mk (Kd.R_grown (by (with_reducible repeat (first | apply Kd.R_alloc | apply Kd.R_drewN | apply Kd.R_drew)); exact HO261.out) hg (fun _ _ => by simp [Value.ownBlock])); have n3_ := Aside0.mk (Kd.N_afterv (Kd.N_apart_nil (by (with_reducible repeat (first | apply Kd.N_alloc | apply Kd.N_drewN | apply Kd.N_drew)); exact HO264.out)) hg hat); have n4_ := Aside0.mk (Kd.N_afterv (Kd.N_apart_nil (by (with_reducible repeat (first | apply Kd.N_alloc | apply Kd.N_drewN | apply Kd.N_drew)); exact HO267.out)) hg hat); have n5_ := Aside0.mk (hb); have n6_ := Aside0.mk (ho); clear HO255; clear HO258; clear HO261; clear HO264; clear HO267; clear HB; have HO255 := n0_; have HO258 := n1_; have HO261 := n2_; have HO264 := n3_; have HO267 := n4_; have HB := n5_; have HO270 := n6_; clear n0_ n1_ n2_ n3_ n4_ n5_ n6_; clear ho hb hg hat) | ((with_reducible refine gate_callee (f := 9) rfl ?_); refine goesL_ (some 33) rfl rfl Tryd.func9 (by kernel_rfl) rfl #[.slice A1 l1.length c1] rfl (by (try simp only [List.map_toArray, List.map_cons, List.map_nil]); first | done | rfl | (simp only [List.length_drop, List.length_take]; rfl)) ?_; (with_reducible refine (fill_Words.calls k (fun k_ => k_ < w.heap.size) _ _ l1 t271 _ ?side1 ?side2 A13.out).mono ?_); (case side1 => exact Kd.V_mk HC1.out (Kd.F_below (Kd.C_F k39_heap HR1.out) (by repeat (first | (with_reducible first | exact HB.out | apply below_alloc | apply pw_below_drewN | apply below_drew1) | exact HB.out)))); (case side2 => exact GOK.of_below (GOK.sub HG.out rfl) (by repeat (first | (with_reducible first | exact HB.out | apply below_alloc | apply pw_below_drewN | apply below_drew1) | exact HB.out))); rintro e w25 ⟨v272, rfl, ho0, hb⟩; refine ⟨_, rfl, ?_⟩; replace ho0 := Kd.N_mono (ok' := fun k_ => ((k_ < w.heap.size)) ∨ _ ≤ k_) (Kd.S_N ho0) (fun _ h_ => .inr h_); have n0_ := Aside0.mk (Kd.R_below (by (with_reducible repeat (first | apply Kd.R_alloc | apply Kd.R_drewN | apply Kd.R_drew)); exact HO255.out) hb); have n1_ := Aside0.mk (Kd.R_below (by (with_reducible repeat (first | apply Kd.R_alloc | apply Kd.R_drewN | apply Kd.R_drew)); exact HO258.out) hb); have n2_ := Aside0.mk (Kd.R_below (by (with_reducible repeat (first | apply Kd.R_alloc | apply Kd.R_drewN | apply Kd.R_drew)); exact HO261.out) hb); have n3_ := Aside0.mk (Kd.N_elder' (by (with_reducible repeat (first | apply Kd.N_alloc | apply Kd.N_drewN | apply Kd.N_drew)); exact HO264.out) (Kd.N_base ho0) hb); have n4_ := Aside0.mk (Kd.N_elder' (by (with_reducible repeat (first | apply Kd.N_alloc | apply Kd.N_drewN | apply Kd.N_drew)); exact HO267.out) (Kd.N_base ho0) hb); have n5_ := Aside0.mk (Kd.N_elder' (by (with_reducible repeat (first | apply Kd.N_alloc | apply Kd.N_drewN | apply Kd.N_drew)); exact HO270.out) (Kd.N_base ho0) hb); have n6_ := Aside0.mk (Kd.N_lower (Kd.N_mono (ok' := fun k_ => some k_ ≠ (.slice Ao16 t253.length co16 : Value).ownBlock ∧ some k_ ≠ (.slice Ao18 t256.length co18 : Value).ownBlock ∧ some k_ ≠ (.slice Ao20 t259.length co20 : Value).ownBlock ∧ some k_ ≠ (v263 : Value).ownBlock ∧ some k_ ≠ (.slice Ao24 t265.length co24 : Value).ownBlock ∧ some k_ ≠ (v269 : Value).ownBlock) ho0 (fun k_ hk_ => ⟨Or.elim hk_ (fun hs_ => fun e_ => Nat.not_le.2 hs_ (Kd.R_base HO255.out k_ e_.symm)) (fun hn_ => (Kd.fresh' (Kd.R_lt (by (with_reducible repeat (first | apply Kd.R_alloc | apply Kd.R_drewN | apply Kd.R_drew)); exact HO255.out)) k_ hn_)), Or.elim hk_ (fun hs_ => fun e_ => Nat.not_le.2 hs_ (Kd.R_base HO258.out k_ e_.symm)) (fun hn_ => (Kd.fresh' (Kd.R_lt (by (with_reducible repeat (first | apply Kd.R_alloc | apply Kd.R_drewN | apply Kd.R_drew)); exact HO258.out)) k_ hn_)), Or.elim hk_ (fun hs_ => fun e_ => Nat.not_le.2 hs_ (Kd.R_base HO261.out k_ e_.symm)) (fun hn_ => (Kd.fresh' (Kd.R_lt (by (with_reducible repeat (first | apply Kd.R_alloc | apply Kd.R_drewN | apply Kd.R_drew)); exact HO261.out)) k_ hn_)), Or.elim hk_ (fun hs_ => fun e_ => Nat.not_le.2 hs_ (Kd.N_base HO264.out k_ e_.symm)) (fun hn_ => (Kd.fresh' (Kd.N_lt (by (with_reducible repeat (first | apply Kd.N_alloc | apply Kd.N_drewN | apply Kd.N_drew)); exact HO264.out)) k_ hn_)), Or.elim hk_ (fun hs_ => fun e_ => Nat.not_le.2 hs_ (Kd.N_base HO267.out k_ e_.symm)) (fun hn_ => (Kd.fresh' (Kd.N_lt (by (with_reducible repeat (first | apply Kd.N_alloc | apply Kd.N_drewN | apply Kd.N_drew)); exact HO267.out)) k_ hn_)), Or.elim hk_ (fun hs_ => fun e_ => Nat.not_le.2 hs_ (Kd.N_base HO270.out k_ e_.symm)) (fun hn_ => (Kd.fresh' (Kd.N_lt (by (with_reducible repeat (first | apply Kd.N_alloc | apply Kd.N_drewN | apply Kd.N_drew)); exact HO270.out)) k_ hn_))⟩)) (below_size (by repeat (first | (with_reducible first | exact HB.out | apply below_alloc | apply pw_below_drewN | apply below_drew1) | exact HB.out)))); have n7_ := Aside0.mk (below_step (by repeat (first | (with_reducible first | exact HB.out | apply below_alloc | apply pw_below_drewN | apply below_drew1) | exact HB.out)) hb); clear HO255; clear HO258; clear HO261; clear HO264; clear HO267; clear HO270; clear HB; have HO255 := n0_; have HO258 := n1_; have HO261 := n2_; have HO264 := n3_; have HO267 := n4_; have HO270 := n5_; have HO273 := n6_; have HB := n7_; clear n0_ n1_ n2_ n3_ n4_ n5_ n6_ n7_; (try clear hb); (try clear hb2); (try clear hk); (try clear hi); (try clear ho0); obtain ⟨Ao27, co27, eo27⟩ := Kd.N_slice HO273.out; subst eo27) | ((with_reducible refine gate_builtin (b := .append) (xs := #[.tmp 31, .tmp 33]) rfl ?_); at_builtin; refine Kd.N_append_rows (Kd.slice 39 k39) (w0 := w) w.heap.size rfl (.tmp 31) (.tmp 33) 24 22 (.slice none 0 0) 24 rfl Tryd.underlying24 info22 rfl (by decide) (by omega) v269 y268 t271 _ _ _ (fun k_ => some k_ ≠ (.slice Ao16 t253.length co16 : Value).ownBlock ∧ some k_ ≠ (.slice Ao18 t256.length co18 : Value).ownBlock ∧ some k_ ≠ (.slice Ao20 t259.length co20 : Value).ownBlock ∧ some k_ ≠ (v263 : Value).ownBlock) (fun k_ => ((fun k_ => some k_ ≠ (.slice Ao16 t253.length co16 : Value).ownBlock ∧ some k_ ≠ (.slice Ao18 t256.length co18 : Value).ownBlock ∧ some k_ ≠ (.slice Ao20 t259.length co20 : Value).ownBlock ∧ some k_ ≠ (v263 : Value).ownBlock)) k_ ∧ some k_ ≠ (v269 : Value).ownBlock) rfl rfl ?aO ?aR (fun _ hk => hk) ?aF ?aB ?aS ?aL ?_; (case aR => exact (by skip; exact Kd.N_F (Kd.N_mono (ok' := (fun k_ => ((fun k_ => some k_ ≠ (.slice Ao16 t253.length co16 : Value).ownBlock ∧ some k_ ≠ (.slice Ao18 t256.length co18 : Value).ownBlock ∧ some k_ ≠ (.slice Ao20 t259.length co20 : Value).ownBlock ∧ some k_ ≠ (v263 : Value).ownBlock)) k_ ∧ some k_ ≠ (v269 : Value).ownBlock)) (HO273.out) (fun k_ hk => ⟨⟨hk.1, ⟨hk.2.1, ⟨hk.2.2.1, hk.2.2.2.1⟩⟩⟩, hk.2.2.2.2.2⟩)))); (case aB => exact (by repeat (first | (with_reducible first | exact HB.out | apply below_alloc | apply pw_below_drewN | apply below_drew1) | exact HB.out))); (case aF => exact (fun k_ hk => ⟨Kd.fresh' (Kd.R_lt (by (with_reducible repeat (first | apply Kd.R_alloc | apply Kd.R_drewN | apply Kd.R_drew)); exact HO255.out)) k_ hk, Kd.fresh' (Kd.R_lt (by (with_reducible repeat (first | apply Kd.R_alloc | apply Kd.R_drewN | apply Kd.R_drew)); exact HO258.out)) k_ hk, Kd.fresh' (Kd.R_lt (by (with_reducible repeat (first | apply Kd.R_alloc | apply Kd.R_drewN | apply Kd.R_drew)); exact HO261.out)) k_ hk, Kd.fresh' (Kd.N_lt (by (with_reducible repeat (first | apply Kd.N_alloc | apply Kd.N_drewN | apply Kd.N_drew)); exact HO264.out)) k_ hk⟩)); (case aO => exact (by (with_reducible repeat (first | apply Kd.N_alloc | apply Kd.N_drewN | apply Kd.N_drew)); exact Kd.N_mono HO270.out (fun _ hk => ⟨hk.1.1, ⟨hk.1.2.1, ⟨hk.1.2.2.1, hk.1.2.2.2⟩⟩⟩))); (case aS => exact (below_size (by repeat (first | (with_reducible first | exact HB.out | apply below_alloc | apply pw_below_drewN | apply below_drew1) | exact HB.out)))); (case aL => have := LMc14.out; omega); intro v275 w26 ho hb hg hat; rw [← Ny274.out] at ho; have n0_ := Aside0.mk (Kd.R_over' (by (with_reducible repeat (first | apply Kd.R_alloc | apply Kd.R_drewN | apply Kd.R_drew)); exact HO255.out) (Kd.N_typed (by (with_reducible repeat (first | apply Kd.N_alloc | apply Kd.N_drewN | apply Kd.N_drew)); exact HO270.out)) (by decide) hg); have n1_ := Aside0.mk (Kd.R_over' (by (with_reducible repeat (first | apply Kd.R_alloc | apply Kd.R_drewN | apply Kd.R_drew)); exact HO258.out) (Kd.N_typed (by (with_reducible repeat (first | apply Kd.N_alloc | apply Kd.N_drewN | apply Kd.N_drew)); exact HO270.out)) (by decide) hg); have n2_ := Aside0.mk (Kd.R_over' (by (with_reducible repeat (first | apply Kd.R_alloc | apply Kd.R_drewN | apply Kd.R_drew)); exact HO261.out) (Kd.N_typed (by (with_reducible repeat (first | apply Kd.N_alloc | apply Kd.N_drewN | apply Kd.N_drew)); exact HO270.out)) (by decide) hg); have n3_ := Aside0.mk (Kd.N_afterv (ok := (fun k_ => some k_ ≠ (.slice Ao16 t253.length co16 : Value).ownBlock ∧ some k_ ≠ (.slice Ao18 t256.length co18 : Value).ownBlock ∧ some k_ ≠ (.slice Ao24 t265.length co24 : Value).ownBlock ∧ some k_ ≠ (.slice Ao27 t271.length co27 : Value).ownBlock)) (by (with_reducible repeat (first | apply Kd.N_alloc | apply Kd.N_drewN | apply Kd.N_drew)); exact Kd.N_mono HO264.out (fun _ hk => ⟨⟨hk.1.1.1.1, ⟨hk.1.1.1.2, ⟨hk.1.1.2, hk.2⟩⟩⟩, hk.1.2⟩)) hg hat); have n4_ := Aside0.mk (Kd.N_afterv (ok := (fun k_ => some k_ ≠ (.slice Ao16 t253.length co16 : Value).ownBlock ∧ some k_ ≠ (.slice Ao18 t256.length co18 : Value).ownBlock ∧ some k_ ≠ (.slice Ao20 t259.length co20 : Value).ownBlock ∧ some k_ ≠ (v263 : Value).ownBlock ∧ some k_ ≠ (.slice Ao27 t271.length co27 : Value).ownBlock)) (by (with_reducible repeat (first | apply Kd.N_alloc | apply Kd.N_drewN | apply Kd.N_drew)); exact Kd.N_mono HO267.out (fun _ hk => ⟨⟨hk.1.1.1, ⟨hk.1.1.2.1, ⟨hk.1.1.2.2.1, ⟨hk.1.1.2.2.2, hk.2⟩⟩⟩⟩, hk.1.2⟩)) hg hat); have n5_ := Aside0.mk (Kd.N_afterv (ok := (fun k_ => some k_ ≠ (.slice Ao16 t253.length co16 : Value).ownBlock ∧ some k_ ≠ (.slice Ao18 t256.length co18 : Value).ownBlock ∧ some k_ ≠ (.slice Ao20 t259.length co20 : Value).ownBlock ∧ some k_ ≠ (v263 : Value).ownBlock ∧ some k_ ≠ (.slice Ao24 t265.length co24 : Value).ownBlock)) (by (with_reducible repeat (first | apply Kd.N_alloc | apply Kd.N_drewN | apply Kd.N_drew)); exact Kd.N_mono HO273.out (fun _ hk => ⟨⟨hk.1, ⟨hk.2.1, ⟨hk.2.2.1, ⟨hk.2.2.2.1, hk.2.2.2.2.1⟩⟩⟩⟩, hk.2.2.2.2.2⟩)) hg hat); have n6_ := Aside0.mk (hb); have n7_ := Aside0.mk (ho); clear HO255; clear HO258; clear HO261; clear HO264; clear HO267; clear HO273; clear HB; clear HO270; have HO255 := n0_; have HO258 := n1_; have HO261 := n2_; have HO264 := n3_; have HO267 := n4_; have HO273 := n5_; have HB := n6_; have HO276 := n7_; clear n0_ n1_ n2_ n3_ n4_ n5_ n6_ n7_; clear ho hb hg hat))
        go_loopg [9] k (fun kq v9 w' => ∃ (x9_1 : Int), v9 = .int .i64 x9_1 ∧ Aside0 (flonglaw12_FillWords.l0 kq t262 y274 x9_1 = some r) ∧ Aside0 (kq ≤ k) ∧ Aside0 (Kd.N (Kd.slice 39 k39) 22 w' w.heap.size (fun k_ => some k_ ≠ (v275 : Value).ownBlock) v263 t262) ∧ Aside0 (Kd.N (Kd.slice 39 k39) 22 w' w.heap.size (fun k_ => some k_ ≠ (v263 : Value).ownBlock) v275 y274) ∧ Aside0 (Below w.heap.size w w'))
        case atStart => exact ⟨(0), (by first | rfl | (simp; done) | (simp [*]; done)), H', ⟨Nat.le_refl _⟩, ⟨by (with_reducible repeat (first | apply Kd.N_alloc | apply Kd.N_drewN | apply Kd.N_drew)); exact Kd.N_mono HO264.out (fun _ hk => hk.2)⟩, ⟨by (with_reducible repeat (first | apply Kd.N_alloc | apply Kd.N_drewN | apply Kd.N_drew)); exact Kd.N_mono HO276.out (fun _ hk => hk.2.2.2)⟩, ⟨by repeat (first | (with_reducible first | exact HB.out | apply below_alloc | apply pw_below_drewN | apply below_drew1) | exact HB.out)⟩⟩
        case round =>
          clear H'
          try clear c1
          try clear p2
          try clear c3
          try clear c4
          try clear c4b0
          try clear p6
          try clear c8
          try clear c9
          try clear c10
          try clear c11
          try clear c12
          try clear c14
          obtain ⟨x9_1, rfl, HA, HK1, HO_7, HO_8, HB⟩ := hrel
          cases gk with
          | zero => exact absurd HA.out (by simp [flonglaw12_FillWords.l0])
          | succ k1 =>
            have H := HA.out
            clear HA
            simp only [flonglaw12_FillWords.l0] at H
            by_cases c28 : x9_1 < (t262.length : Int)
            · rw [if_pos c28] at H
              have c28b0 : decide (x9_1 < (t262.length : Int)) = true := decide_eq_true c28
              clear c28
              by_cases c29 : 0 ≤ x9_1
              · rw [if_pos c29] at H
                have c29b0 : decide (0 ≤ x9_1) = true := decide_eq_true c29
                clear c29
                replace H := Option.bind_eq_some_iff.mp H
                obtain ⟨t280, A300, H⟩ := H
                replace H : (if t280 < 1 then (some false) else ((flongref03_Clean.f k1 (rd_L3 t262 x9_1)).bind fun t282 => ((flongref03_Same.f k1 t282 (rd_L3 t262 x9_1)).bind fun t286 => (if t286 = true then (flonglaw12_FillWords.l0 k1 t262 y274 (wrap64 (x9_1 + 1))) else (some false))))) = some r := H
                have A30 := Aside0.mk A300
                clear A300
                by_cases c31 : t280 < 1
                · rw [if_pos c31] at H
                  have c31b0 : decide (t280 < 1) = true := decide_eq_true c31
                  clear c31
                  obtain rfl := Option.some.inj H
                  obtain ⟨Ao32, co32, eo32⟩ := Kd.N_slice HO_7.out
                  subst eo32
                  try go_wp2
                  have n0_ := Aside0.mk (Kd.N_drew HO_7.out)
                  have n1_ := Aside0.mk (Kd.N_drew HO_8.out)
                  have n2_ := Aside0.mk (below_drew1 HB.out)
                  clear HO_7
                  clear HO_8
                  clear HB
                  have HO_7 := n0_
                  have HO_8 := n1_
                  have HB := n2_
                  clear n0_ n1_ n2_
                  have p279 : 0 ≤ (x9_1 : Int) := of_decide_eq_true (by first | (with_reducible assumption) | assumption)
                  have q279 : x9_1 < (t262.length : Int) := of_decide_eq_true (by first | (with_reducible assumption) | assumption)
                  obtain ⟨ad279, A279_0, c279_0, e279, hx279_0, hl279_0, hi279_0⟩ := at_L3 (Kd.N_reads' HO_7.out).2.2 x9_1 p279 q279
                  cases e279
                  obtain ⟨ce279, hce279, hMe279, hcc279⟩ := Kd.N_get HO_7.out [] x9_1 p279 (by first | exact q279 | exact of_decide_eq_true (by first | (with_reducible assumption) | assumption) | (have e_ := (Kd.N_reads' HO_7.out).1; omega))
                  obtain ⟨ua279_0, uc279_0, rfl, ul279_0, ge279_0⟩ := Kd.FK_slice_open hMe279
                  have hv279_0 := hcc279 0 _ rfl
                  rw [Nat.add_zero, show ((Kd.slice 39 k39)).sz = 1 from rfl, Nat.mul_one] at hv279_0
                  replace hv279_0 := Option.some.inj (hv279_0.symm.trans hx279_0)
                  injection hv279_0 with hva_ hvn_ hvc_
                  rw [hva_] at ge279_0
                  rw [hvc_] at ul279_0
                  have HL279_0 := Aside0.mk (show Kd.V k39 39 _ w.heap.size _ _ (rd_L3 t262 x9_1) from Kd.V_mk ul279_0 ge279_0)
                  clear hva_ hvn_ hvc_ ge279_0 ul279_0
                  clear hcc279 hce279
                  have HR279_0 := Aside0.mk hi279_0
                  have HC279_0 := Aside0.mk hl279_0
                  clear hi279_0 hl279_0
                  replace p279 := eq_true p279
                  replace q279 := eq_true q279
                  refine start_ (n := 19) (S := fun w' => w'.cell? (ad279.add (x9_1).toNat) = some (.slice A279_0 (rd_L3 t262 x9_1).length c279_0)) (ds := []) #[false, false, false, false, false, false, false, false, false, false, false, false, false, false, false, false, false, false, false] (by kernel_rfl) rfl rfl (hx279_0) (fun hHeld => ?_); refine with_tabW flonglaw12_FillWords.tab10 flonglaw12_FillWords.bits10 (fun HT_ HW_ => ?_)
                  generalize wr.drew = w33 at HO_7 HO_8 HB HL279_0 HR279_0 hx279_0 hHeld ⊢
                  refine pure_ (i := 0) (N := some 41) (v := ?_) (a' := ?_) #[true, false, false, false, false, false, false, false, false, false, false, false, false, false, false, false, false, false, false] rfl rfl (any_of HT_.out (by kernel_rfl)) (fun _ _ _ h => h) (Or.inl ⟨by rfl, ?_⟩) ?_ ?_
                  rotate_left
                  · intro w'
                    go_simp
                    with_reducible rfl
                  rotate_left
                  · simp only [Act.put, List.setIfInBounds_toArray, List.set_cons_zero, List.set_cons_succ, i64_w, i32_w]
                    rfl
                  refine pure_ (i := 1) (N := some 42) (v := ?_) (a' := ?_) #[true, true, false, false, false, false, false, false, false, false, false, false, false, false, false, false, false, false, false] rfl rfl (any_of HT_.out (by kernel_rfl)) (fun _ _ _ h => h) (Or.inl ⟨by rfl, ?_⟩) ?_ ?_
                  rotate_left
                  · intro w'
                    go_simp
                    with_reducible rfl
                  rotate_left
                  · simp only [Act.put, List.setIfInBounds_toArray, List.set_cons_zero, List.set_cons_succ, i64_w, i32_w]
                    rfl
                  refine pure_ (i := 2) (N := some 43) (v := ?_) (a' := ?_) #[true, true, true, false, false, false, false, false, false, false, false, false, false, false, false, false, false, false, false] rfl rfl (any_of HT_.out (by kernel_rfl)) (fun _ _ _ h => h) (Or.inl ⟨by rfl, ?_⟩) ?_ ?_
                  rotate_left
                  · intro w'
                    go_simp
                    with_reducible rfl
                  rotate_left
                  · simp only [Act.put, List.setIfInBounds_toArray, List.set_cons_zero, List.set_cons_succ, i64_w, i32_w]
                    rfl
                  refine take_ (i := 3) (N := some 44) (v := ?_) (a' := ?_) #[true, true, true, true, false, false, false, false, false, false, false, false, false, false, false, false, false, false, false] rfl rfl (take_ofW HT_.out HW_.out (by kernel_rfl)) (fun _ _ _ h => h) (Or.inl ⟨by rfl, ?_⟩) hHeld ?_ ?_
                  rotate_left
                  · intro w' s0
                    go_simp
                    with_reducible rfl
                  rotate_left
                  · simp only [Act.put, List.setIfInBounds_toArray, List.set_cons_zero, List.set_cons_succ, i64_w, i32_w]
                    rfl
                  refine one_ (i := 4) (N := some 45) #[true, true, true, true, true, false, false, false, false, false, false, false, false, false, false, false, false, false, false] rfl rfl (one_of HT_.out (by kernel_rfl)) (by decide) (fun K hK => ?_)
                  refine goes_ Tryd.func12 (by kernel_rfl) rfl #[.slice A279_0 (rd_L3 t262 x9_1).length c279_0] (by rfl) rfl rfl (by (try simp only [List.map_toArray, List.map_cons, List.map_nil]); first | done | rfl | (simp only [List.length_drop, List.length_take]; rfl)) ?_
                  with_reducible refine (flongref03_Width.calls k1 _ _ (rd_L3 t262 x9_1) t280 _ ?side1 ?side2 A30.out).mono ?_
                  (case side1 => repeat (first | exact (by repeat (first | (with_reducible exact HR279_0.out) | (with_reducible refine Kd.C_alloc ?_ _) | (with_reducible refine Kd.C_drewN ?_ _) | (with_reducible refine Kd.C_drew ?_) | exact HR279_0.out)) | (with_reducible refine Kd.C_alloc ?_ _) | (with_reducible refine Kd.C_drewN ?_ _) | (with_reducible refine Kd.C_drew ?_)))
                  (case side2 => exact HC279_0.out)
                  rintro e w34 ⟨rfl, hb⟩
                  have HS0_ := (hb.cell (World.block_lt_of_cell? _ _ (hHeld))).trans (hHeld)
                  refine ⟨_, rfl, ?_⟩
                  have n0_ := Aside0.mk (Kd.N_below (by (with_reducible repeat (first | apply Kd.N_alloc | apply Kd.N_drewN | apply Kd.N_drew)); exact HO_7.out) hb)
                  have n1_ := Aside0.mk (Kd.N_below (by (with_reducible repeat (first | apply Kd.N_alloc | apply Kd.N_drewN | apply Kd.N_drew)); exact HO_8.out) hb)
                  have n2_ := Aside0.mk (Kd.V_below (by (with_reducible repeat (first | apply Kd.V_alloc | apply Kd.V_drewN | apply Kd.V_drew)); exact HL279_0.out) hb)
                  have n3_ := Aside0.mk (Kd.C_below (by repeat (first | (with_reducible exact HR279_0.out) | (with_reducible refine Kd.C_alloc ?_ _) | (with_reducible refine Kd.C_drewN ?_ _) | (with_reducible refine Kd.C_drew ?_) | exact HR279_0.out)) hb)
                  have n4_ := Aside0.mk (below_step (by repeat (first | (with_reducible first | exact HB.out | apply below_alloc | apply pw_below_drewN | apply below_drew1) | exact HB.out)) hb)
                  clear HO_7
                  clear HO_8
                  clear HL279_0
                  clear HR279_0
                  clear HB
                  have HO_7 := n0_
                  have HO_8 := n1_
                  have HL279_0 := n2_
                  have HR279_0 := n3_
                  have HB := n4_
                  clear n0_ n1_ n2_ n3_ n4_
                  (try clear hb)
                  (try clear hb2)
                  (try clear hk)
                  (try clear hi)
                  refine hK.out _ _ (HS0_) (fun hHeld => ?_)
                  clear hK K
                  refine norm_ (a' := ?_) ?_ ?_
                  rotate_left
                  · show Act.put _ (some 45) _ = _
                    simp only [Act.put, List.setIfInBounds_toArray, List.set_cons_zero, List.set_cons_succ, i64_w, i32_w]
                    rfl
                  refine pure_ (i := 5) (N := some 46) (v := ?_) (a' := ?_) #[true, true, true, true, true, true, false, false, false, false, false, false, false, false, false, false, false, false, false] rfl rfl (any_of HT_.out (by kernel_rfl)) (fun _ _ _ h => h) (Or.inl ⟨by rfl, ?_⟩) ?_ ?_
                  rotate_left
                  · intro w'
                    go_simp
                    with_reducible rfl
                  rotate_left
                  · simp only [Act.put, List.setIfInBounds_toArray, List.set_cons_zero, List.set_cons_succ, i64_w, i32_w]
                    rfl
                  refine pure_ (i := 6) (N := some 47) (v := ?_) (a' := ?_) #[true, true, true, true, true, true, true, false, false, false, false, false, false, false, false, false, false, false, false] rfl rfl (any_of HT_.out (by kernel_rfl)) (fun _ _ _ h => h) (Or.inl ⟨by rfl, ?_⟩) ?_ ?_
                  rotate_left
                  · intro w'
                    go_simp
                    with_reducible rfl
                  rotate_left
                  · simp only [Act.put, List.setIfInBounds_toArray, List.set_cons_zero, List.set_cons_succ, i64_w, i32_w]
                    rfl
                  refine pure_ (i := 7) (N := some 48) (v := undef) (a' := ?_) #[true, true, true, true, true, true, true, true, false, false, false, false, false, false, false, false, false, false, false] rfl rfl (any_of HT_.out (by kernel_rfl)) (fun _ _ _ h => h) (Or.inr ⟨by rfl, rfl⟩) ?_ ?_
                  rotate_left
                  · simp only [Act.put, List.setIfInBounds_toArray, List.set_cons_zero, List.set_cons_succ, i64_w, i32_w]
                    rfl
                  refine pure_ (i := 8) (N := some 49) (v := undef) (a' := ?_) #[true, true, true, true, true, true, true, true, true, false, false, false, false, false, false, false, false, false, false] rfl rfl (any_of HT_.out (by kernel_rfl)) (fun _ _ _ h => h) (Or.inr ⟨by rfl, rfl⟩) ?_ ?_
                  rotate_left
                  · simp only [Act.put, List.setIfInBounds_toArray, List.set_cons_zero, List.set_cons_succ, i64_w, i32_w]
                    rfl
                  refine pure_ (i := 9) (N := some 50) (v := undef) (a' := ?_) #[true, true, true, true, true, true, true, true, true, true, false, false, false, false, false, false, false, false, false] rfl rfl (any_of HT_.out (by kernel_rfl)) (fun _ _ _ h => h) (Or.inr ⟨by rfl, rfl⟩) ?_ ?_
                  rotate_left
                  · simp only [Act.put, List.setIfInBounds_toArray, List.set_cons_zero, List.set_cons_succ, i64_w, i32_w]
                    rfl
                  refine pure_ (i := 10) (N := some 51) (v := undef) (a' := ?_) #[true, true, true, true, true, true, true, true, true, true, true, false, false, false, false, false, false, false, false] rfl rfl (any_of HT_.out (by kernel_rfl)) (fun _ _ _ h => h) (Or.inr ⟨by rfl, rfl⟩) ?_ ?_
                  rotate_left
                  · simp only [Act.put, List.setIfInBounds_toArray, List.set_cons_zero, List.set_cons_succ, i64_w, i32_w]
                    rfl
                  refine pure_ (i := 11) (N := some 52) (v := undef) (a' := ?_) #[true, true, true, true, true, true, true, true, true, true, true, true, false, false, false, false, false, false, false] rfl rfl (any_of HT_.out (by kernel_rfl)) (fun _ _ _ h => h) (Or.inr ⟨by rfl, rfl⟩) ?_ ?_
                  rotate_left
                  · simp only [Act.put, List.setIfInBounds_toArray, List.set_cons_zero, List.set_cons_succ, i64_w, i32_w]
                    rfl
                  refine pure_ (i := 12) (N := some 53) (v := undef) (a' := ?_) #[true, true, true, true, true, true, true, true, true, true, true, true, true, false, false, false, false, false, false] rfl rfl (any_of HT_.out (by kernel_rfl)) (fun _ _ _ h => h) (Or.inr ⟨by rfl, rfl⟩) ?_ ?_
                  rotate_left
                  · simp only [Act.put, List.setIfInBounds_toArray, List.set_cons_zero, List.set_cons_succ, i64_w, i32_w]
                    rfl
                  refine pure_ (i := 13) (N := some 54) (v := undef) (a' := ?_) #[true, true, true, true, true, true, true, true, true, true, true, true, true, true, false, false, false, false, false] rfl rfl (any_of HT_.out (by kernel_rfl)) (fun _ _ _ h => h) (Or.inr ⟨by rfl, rfl⟩) ?_ ?_
                  rotate_left
                  · simp only [Act.put, List.setIfInBounds_toArray, List.set_cons_zero, List.set_cons_succ, i64_w, i32_w]
                    rfl
                  refine pure_ (i := 14) (N := some 55) (v := undef) (a' := ?_) #[true, true, true, true, true, true, true, true, true, true, true, true, true, true, true, false, false, false, false] rfl rfl (any_of HT_.out (by kernel_rfl)) (fun _ _ _ h => h) (Or.inr ⟨by rfl, rfl⟩) ?_ ?_
                  rotate_left
                  · simp only [Act.put, List.setIfInBounds_toArray, List.set_cons_zero, List.set_cons_succ, i64_w, i32_w]
                    rfl
                  refine pure_ (i := 15) (N := some 56) (v := undef) (a' := ?_) #[true, true, true, true, true, true, true, true, true, true, true, true, true, true, true, true, false, false, false] rfl rfl (any_of HT_.out (by kernel_rfl)) (fun _ _ _ h => h) (Or.inr ⟨by rfl, rfl⟩) ?_ ?_
                  rotate_left
                  · simp only [Act.put, List.setIfInBounds_toArray, List.set_cons_zero, List.set_cons_succ, i64_w, i32_w]
                    rfl
                  refine pure_ (i := 16) (N := some 57) (v := undef) (a' := ?_) #[true, true, true, true, true, true, true, true, true, true, true, true, true, true, true, true, true, false, false] rfl rfl (any_of HT_.out (by kernel_rfl)) (fun _ _ _ h => h) (Or.inr ⟨by rfl, rfl⟩) ?_ ?_
                  rotate_left
                  · simp only [Act.put, List.setIfInBounds_toArray, List.set_cons_zero, List.set_cons_succ, i64_w, i32_w]
                    rfl
                  refine pure_ (i := 17) (N := some 58) (v := undef) (a' := ?_) #[true, true, true, true, true, true, true, true, true, true, true, true, true, true, true, true, true, true, false] rfl rfl (any_of HT_.out (by kernel_rfl)) (fun _ _ _ h => h) (Or.inr ⟨by rfl, rfl⟩) ?_ ?_
                  rotate_left
                  · simp only [Act.put, List.setIfInBounds_toArray, List.set_cons_zero, List.set_cons_succ, i64_w, i32_w]
                    rfl
                  refine pure_ (i := 18) (N := some 59) (v := ?_) (a' := ?_) #[true, true, true, true, true, true, true, true, true, true, true, true, true, true, true, true, true, true, true] rfl rfl (any_of HT_.out (by kernel_rfl)) (fun _ _ _ h => h) (Or.inl ⟨by rfl, ?_⟩) ?_ ?_
                  rotate_left
                  · intro w'
                    go_simp
                    with_reducible rfl
                  rotate_left
                  · simp only [Act.put, List.setIfInBounds_toArray, List.set_cons_zero, List.set_cons_succ, i64_w, i32_w]
                    rfl
                  refine done_ (done_of HT_.out (by kernel_rfl)) ?_
                  try go_wp2
                  go_ret
                  exact ⟨by first | rfl | (simp [errW_none, errW_some] <;> rfl) | (simp [*, errW_none, errW_some] <;> rfl), by repeat (first | (with_reducible first | exact HB.out | apply below_alloc | apply pw_below_drewN | apply below_drew1) | exact HB.out)⟩
                · rw [if_neg c31] at H
                  have c31b0 : decide (t280 < 1) = false := decide_eq_false c31
                  clear c31
                  replace H := Option.bind_eq_some_iff.mp H
                  obtain ⟨t282, A350, H⟩ := H
                  replace H : ((flongref03_Same.f k1 t282 (rd_L3 t262 x9_1)).bind fun t286 => (if t286 = true then (flonglaw12_FillWords.l0 k1 t262 y274 (wrap64 (x9_1 + 1))) else (some false))) = some r := H
                  have A35 := Aside0.mk A350
                  clear A350
                  replace H := Option.bind_eq_some_iff.mp H
                  obtain ⟨t286, A360, H⟩ := H
                  replace H : (if t286 = true then (flonglaw12_FillWords.l0 k1 t262 y274 (wrap64 (x9_1 + 1))) else (some false)) = some r := H
                  have A36 := Aside0.mk A360
                  clear A360
                  by_cases c37 : t286 = true
                  · subst c37
                    have H1 : (flonglaw12_FillWords.l0 k1 t262 y274 (wrap64 (x9_1 + 1))) = some r := by rw [if_pos rfl] at H; exact H
                    clear H
                    have H := H1
                    clear H1
                    have H' := Aside0.mk H
                    clear H
                    obtain ⟨Ao38, co38, eo38⟩ := Kd.N_slice HO_7.out
                    subst eo38
                    try go_wp2
                    have n0_ := Aside0.mk (Kd.N_drew HO_7.out)
                    have n1_ := Aside0.mk (Kd.N_drew HO_8.out)
                    have n2_ := Aside0.mk (below_drew1 HB.out)
                    clear HO_7
                    clear HO_8
                    clear HB
                    have HO_7 := n0_
                    have HO_8 := n1_
                    have HB := n2_
                    clear n0_ n1_ n2_
                    have p279 : 0 ≤ (x9_1 : Int) := of_decide_eq_true (by first | (with_reducible assumption) | assumption)
                    have q279 : x9_1 < (t262.length : Int) := of_decide_eq_true (by first | (with_reducible assumption) | assumption)
                    obtain ⟨ad279, A279_0, c279_0, e279, hx279_0, hl279_0, hi279_0⟩ := at_L3 (Kd.N_reads' HO_7.out).2.2 x9_1 p279 q279
                    cases e279
                    obtain ⟨ce279, hce279, hMe279, hcc279⟩ := Kd.N_get HO_7.out [] x9_1 p279 (by first | exact q279 | exact of_decide_eq_true (by first | (with_reducible assumption) | assumption) | (have e_ := (Kd.N_reads' HO_7.out).1; omega))
                    obtain ⟨ua279_0, uc279_0, rfl, ul279_0, ge279_0⟩ := Kd.FK_slice_open hMe279
                    have hv279_0 := hcc279 0 _ rfl
                    rw [Nat.add_zero, show ((Kd.slice 39 k39)).sz = 1 from rfl, Nat.mul_one] at hv279_0
                    replace hv279_0 := Option.some.inj (hv279_0.symm.trans hx279_0)
                    injection hv279_0 with hva_ hvn_ hvc_
                    rw [hva_] at ge279_0
                    rw [hvc_] at ul279_0
                    have HL279_0 := Aside0.mk (show Kd.V k39 39 _ w.heap.size _ _ (rd_L3 t262 x9_1) from Kd.V_mk ul279_0 ge279_0)
                    clear hva_ hvn_ hvc_ ge279_0 ul279_0
                    clear hcc279 hce279
                    have HR279_0 := Aside0.mk hi279_0
                    have HC279_0 := Aside0.mk hl279_0
                    clear hi279_0 hl279_0
                    replace p279 := eq_true p279
                    replace q279 := eq_true q279
                    have p281 : 0 ≤ (x9_1 : Int) := of_decide_eq_true (by first | (with_reducible assumption) | assumption)
                    have q281 : x9_1 < (t262.length : Int) := of_decide_eq_true (by first | (with_reducible assumption) | assumption)
                    obtain ⟨ad281, A281_0, c281_0, e281, hx281_0, hl281_0, hi281_0⟩ := at_L3 (Kd.N_reads' HO_7.out).2.2 x9_1 p281 q281
                    obtain rfl : ad279 = ad281 := (by injection e281)
                    obtain ⟨ce281, hce281, hMe281, hcc281⟩ := Kd.N_get HO_7.out [] x9_1 p281 (by first | exact q281 | exact of_decide_eq_true (by first | (with_reducible assumption) | assumption) | (have e_ := (Kd.N_reads' HO_7.out).1; omega))
                    obtain ⟨ua281_0, uc281_0, rfl, ul281_0, ge281_0⟩ := Kd.FK_slice_open hMe281
                    have hv281_0 := hcc281 0 _ rfl
                    rw [Nat.add_zero, show ((Kd.slice 39 k39)).sz = 1 from rfl, Nat.mul_one] at hv281_0
                    replace hv281_0 := Option.some.inj (hv281_0.symm.trans hx281_0)
                    injection hv281_0 with hva_ hvn_ hvc_
                    rw [hva_] at ge281_0
                    rw [hvc_] at ul281_0
                    have HL281_0 := Aside0.mk (show Kd.V k39 39 _ w.heap.size _ _ (rd_L3 t262 x9_1) from Kd.V_mk ul281_0 ge281_0)
                    clear hva_ hvn_ hvc_ ge281_0 ul281_0
                    clear hcc281 hce281
                    have HR281_0 := Aside0.mk hi281_0
                    have HC281_0 := Aside0.mk hl281_0
                    clear hi281_0 hl281_0
                    replace p281 := eq_true p281
                    replace q281 := eq_true q281
                    have p285 : 0 ≤ (x9_1 : Int) := of_decide_eq_true (by first | (with_reducible assumption) | assumption)
                    have q285 : x9_1 < (t262.length : Int) := of_decide_eq_true (by first | (with_reducible assumption) | assumption)
                    obtain ⟨ad285, A285_0, c285_0, e285, hx285_0, hl285_0, hi285_0⟩ := at_L3 (Kd.N_reads' HO_7.out).2.2 x9_1 p285 q285
                    obtain rfl : ad279 = ad285 := (by injection e285)
                    obtain ⟨ce285, hce285, hMe285, hcc285⟩ := Kd.N_get HO_7.out [] x9_1 p285 (by first | exact q285 | exact of_decide_eq_true (by first | (with_reducible assumption) | assumption) | (have e_ := (Kd.N_reads' HO_7.out).1; omega))
                    obtain ⟨ua285_0, uc285_0, rfl, ul285_0, ge285_0⟩ := Kd.FK_slice_open hMe285
                    have hv285_0 := hcc285 0 _ rfl
                    rw [Nat.add_zero, show ((Kd.slice 39 k39)).sz = 1 from rfl, Nat.mul_one] at hv285_0
                    replace hv285_0 := Option.some.inj (hv285_0.symm.trans hx285_0)
                    injection hv285_0 with hva_ hvn_ hvc_
                    rw [hva_] at ge285_0
                    rw [hvc_] at ul285_0
                    have HL285_0 := Aside0.mk (show Kd.V k39 39 _ w.heap.size _ _ (rd_L3 t262 x9_1) from Kd.V_mk ul285_0 ge285_0)
                    clear hva_ hvn_ hvc_ ge285_0 ul285_0
                    clear hcc285 hce285
                    have HR285_0 := Aside0.mk hi285_0
                    have HC285_0 := Aside0.mk hl285_0
                    clear hi285_0 hl285_0
                    replace p285 := eq_true p285
                    replace q285 := eq_true q285
                    have EQ281_0 := Aside0.mk (show A281_0 = A279_0 ∧ c281_0 = c279_0 from by have h_ := Option.some.inj (hx281_0.symm.trans hx279_0); injection h_ with h1_ h2_ h3_; exact ⟨h1_, h3_⟩)
                    have EQ285_0 := Aside0.mk (show A285_0 = A279_0 ∧ c285_0 = c279_0 from by have h_ := Option.some.inj (hx285_0.symm.trans hx279_0); injection h_ with h1_ h2_ h3_; exact ⟨h1_, h3_⟩)
                    refine start_ (n := 19) (S := fun w' => w'.cell? (ad279.add (x9_1).toNat) = some (.slice A279_0 (rd_L3 t262 x9_1).length c279_0) ∧ w'.cell? (ad279.add (x9_1).toNat) = some (.slice A281_0 (rd_L3 t262 x9_1).length c281_0) ∧ w'.cell? (ad279.add (x9_1).toNat) = some (.slice A285_0 (rd_L3 t262 x9_1).length c285_0)) (ds := []) #[false, false, false, false, false, false, false, false, false, false, false, false, false, false, false, false, false, false, false] (by kernel_rfl) rfl rfl ⟨hx279_0, hx281_0, hx285_0⟩ (fun hHeld => ?_); refine with_tabW flonglaw12_FillWords.tab10 flonglaw12_FillWords.bits10 (fun HT_ HW_ => ?_)
                    generalize wr.drew = w39 at HO_7 HO_8 HB HL279_0 HL281_0 HL285_0 HR279_0 HR281_0 HR285_0 hx279_0 hx281_0 hx285_0 hHeld ⊢
                    refine pure_ (i := 0) (N := some 41) (v := ?_) (a' := ?_) #[true, false, false, false, false, false, false, false, false, false, false, false, false, false, false, false, false, false, false] rfl rfl (any_of HT_.out (by kernel_rfl)) (fun _ _ _ h => h) (Or.inl ⟨by rfl, ?_⟩) ?_ ?_
                    rotate_left
                    · intro w'
                      go_simp
                      with_reducible rfl
                    rotate_left
                    · simp only [Act.put, List.setIfInBounds_toArray, List.set_cons_zero, List.set_cons_succ, i64_w, i32_w]
                      rfl
                    refine pure_ (i := 1) (N := some 42) (v := ?_) (a' := ?_) #[true, true, false, false, false, false, false, false, false, false, false, false, false, false, false, false, false, false, false] rfl rfl (any_of HT_.out (by kernel_rfl)) (fun _ _ _ h => h) (Or.inl ⟨by rfl, ?_⟩) ?_ ?_
                    rotate_left
                    · intro w'
                      go_simp
                      with_reducible rfl
                    rotate_left
                    · simp only [Act.put, List.setIfInBounds_toArray, List.set_cons_zero, List.set_cons_succ, i64_w, i32_w]
                      rfl
                    refine pure_ (i := 2) (N := some 43) (v := ?_) (a' := ?_) #[true, true, true, false, false, false, false, false, false, false, false, false, false, false, false, false, false, false, false] rfl rfl (any_of HT_.out (by kernel_rfl)) (fun _ _ _ h => h) (Or.inl ⟨by rfl, ?_⟩) ?_ ?_
                    rotate_left
                    · intro w'
                      go_simp
                      with_reducible rfl
                    rotate_left
                    · simp only [Act.put, List.setIfInBounds_toArray, List.set_cons_zero, List.set_cons_succ, i64_w, i32_w]
                      rfl
                    refine take_ (i := 3) (N := some 44) (v := ?_) (a' := ?_) #[true, true, true, true, false, false, false, false, false, false, false, false, false, false, false, false, false, false, false] rfl rfl (take_ofW HT_.out HW_.out (by kernel_rfl)) (fun _ _ _ h => h) (Or.inl ⟨by rfl, ?_⟩) hHeld ?_ ?_
                    rotate_left
                    · rintro w' ⟨s0, s1, s2⟩
                      go_simp
                      with_reducible rfl
                    rotate_left
                    · simp only [Act.put, List.setIfInBounds_toArray, List.set_cons_zero, List.set_cons_succ, i64_w, i32_w]
                      rfl
                    refine one_ (i := 4) (N := some 45) #[true, true, true, true, true, false, false, false, false, false, false, false, false, false, false, false, false, false, false] rfl rfl (one_of HT_.out (by kernel_rfl)) (by decide) (fun K hK => ?_)
                    refine goes_ Tryd.func12 (by kernel_rfl) rfl #[.slice A279_0 (rd_L3 t262 x9_1).length c279_0] (by rfl) rfl rfl (by (try simp only [List.map_toArray, List.map_cons, List.map_nil]); first | done | rfl | (simp only [List.length_drop, List.length_take]; rfl)) ?_
                    with_reducible refine (flongref03_Width.calls k1 _ _ (rd_L3 t262 x9_1) t280 _ ?side1 ?side2 A30.out).mono ?_
                    (case side1 => repeat (first | exact (by repeat (first | (with_reducible exact HR279_0.out) | (with_reducible refine Kd.C_alloc ?_ _) | (with_reducible refine Kd.C_drewN ?_ _) | (with_reducible refine Kd.C_drew ?_) | exact HR279_0.out)) | (with_reducible refine Kd.C_alloc ?_ _) | (with_reducible refine Kd.C_drewN ?_ _) | (with_reducible refine Kd.C_drew ?_)))
                    (case side2 => exact HC279_0.out)
                    rintro e w40 ⟨rfl, hb⟩
                    have HS0_ := (hb.cell (World.block_lt_of_cell? _ _ (hHeld.1))).trans (hHeld.1)
                    have HS1_ := (hb.cell (World.block_lt_of_cell? _ _ (hHeld.2.1))).trans (hHeld.2.1)
                    have HS2_ := (hb.cell (World.block_lt_of_cell? _ _ (hHeld.2.2))).trans (hHeld.2.2)
                    refine ⟨_, rfl, ?_⟩
                    have n0_ := Aside0.mk (Kd.N_below (by (with_reducible repeat (first | apply Kd.N_alloc | apply Kd.N_drewN | apply Kd.N_drew)); exact HO_7.out) hb)
                    have n1_ := Aside0.mk (Kd.N_below (by (with_reducible repeat (first | apply Kd.N_alloc | apply Kd.N_drewN | apply Kd.N_drew)); exact HO_8.out) hb)
                    have n2_ := Aside0.mk (Kd.V_below (by (with_reducible repeat (first | apply Kd.V_alloc | apply Kd.V_drewN | apply Kd.V_drew)); exact HL279_0.out) hb)
                    have n3_ := Aside0.mk (Kd.C_below (by repeat (first | (with_reducible exact HR279_0.out) | (with_reducible refine Kd.C_alloc ?_ _) | (with_reducible refine Kd.C_drewN ?_ _) | (with_reducible refine Kd.C_drew ?_) | exact HR279_0.out)) hb)
                    have n4_ := Aside0.mk (below_step (by repeat (first | (with_reducible first | exact HB.out | apply below_alloc | apply pw_below_drewN | apply below_drew1) | exact HB.out)) hb)
                    clear HO_7
                    clear HO_8
                    clear HL279_0
                    clear HR279_0
                    clear HB
                    have HO_7 := n0_
                    have HO_8 := n1_
                    have HL279_0 := n2_
                    have HR279_0 := n3_
                    have HB := n4_
                    clear n0_ n1_ n2_ n3_ n4_
                    try have HL281_0 := Aside0.mk (Kd.V_below HL281_0.out hb)
                    try have HR281_0 := Aside0.mk (Kd.C_below HR281_0.out hb)
                    try have HL285_0 := Aside0.mk (Kd.V_below HL285_0.out hb)
                    try have HR285_0 := Aside0.mk (Kd.C_below HR285_0.out hb)
                    (try clear hb)
                    (try clear hb2)
                    (try clear hk)
                    (try clear hi)
                    refine hK.out _ _ ⟨HS0_, HS1_, HS2_⟩ (fun hHeld => ?_)
                    clear hK K
                    refine norm_ (a' := ?_) ?_ ?_
                    rotate_left
                    · show Act.put _ (some 45) _ = _
                      simp only [Act.put, List.setIfInBounds_toArray, List.set_cons_zero, List.set_cons_succ, i64_w, i32_w]
                      rfl
                    refine pure_ (i := 5) (N := some 46) (v := ?_) (a' := ?_) #[true, true, true, true, true, true, false, false, false, false, false, false, false, false, false, false, false, false, false] rfl rfl (any_of HT_.out (by kernel_rfl)) (fun _ _ _ h => h) (Or.inl ⟨by rfl, ?_⟩) ?_ ?_
                    rotate_left
                    · intro w'
                      go_simp
                      with_reducible rfl
                    rotate_left
                    · simp only [Act.put, List.setIfInBounds_toArray, List.set_cons_zero, List.set_cons_succ, i64_w, i32_w]
                      rfl
                    refine pure_ (i := 6) (N := some 47) (v := ?_) (a' := ?_) #[true, true, true, true, true, true, true, false, false, false, false, false, false, false, false, false, false, false, false] rfl rfl (any_of HT_.out (by kernel_rfl)) (fun _ _ _ h => h) (Or.inl ⟨by rfl, ?_⟩) ?_ ?_
                    rotate_left
                    · intro w'
                      go_simp
                      with_reducible rfl
                    rotate_left
                    · simp only [Act.put, List.setIfInBounds_toArray, List.set_cons_zero, List.set_cons_succ, i64_w, i32_w]
                      rfl
                    refine pure_ (i := 7) (N := some 48) (v := ?_) (a' := ?_) #[true, true, true, true, true, true, true, true, false, false, false, false, false, false, false, false, false, false, false] rfl rfl (any_of HT_.out (by kernel_rfl)) (fun _ _ _ h => h) (Or.inl ⟨by rfl, ?_⟩) ?_ ?_
                    rotate_left
                    · intro w'
                      go_simp
                      with_reducible rfl
                    rotate_left
                    · simp only [Act.put, List.setIfInBounds_toArray, List.set_cons_zero, List.set_cons_succ, i64_w, i32_w]
                      rfl
                    refine pure_ (i := 8) (N := some 49) (v := ?_) (a' := ?_) #[true, true, true, true, true, true, true, true, true, false, false, false, false, false, false, false, false, false, false] rfl rfl (any_of HT_.out (by kernel_rfl)) (fun _ _ _ h => h) (Or.inl ⟨by rfl, ?_⟩) ?_ ?_
                    rotate_left
                    · intro w'
                      go_simp
                      with_reducible rfl
                    rotate_left
                    · simp only [Act.put, List.setIfInBounds_toArray, List.set_cons_zero, List.set_cons_succ, i64_w, i32_w]
                      rfl
                    refine pure_ (i := 9) (N := some 50) (v := ?_) (a' := ?_) #[true, true, true, true, true, true, true, true, true, true, false, false, false, false, false, false, false, false, false] rfl rfl (any_of HT_.out (by kernel_rfl)) (fun _ _ _ h => h) (Or.inl ⟨by rfl, ?_⟩) ?_ ?_
                    rotate_left
                    · intro w'
                      go_simp
                      with_reducible rfl
                    rotate_left
                    · simp only [Act.put, List.setIfInBounds_toArray, List.set_cons_zero, List.set_cons_succ, i64_w, i32_w]
                      rfl
                    refine pure_ (i := 12) (N := some 53) (v := ?_) (a' := ?_) #[true, true, true, true, true, true, true, true, true, true, false, false, true, false, false, false, false, false, false] rfl rfl (any_of HT_.out (by kernel_rfl)) (fun _ _ _ h => h) (Or.inl ⟨by rfl, ?_⟩) ?_ ?_
                    rotate_left
                    · intro w'
                      go_simp
                      with_reducible rfl
                    rotate_left
                    · simp only [Act.put, List.setIfInBounds_toArray, List.set_cons_zero, List.set_cons_succ, i64_w, i32_w]
                      rfl
                    refine pure_ (i := 13) (N := some 54) (v := ?_) (a' := ?_) #[true, true, true, true, true, true, true, true, true, true, false, false, true, true, false, false, false, false, false] rfl rfl (any_of HT_.out (by kernel_rfl)) (fun _ _ _ h => h) (Or.inl ⟨by rfl, ?_⟩) ?_ ?_
                    rotate_left
                    · intro w'
                      go_simp
                      with_reducible rfl
                    rotate_left
                    · simp only [Act.put, List.setIfInBounds_toArray, List.set_cons_zero, List.set_cons_succ, i64_w, i32_w]
                      rfl
                    refine pure_ (i := 14) (N := some 55) (v := ?_) (a' := ?_) #[true, true, true, true, true, true, true, true, true, true, false, false, true, true, true, false, false, false, false] rfl rfl (any_of HT_.out (by kernel_rfl)) (fun _ _ _ h => h) (Or.inl ⟨by rfl, ?_⟩) ?_ ?_
                    rotate_left
                    · intro w'
                      go_simp
                      with_reducible rfl
                    rotate_left
                    · simp only [Act.put, List.setIfInBounds_toArray, List.set_cons_zero, List.set_cons_succ, i64_w, i32_w]
                      rfl
                    refine take_ (i := 10) (N := some 51) (v := ?_) (a' := ?_) #[true, true, true, true, true, true, true, true, true, true, true, false, true, true, true, false, false, false, false] rfl rfl (take_ofW HT_.out HW_.out (by kernel_rfl)) (fun _ _ _ h => h) (Or.inl ⟨by rfl, ?_⟩) hHeld ?_ ?_
                    rotate_left
                    · rintro w' ⟨s0, s1, s2⟩
                      go_simp
                      with_reducible rfl
                    rotate_left
                    · simp only [Act.put, List.setIfInBounds_toArray, List.set_cons_zero, List.set_cons_succ, i64_w, i32_w]
                      rfl
                    refine take_ (i := 15) (N := some 56) (v := ?_) (a' := ?_) #[true, true, true, true, true, true, true, true, true, true, true, false, true, true, true, true, false, false, false] rfl rfl (take_ofW HT_.out HW_.out (by kernel_rfl)) (fun _ _ _ h => h) (Or.inl ⟨by rfl, ?_⟩) hHeld ?_ ?_
                    rotate_left
                    · rintro w' ⟨s0, s1, s2⟩
                      go_simp
                      with_reducible rfl
                    rotate_left
                    · simp only [Act.put, List.setIfInBounds_toArray, List.set_cons_zero, List.set_cons_succ, i64_w, i32_w]
                      rfl
                    refine one_ (i := 11) (N := some 52) #[true, true, true, true, true, true, true, true, true, true, true, true, true, true, true, true, false, false, false] rfl rfl (one_of HT_.out (by kernel_rfl)) (by decide) (fun K hK => ?_)
                    refine goes_ Tryd.func14 (by kernel_rfl) rfl #[.slice A281_0 (rd_L3 t262 x9_1).length c281_0] (by rfl) rfl rfl (by (try simp only [List.map_toArray, List.map_cons, List.map_nil]); first | done | rfl | (simp only [EQ281_0.out.1, EQ281_0.out.2]; done) | (simp only [EQ281_0.out.1, EQ281_0.out.2]; rfl) | (simp only [List.length_drop, List.length_take]; rfl)) ?_
                    with_reducible refine (flongref03_Clean.calls k1 _ _ (rd_L3 t262 x9_1) t282 _ ?side1 ?side2 A35.out).mono ?_
                    (case side1 => repeat (first | exact (by repeat (first | (with_reducible exact HR281_0.out) | (with_reducible refine Kd.C_alloc ?_ _) | (with_reducible refine Kd.C_drewN ?_ _) | (with_reducible refine Kd.C_drew ?_) | exact HR281_0.out)) | (with_reducible refine Kd.C_alloc ?_ _) | (with_reducible refine Kd.C_drewN ?_ _) | (with_reducible refine Kd.C_drew ?_)))
                    (case side2 => exact HC281_0.out)
                    rintro e w41 ⟨v283, rfl, ho0, hb⟩
                    have HS0_ := (hb.cell (World.block_lt_of_cell? _ _ (hHeld.1))).trans (hHeld.1)
                    have HS1_ := (hb.cell (World.block_lt_of_cell? _ _ (hHeld.2.1))).trans (hHeld.2.1)
                    have HS2_ := (hb.cell (World.block_lt_of_cell? _ _ (hHeld.2.2))).trans (hHeld.2.2)
                    refine ⟨_, rfl, ?_⟩
                    have n0_ := Aside0.mk (Kd.N_elder' (by (with_reducible repeat (first | apply Kd.N_alloc | apply Kd.N_drewN | apply Kd.N_drew)); exact HO_7.out) (Kd.R_base ho0) hb)
                    have n1_ := Aside0.mk (Kd.N_elder' (by (with_reducible repeat (first | apply Kd.N_alloc | apply Kd.N_drewN | apply Kd.N_drew)); exact HO_8.out) (Kd.R_base ho0) hb)
                    have n2_ := Aside0.mk (Kd.V_elder' (by (with_reducible repeat (first | apply Kd.V_alloc | apply Kd.V_drewN | apply Kd.V_drew)); exact HL279_0.out) (Kd.R_base ho0) hb)
                    have n3_ := Aside0.mk (Kd.V_elder' (by (with_reducible repeat (first | apply Kd.V_alloc | apply Kd.V_drewN | apply Kd.V_drew)); exact HL281_0.out) (Kd.R_base ho0) hb)
                    have n4_ := Aside0.mk (Kd.R_lower ho0 (below_size (by repeat (first | (with_reducible first | exact HB.out | apply below_alloc | apply pw_below_drewN | apply below_drew1) | exact HB.out))))
                    have n5_ := Aside0.mk (Kd.C_below (by repeat (first | (with_reducible exact HR279_0.out) | (with_reducible refine Kd.C_alloc ?_ _) | (with_reducible refine Kd.C_drewN ?_ _) | (with_reducible refine Kd.C_drew ?_) | exact HR279_0.out)) hb)
                    have n6_ := Aside0.mk (Kd.C_below (by repeat (first | (with_reducible exact HR281_0.out) | (with_reducible refine Kd.C_alloc ?_ _) | (with_reducible refine Kd.C_drewN ?_ _) | (with_reducible refine Kd.C_drew ?_) | exact HR281_0.out)) hb)
                    have n7_ := Aside0.mk (below_step (by repeat (first | (with_reducible first | exact HB.out | apply below_alloc | apply pw_below_drewN | apply below_drew1) | exact HB.out)) hb)
                    clear HO_7
                    clear HO_8
                    clear HL279_0
                    clear HL281_0
                    clear HR279_0
                    clear HR281_0
                    clear HB
                    have HO_7 := n0_
                    have HO_8 := n1_
                    have HL279_0 := n2_
                    have HL281_0 := n3_
                    have HO284 := n4_
                    have HR279_0 := n5_
                    have HR281_0 := n6_
                    have HB := n7_
                    clear n0_ n1_ n2_ n3_ n4_ n5_ n6_ n7_
                    try have HL285_0 := Aside0.mk (Kd.V_below HL285_0.out hb)
                    try have HR285_0 := Aside0.mk (Kd.C_below HR285_0.out hb)
                    (try clear hb)
                    (try clear hb2)
                    (try clear hk)
                    (try clear hi)
                    (try clear ho0)
                    obtain ⟨Ao42, co42, eo42⟩ := Kd.R_slice HO284.out
                    (first | subst eo42 | (injection eo42 with f1_ f2_ f3_; have f4_ := f1_.symm; have f5_ := f3_.symm; clear f1_ f2_ f3_; subst f4_; subst f5_))
                    refine hK.out _ _ ⟨HS0_, HS1_, HS2_⟩ (fun hHeld => ?_)
                    clear hK K
                    refine norm_ (a' := ?_) ?_ ?_
                    rotate_left
                    · show Act.put _ (some 52) _ = _
                      simp only [Act.put, List.setIfInBounds_toArray, List.set_cons_zero, List.set_cons_succ, i64_w, i32_w]
                      rfl
                    refine one_ (i := 16) (N := some 57) #[true, true, true, true, true, true, true, true, true, true, true, true, true, true, true, true, true, false, false] rfl rfl (one_of HT_.out (by kernel_rfl)) (by decide) (fun K hK => ?_)
                    refine goes_ Tryd.func13 (by kernel_rfl) rfl #[.slice Ao42 t282.length co42, .slice A285_0 (rd_L3 t262 x9_1).length c285_0] (by rfl) rfl rfl (by (try simp only [List.map_toArray, List.map_cons, List.map_nil]); first | done | rfl | (simp only [EQ285_0.out.1, EQ285_0.out.2]; done) | (simp only [EQ285_0.out.1, EQ285_0.out.2]; rfl) | (simp only [List.length_drop, List.length_take]; rfl)) ?_
                    with_reducible refine (flongref03_Same.calls k1 _ _ t282 _ _ (rd_L3 t262 x9_1) true _ ?side1 ?side2 ?side3 ?side4 A36.out).mono ?_
                    (case side1 => repeat (first | exact (Kd.R_reads' HO284.out).2.2 | (with_reducible refine Kd.C_alloc ?_ _) | (with_reducible refine Kd.C_drewN ?_ _) | (with_reducible refine Kd.C_drew ?_)))
                    (case side2 => exact (Kd.R_reads' HO284.out).2.1)
                    (case side3 => repeat (first | exact (by repeat (first | (with_reducible exact HR285_0.out) | (with_reducible refine Kd.C_alloc ?_ _) | (with_reducible refine Kd.C_drewN ?_ _) | (with_reducible refine Kd.C_drew ?_) | exact HR285_0.out)) | (with_reducible refine Kd.C_alloc ?_ _) | (with_reducible refine Kd.C_drewN ?_ _) | (with_reducible refine Kd.C_drew ?_)))
                    (case side4 => exact HC285_0.out)
                    rintro e w' ⟨rfl, ⟨nd, rfl⟩⟩
                    refine ⟨_, rfl, ?_⟩
                    refine hK.out _ _ ⟨hHeld.1, hHeld.2.1, hHeld.2.2⟩ (fun hHeld => ?_)
                    clear hK K
                    refine norm_ (a' := ?_) ?_ ?_
                    rotate_left
                    · show Act.put _ (some 57) _ = _
                      simp only [Act.put, List.setIfInBounds_toArray, List.set_cons_zero, List.set_cons_succ, i64_w, i32_w]
                      rfl
                    refine pure_ (i := 17) (N := some 58) (v := ?_) (a' := ?_) #[true, true, true, true, true, true, true, true, true, true, true, true, true, true, true, true, true, true, false] rfl rfl (any_of HT_.out (by kernel_rfl)) (fun _ _ _ h => h) (Or.inl ⟨by rfl, ?_⟩) ?_ ?_
                    rotate_left
                    · intro w'
                      go_simp
                      with_reducible rfl
                    rotate_left
                    · simp only [Act.put, List.setIfInBounds_toArray, List.set_cons_zero, List.set_cons_succ, i64_w, i32_w]
                      rfl
                    refine pure_ (i := 18) (N := some 59) (v := ?_) (a' := ?_) #[true, true, true, true, true, true, true, true, true, true, true, true, true, true, true, true, true, true, true] rfl rfl (any_of HT_.out (by kernel_rfl)) (fun _ _ _ h => h) (Or.inl ⟨by rfl, ?_⟩) ?_ ?_
                    rotate_left
                    · intro w'
                      go_simp
                      with_reducible rfl
                    rotate_left
                    · simp only [Act.put, List.setIfInBounds_toArray, List.set_cons_zero, List.set_cons_succ, i64_w, i32_w]
                      rfl
                    refine done_ (done_of HT_.out (by kernel_rfl)) ?_
                    try go_wp2
                    go_roundg k1
                    case measure => have := HK1.out; omega
                    case rel => exact ⟨(wrap64 (x9_1 + 1)), (by first | rfl | (simp; done) | (simp [*]; done)), H', ⟨by have := HK1.out; omega⟩, ⟨by (with_reducible repeat (first | apply Kd.N_alloc | apply Kd.N_drewN | apply Kd.N_drew)); exact Kd.N_mono HO_7.out (fun _ hk => hk.1)⟩, ⟨by (with_reducible repeat (first | apply Kd.N_alloc | apply Kd.N_drewN | apply Kd.N_drew)); exact Kd.N_mono HO_8.out (fun _ hk => hk.1)⟩, ⟨by repeat (first | (with_reducible first | exact HB.out | apply below_alloc | apply pw_below_drewN | apply below_drew1) | exact HB.out)⟩⟩
                  · replace c37 := Bool.eq_false_iff.mpr c37
                    subst c37
                    have H1 : (some false) = some r := by rw [if_neg (show ¬ (false = true) by decide)] at H; exact H
                    clear H
                    have H := H1
                    clear H1
                    obtain rfl := Option.some.inj H
                    obtain ⟨Ao43, co43, eo43⟩ := Kd.N_slice HO_7.out
                    subst eo43
                    try go_wp2
                    have n0_ := Aside0.mk (Kd.N_drew HO_7.out)
                    have n1_ := Aside0.mk (Kd.N_drew HO_8.out)
                    have n2_ := Aside0.mk (below_drew1 HB.out)
                    clear HO_7
                    clear HO_8
                    clear HB
                    have HO_7 := n0_
                    have HO_8 := n1_
                    have HB := n2_
                    clear n0_ n1_ n2_
                    have p279 : 0 ≤ (x9_1 : Int) := of_decide_eq_true (by first | (with_reducible assumption) | assumption)
                    have q279 : x9_1 < (t262.length : Int) := of_decide_eq_true (by first | (with_reducible assumption) | assumption)
                    obtain ⟨ad279, A279_0, c279_0, e279, hx279_0, hl279_0, hi279_0⟩ := at_L3 (Kd.N_reads' HO_7.out).2.2 x9_1 p279 q279
                    cases e279
                    obtain ⟨ce279, hce279, hMe279, hcc279⟩ := Kd.N_get HO_7.out [] x9_1 p279 (by first | exact q279 | exact of_decide_eq_true (by first | (with_reducible assumption) | assumption) | (have e_ := (Kd.N_reads' HO_7.out).1; omega))
                    obtain ⟨ua279_0, uc279_0, rfl, ul279_0, ge279_0⟩ := Kd.FK_slice_open hMe279
                    have hv279_0 := hcc279 0 _ rfl
                    rw [Nat.add_zero, show ((Kd.slice 39 k39)).sz = 1 from rfl, Nat.mul_one] at hv279_0
                    replace hv279_0 := Option.some.inj (hv279_0.symm.trans hx279_0)
                    injection hv279_0 with hva_ hvn_ hvc_
                    rw [hva_] at ge279_0
                    rw [hvc_] at ul279_0
                    have HL279_0 := Aside0.mk (show Kd.V k39 39 _ w.heap.size _ _ (rd_L3 t262 x9_1) from Kd.V_mk ul279_0 ge279_0)
                    clear hva_ hvn_ hvc_ ge279_0 ul279_0
                    clear hcc279 hce279
                    have HR279_0 := Aside0.mk hi279_0
                    have HC279_0 := Aside0.mk hl279_0
                    clear hi279_0 hl279_0
                    replace p279 := eq_true p279
                    replace q279 := eq_true q279
                    have p281 : 0 ≤ (x9_1 : Int) := of_decide_eq_true (by first | (with_reducible assumption) | assumption)
                    have q281 : x9_1 < (t262.length : Int) := of_decide_eq_true (by first | (with_reducible assumption) | assumption)
                    obtain ⟨ad281, A281_0, c281_0, e281, hx281_0, hl281_0, hi281_0⟩ := at_L3 (Kd.N_reads' HO_7.out).2.2 x9_1 p281 q281
                    obtain rfl : ad279 = ad281 := (by injection e281)
                    obtain ⟨ce281, hce281, hMe281, hcc281⟩ := Kd.N_get HO_7.out [] x9_1 p281 (by first | exact q281 | exact of_decide_eq_true (by first | (with_reducible assumption) | assumption) | (have e_ := (Kd.N_reads' HO_7.out).1; omega))
                    obtain ⟨ua281_0, uc281_0, rfl, ul281_0, ge281_0⟩ := Kd.FK_slice_open hMe281
                    have hv281_0 := hcc281 0 _ rfl
                    rw [Nat.add_zero, show ((Kd.slice 39 k39)).sz = 1 from rfl, Nat.mul_one] at hv281_0
                    replace hv281_0 := Option.some.inj (hv281_0.symm.trans hx281_0)
                    injection hv281_0 with hva_ hvn_ hvc_
                    rw [hva_] at ge281_0
                    rw [hvc_] at ul281_0
                    have HL281_0 := Aside0.mk (show Kd.V k39 39 _ w.heap.size _ _ (rd_L3 t262 x9_1) from Kd.V_mk ul281_0 ge281_0)
                    clear hva_ hvn_ hvc_ ge281_0 ul281_0
                    clear hcc281 hce281
                    have HR281_0 := Aside0.mk hi281_0
                    have HC281_0 := Aside0.mk hl281_0
                    clear hi281_0 hl281_0
                    replace p281 := eq_true p281
                    replace q281 := eq_true q281
                    have p285 : 0 ≤ (x9_1 : Int) := of_decide_eq_true (by first | (with_reducible assumption) | assumption)
                    have q285 : x9_1 < (t262.length : Int) := of_decide_eq_true (by first | (with_reducible assumption) | assumption)
                    obtain ⟨ad285, A285_0, c285_0, e285, hx285_0, hl285_0, hi285_0⟩ := at_L3 (Kd.N_reads' HO_7.out).2.2 x9_1 p285 q285
                    obtain rfl : ad279 = ad285 := (by injection e285)
                    obtain ⟨ce285, hce285, hMe285, hcc285⟩ := Kd.N_get HO_7.out [] x9_1 p285 (by first | exact q285 | exact of_decide_eq_true (by first | (with_reducible assumption) | assumption) | (have e_ := (Kd.N_reads' HO_7.out).1; omega))
                    obtain ⟨ua285_0, uc285_0, rfl, ul285_0, ge285_0⟩ := Kd.FK_slice_open hMe285
                    have hv285_0 := hcc285 0 _ rfl
                    rw [Nat.add_zero, show ((Kd.slice 39 k39)).sz = 1 from rfl, Nat.mul_one] at hv285_0
                    replace hv285_0 := Option.some.inj (hv285_0.symm.trans hx285_0)
                    injection hv285_0 with hva_ hvn_ hvc_
                    rw [hva_] at ge285_0
                    rw [hvc_] at ul285_0
                    have HL285_0 := Aside0.mk (show Kd.V k39 39 _ w.heap.size _ _ (rd_L3 t262 x9_1) from Kd.V_mk ul285_0 ge285_0)
                    clear hva_ hvn_ hvc_ ge285_0 ul285_0
                    clear hcc285 hce285
                    have HR285_0 := Aside0.mk hi285_0
                    have HC285_0 := Aside0.mk hl285_0
                    clear hi285_0 hl285_0
                    replace p285 := eq_true p285
                    replace q285 := eq_true q285
                    have EQ281_0 := Aside0.mk (show A281_0 = A279_0 ∧ c281_0 = c279_0 from by have h_ := Option.some.inj (hx281_0.symm.trans hx279_0); injection h_ with h1_ h2_ h3_; exact ⟨h1_, h3_⟩)
                    have EQ285_0 := Aside0.mk (show A285_0 = A279_0 ∧ c285_0 = c279_0 from by have h_ := Option.some.inj (hx285_0.symm.trans hx279_0); injection h_ with h1_ h2_ h3_; exact ⟨h1_, h3_⟩)
                    refine start_ (n := 19) (S := fun w' => w'.cell? (ad279.add (x9_1).toNat) = some (.slice A279_0 (rd_L3 t262 x9_1).length c279_0) ∧ w'.cell? (ad279.add (x9_1).toNat) = some (.slice A281_0 (rd_L3 t262 x9_1).length c281_0) ∧ w'.cell? (ad279.add (x9_1).toNat) = some (.slice A285_0 (rd_L3 t262 x9_1).length c285_0)) (ds := []) #[false, false, false, false, false, false, false, false, false, false, false, false, false, false, false, false, false, false, false] (by kernel_rfl) rfl rfl ⟨hx279_0, hx281_0, hx285_0⟩ (fun hHeld => ?_); refine with_tabW flonglaw12_FillWords.tab10 flonglaw12_FillWords.bits10 (fun HT_ HW_ => ?_)
                    generalize wr.drew = w44 at HO_7 HO_8 HB HL279_0 HL281_0 HL285_0 HR279_0 HR281_0 HR285_0 hx279_0 hx281_0 hx285_0 hHeld ⊢
                    refine pure_ (i := 0) (N := some 41) (v := ?_) (a' := ?_) #[true, false, false, false, false, false, false, false, false, false, false, false, false, false, false, false, false, false, false] rfl rfl (any_of HT_.out (by kernel_rfl)) (fun _ _ _ h => h) (Or.inl ⟨by rfl, ?_⟩) ?_ ?_
                    rotate_left
                    · intro w'
                      go_simp
                      with_reducible rfl
                    rotate_left
                    · simp only [Act.put, List.setIfInBounds_toArray, List.set_cons_zero, List.set_cons_succ, i64_w, i32_w]
                      rfl
                    refine pure_ (i := 1) (N := some 42) (v := ?_) (a' := ?_) #[true, true, false, false, false, false, false, false, false, false, false, false, false, false, false, false, false, false, false] rfl rfl (any_of HT_.out (by kernel_rfl)) (fun _ _ _ h => h) (Or.inl ⟨by rfl, ?_⟩) ?_ ?_
                    rotate_left
                    · intro w'
                      go_simp
                      with_reducible rfl
                    rotate_left
                    · simp only [Act.put, List.setIfInBounds_toArray, List.set_cons_zero, List.set_cons_succ, i64_w, i32_w]
                      rfl
                    refine pure_ (i := 2) (N := some 43) (v := ?_) (a' := ?_) #[true, true, true, false, false, false, false, false, false, false, false, false, false, false, false, false, false, false, false] rfl rfl (any_of HT_.out (by kernel_rfl)) (fun _ _ _ h => h) (Or.inl ⟨by rfl, ?_⟩) ?_ ?_
                    rotate_left
                    · intro w'
                      go_simp
                      with_reducible rfl
                    rotate_left
                    · simp only [Act.put, List.setIfInBounds_toArray, List.set_cons_zero, List.set_cons_succ, i64_w, i32_w]
                      rfl
                    refine take_ (i := 3) (N := some 44) (v := ?_) (a' := ?_) #[true, true, true, true, false, false, false, false, false, false, false, false, false, false, false, false, false, false, false] rfl rfl (take_ofW HT_.out HW_.out (by kernel_rfl)) (fun _ _ _ h => h) (Or.inl ⟨by rfl, ?_⟩) hHeld ?_ ?_
                    rotate_left
                    · rintro w' ⟨s0, s1, s2⟩
                      go_simp
                      with_reducible rfl
                    rotate_left
                    · simp only [Act.put, List.setIfInBounds_toArray, List.set_cons_zero, List.set_cons_succ, i64_w, i32_w]
                      rfl
                    refine one_ (i := 4) (N := some 45) #[true, true, true, true, true, false, false, false, false, false, false, false, false, false, false, false, false, false, false] rfl rfl (one_of HT_.out (by kernel_rfl)) (by decide) (fun K hK => ?_)
                    refine goes_ Tryd.func12 (by kernel_rfl) rfl #[.slice A279_0 (rd_L3 t262 x9_1).length c279_0] (by rfl) rfl rfl (by (try simp only [List.map_toArray, List.map_cons, List.map_nil]); first | done | rfl | (simp only [List.length_drop, List.length_take]; rfl)) ?_
                    with_reducible refine (flongref03_Width.calls k1 _ _ (rd_L3 t262 x9_1) t280 _ ?side1 ?side2 A30.out).mono ?_
                    (case side1 => repeat (first | exact (by repeat (first | (with_reducible exact HR279_0.out) | (with_reducible refine Kd.C_alloc ?_ _) | (with_reducible refine Kd.C_drewN ?_ _) | (with_reducible refine Kd.C_drew ?_) | exact HR279_0.out)) | (with_reducible refine Kd.C_alloc ?_ _) | (with_reducible refine Kd.C_drewN ?_ _) | (with_reducible refine Kd.C_drew ?_)))
                    (case side2 => exact HC279_0.out)
                    rintro e w45 ⟨rfl, hb⟩
                    have HS0_ := (hb.cell (World.block_lt_of_cell? _ _ (hHeld.1))).trans (hHeld.1)
                    have HS1_ := (hb.cell (World.block_lt_of_cell? _ _ (hHeld.2.1))).trans (hHeld.2.1)
                    have HS2_ := (hb.cell (World.block_lt_of_cell? _ _ (hHeld.2.2))).trans (hHeld.2.2)
                    refine ⟨_, rfl, ?_⟩
                    have n0_ := Aside0.mk (Kd.N_below (by (with_reducible repeat (first | apply Kd.N_alloc | apply Kd.N_drewN | apply Kd.N_drew)); exact HO_7.out) hb)
                    have n1_ := Aside0.mk (Kd.N_below (by (with_reducible repeat (first | apply Kd.N_alloc | apply Kd.N_drewN | apply Kd.N_drew)); exact HO_8.out) hb)
                    have n2_ := Aside0.mk (Kd.V_below (by (with_reducible repeat (first | apply Kd.V_alloc | apply Kd.V_drewN | apply Kd.V_drew)); exact HL279_0.out) hb)
                    have n3_ := Aside0.mk (Kd.C_below (by repeat (first | (with_reducible exact HR279_0.out) | (with_reducible refine Kd.C_alloc ?_ _) | (with_reducible refine Kd.C_drewN ?_ _) | (with_reducible refine Kd.C_drew ?_) | exact HR279_0.out)) hb)
                    have n4_ := Aside0.mk (below_step (by repeat (first | (with_reducible first | exact HB.out | apply below_alloc | apply pw_below_drewN | apply below_drew1) | exact HB.out)) hb)
                    clear HO_7
                    clear HO_8
                    clear HL279_0
                    clear HR279_0
                    clear HB
                    have HO_7 := n0_
                    have HO_8 := n1_
                    have HL279_0 := n2_
                    have HR279_0 := n3_
                    have HB := n4_
                    clear n0_ n1_ n2_ n3_ n4_
                    try have HL281_0 := Aside0.mk (Kd.V_below HL281_0.out hb)
                    try have HR281_0 := Aside0.mk (Kd.C_below HR281_0.out hb)
                    try have HR285_0 := Aside0.mk (Kd.C_below HR285_0.out hb)
                    (try clear hb)
                    (try clear hb2)
                    (try clear hk)
                    (try clear hi)
                    refine hK.out _ _ ⟨HS0_, HS1_, HS2_⟩ (fun hHeld => ?_)
                    clear hK K
                    refine norm_ (a' := ?_) ?_ ?_
                    rotate_left
                    · show Act.put _ (some 45) _ = _
                      simp only [Act.put, List.setIfInBounds_toArray, List.set_cons_zero, List.set_cons_succ, i64_w, i32_w]
                      rfl
                    refine pure_ (i := 5) (N := some 46) (v := ?_) (a' := ?_) #[true, true, true, true, true, true, false, false, false, false, false, false, false, false, false, false, false, false, false] rfl rfl (any_of HT_.out (by kernel_rfl)) (fun _ _ _ h => h) (Or.inl ⟨by rfl, ?_⟩) ?_ ?_
                    rotate_left
                    · intro w'
                      go_simp
                      with_reducible rfl
                    rotate_left
                    · simp only [Act.put, List.setIfInBounds_toArray, List.set_cons_zero, List.set_cons_succ, i64_w, i32_w]
                      rfl
                    refine pure_ (i := 6) (N := some 47) (v := ?_) (a' := ?_) #[true, true, true, true, true, true, true, false, false, false, false, false, false, false, false, false, false, false, false] rfl rfl (any_of HT_.out (by kernel_rfl)) (fun _ _ _ h => h) (Or.inl ⟨by rfl, ?_⟩) ?_ ?_
                    rotate_left
                    · intro w'
                      go_simp
                      with_reducible rfl
                    rotate_left
                    · simp only [Act.put, List.setIfInBounds_toArray, List.set_cons_zero, List.set_cons_succ, i64_w, i32_w]
                      rfl
                    refine pure_ (i := 7) (N := some 48) (v := ?_) (a' := ?_) #[true, true, true, true, true, true, true, true, false, false, false, false, false, false, false, false, false, false, false] rfl rfl (any_of HT_.out (by kernel_rfl)) (fun _ _ _ h => h) (Or.inl ⟨by rfl, ?_⟩) ?_ ?_
                    rotate_left
                    · intro w'
                      go_simp
                      with_reducible rfl
                    rotate_left
                    · simp only [Act.put, List.setIfInBounds_toArray, List.set_cons_zero, List.set_cons_succ, i64_w, i32_w]
                      rfl
                    refine pure_ (i := 8) (N := some 49) (v := ?_) (a' := ?_) #[true, true, true, true, true, true, true, true, true, false, false, false, false, false, false, false, false, false, false] rfl rfl (any_of HT_.out (by kernel_rfl)) (fun _ _ _ h => h) (Or.inl ⟨by rfl, ?_⟩) ?_ ?_
                    rotate_left
                    · intro w'
                      go_simp
                      with_reducible rfl
                    rotate_left
                    · simp only [Act.put, List.setIfInBounds_toArray, List.set_cons_zero, List.set_cons_succ, i64_w, i32_w]
                      rfl
                    refine pure_ (i := 9) (N := some 50) (v := ?_) (a' := ?_) #[true, true, true, true, true, true, true, true, true, true, false, false, false, false, false, false, false, false, false] rfl rfl (any_of HT_.out (by kernel_rfl)) (fun _ _ _ h => h) (Or.inl ⟨by rfl, ?_⟩) ?_ ?_
                    rotate_left
                    · intro w'
                      go_simp
                      with_reducible rfl
                    rotate_left
                    · simp only [Act.put, List.setIfInBounds_toArray, List.set_cons_zero, List.set_cons_succ, i64_w, i32_w]
                      rfl
                    refine pure_ (i := 12) (N := some 53) (v := ?_) (a' := ?_) #[true, true, true, true, true, true, true, true, true, true, false, false, true, false, false, false, false, false, false] rfl rfl (any_of HT_.out (by kernel_rfl)) (fun _ _ _ h => h) (Or.inl ⟨by rfl, ?_⟩) ?_ ?_
                    rotate_left
                    · intro w'
                      go_simp
                      with_reducible rfl
                    rotate_left
                    · simp only [Act.put, List.setIfInBounds_toArray, List.set_cons_zero, List.set_cons_succ, i64_w, i32_w]
                      rfl
                    refine pure_ (i := 13) (N := some 54) (v := ?_) (a' := ?_) #[true, true, true, true, true, true, true, true, true, true, false, false, true, true, false, false, false, false, false] rfl rfl (any_of HT_.out (by kernel_rfl)) (fun _ _ _ h => h) (Or.inl ⟨by rfl, ?_⟩) ?_ ?_
                    rotate_left
                    · intro w'
                      go_simp
                      with_reducible rfl
                    rotate_left
                    · simp only [Act.put, List.setIfInBounds_toArray, List.set_cons_zero, List.set_cons_succ, i64_w, i32_w]
                      rfl
                    refine pure_ (i := 14) (N := some 55) (v := ?_) (a' := ?_) #[true, true, true, true, true, true, true, true, true, true, false, false, true, true, true, false, false, false, false] rfl rfl (any_of HT_.out (by kernel_rfl)) (fun _ _ _ h => h) (Or.inl ⟨by rfl, ?_⟩) ?_ ?_
                    rotate_left
                    · intro w'
                      go_simp
                      with_reducible rfl
                    rotate_left
                    · simp only [Act.put, List.setIfInBounds_toArray, List.set_cons_zero, List.set_cons_succ, i64_w, i32_w]
                      rfl
                    refine take_ (i := 10) (N := some 51) (v := ?_) (a' := ?_) #[true, true, true, true, true, true, true, true, true, true, true, false, true, true, true, false, false, false, false] rfl rfl (take_ofW HT_.out HW_.out (by kernel_rfl)) (fun _ _ _ h => h) (Or.inl ⟨by rfl, ?_⟩) hHeld ?_ ?_
                    rotate_left
                    · rintro w' ⟨s0, s1, s2⟩
                      go_simp
                      with_reducible rfl
                    rotate_left
                    · simp only [Act.put, List.setIfInBounds_toArray, List.set_cons_zero, List.set_cons_succ, i64_w, i32_w]
                      rfl
                    refine take_ (i := 15) (N := some 56) (v := ?_) (a' := ?_) #[true, true, true, true, true, true, true, true, true, true, true, false, true, true, true, true, false, false, false] rfl rfl (take_ofW HT_.out HW_.out (by kernel_rfl)) (fun _ _ _ h => h) (Or.inl ⟨by rfl, ?_⟩) hHeld ?_ ?_
                    rotate_left
                    · rintro w' ⟨s0, s1, s2⟩
                      go_simp
                      with_reducible rfl
                    rotate_left
                    · simp only [Act.put, List.setIfInBounds_toArray, List.set_cons_zero, List.set_cons_succ, i64_w, i32_w]
                      rfl
                    refine one_ (i := 11) (N := some 52) #[true, true, true, true, true, true, true, true, true, true, true, true, true, true, true, true, false, false, false] rfl rfl (one_of HT_.out (by kernel_rfl)) (by decide) (fun K hK => ?_)
                    refine goes_ Tryd.func14 (by kernel_rfl) rfl #[.slice A281_0 (rd_L3 t262 x9_1).length c281_0] (by rfl) rfl rfl (by (try simp only [List.map_toArray, List.map_cons, List.map_nil]); first | done | rfl | (simp only [EQ281_0.out.1, EQ281_0.out.2]; done) | (simp only [EQ281_0.out.1, EQ281_0.out.2]; rfl) | (simp only [List.length_drop, List.length_take]; rfl)) ?_
                    with_reducible refine (flongref03_Clean.calls k1 _ _ (rd_L3 t262 x9_1) t282 _ ?side1 ?side2 A35.out).mono ?_
                    (case side1 => repeat (first | exact (by repeat (first | (with_reducible exact HR281_0.out) | (with_reducible refine Kd.C_alloc ?_ _) | (with_reducible refine Kd.C_drewN ?_ _) | (with_reducible refine Kd.C_drew ?_) | exact HR281_0.out)) | (with_reducible refine Kd.C_alloc ?_ _) | (with_reducible refine Kd.C_drewN ?_ _) | (with_reducible refine Kd.C_drew ?_)))
                    (case side2 => exact HC281_0.out)
                    rintro e w46 ⟨v283, rfl, ho0, hb⟩
                    have HS0_ := (hb.cell (World.block_lt_of_cell? _ _ (hHeld.1))).trans (hHeld.1)
                    have HS1_ := (hb.cell (World.block_lt_of_cell? _ _ (hHeld.2.1))).trans (hHeld.2.1)
                    have HS2_ := (hb.cell (World.block_lt_of_cell? _ _ (hHeld.2.2))).trans (hHeld.2.2)
                    refine ⟨_, rfl, ?_⟩
                    have n0_ := Aside0.mk (Kd.N_elder' (by (with_reducible repeat (first | apply Kd.N_alloc | apply Kd.N_drewN | apply Kd.N_drew)); exact HO_7.out) (Kd.R_base ho0) hb)
                    have n1_ := Aside0.mk (Kd.N_elder' (by (with_reducible repeat (first | apply Kd.N_alloc | apply Kd.N_drewN | apply Kd.N_drew)); exact HO_8.out) (Kd.R_base ho0) hb)
                    have n2_ := Aside0.mk (Kd.V_elder' (by (with_reducible repeat (first | apply Kd.V_alloc | apply Kd.V_drewN | apply Kd.V_drew)); exact HL279_0.out) (Kd.R_base ho0) hb)
                    have n3_ := Aside0.mk (Kd.V_elder' (by (with_reducible repeat (first | apply Kd.V_alloc | apply Kd.V_drewN | apply Kd.V_drew)); exact HL281_0.out) (Kd.R_base ho0) hb)
                    have n4_ := Aside0.mk (Kd.R_lower ho0 (below_size (by repeat (first | (with_reducible first | exact HB.out | apply below_alloc | apply pw_below_drewN | apply below_drew1) | exact HB.out))))
                    have n5_ := Aside0.mk (Kd.C_below (by repeat (first | (with_reducible exact HR279_0.out) | (with_reducible refine Kd.C_alloc ?_ _) | (with_reducible refine Kd.C_drewN ?_ _) | (with_reducible refine Kd.C_drew ?_) | exact HR279_0.out)) hb)
                    have n6_ := Aside0.mk (Kd.C_below (by repeat (first | (with_reducible exact HR281_0.out) | (with_reducible refine Kd.C_alloc ?_ _) | (with_reducible refine Kd.C_drewN ?_ _) | (with_reducible refine Kd.C_drew ?_) | exact HR281_0.out)) hb)
                    have n7_ := Aside0.mk (below_step (by repeat (first | (with_reducible first | exact HB.out | apply below_alloc | apply pw_below_drewN | apply below_drew1) | exact HB.out)) hb)
                    clear HO_7
                    clear HO_8
                    clear HL279_0
                    clear HL281_0
                    clear HR279_0
                    clear HR281_0
                    clear HB
                    have HO_7 := n0_
                    have HO_8 := n1_
                    have HL279_0 := n2_
                    have HL281_0 := n3_
                    have HO284 := n4_
                    have HR279_0 := n5_
                    have HR281_0 := n6_
                    have HB := n7_
                    clear n0_ n1_ n2_ n3_ n4_ n5_ n6_ n7_
                    try have HR285_0 := Aside0.mk (Kd.C_below HR285_0.out hb)
                    (try clear hb)
                    (try clear hb2)
                    (try clear hk)
                    (try clear hi)
                    (try clear ho0)
                    obtain ⟨Ao47, co47, eo47⟩ := Kd.R_slice HO284.out
                    (first | subst eo47 | (injection eo47 with f1_ f2_ f3_; have f4_ := f1_.symm; have f5_ := f3_.symm; clear f1_ f2_ f3_; subst f4_; subst f5_))
                    refine hK.out _ _ ⟨HS0_, HS1_, HS2_⟩ (fun hHeld => ?_)
                    clear hK K
                    refine norm_ (a' := ?_) ?_ ?_
                    rotate_left
                    · show Act.put _ (some 52) _ = _
                      simp only [Act.put, List.setIfInBounds_toArray, List.set_cons_zero, List.set_cons_succ, i64_w, i32_w]
                      rfl
                    refine one_ (i := 16) (N := some 57) #[true, true, true, true, true, true, true, true, true, true, true, true, true, true, true, true, true, false, false] rfl rfl (one_of HT_.out (by kernel_rfl)) (by decide) (fun K hK => ?_)
                    refine goes_ Tryd.func13 (by kernel_rfl) rfl #[.slice Ao47 t282.length co47, .slice A285_0 (rd_L3 t262 x9_1).length c285_0] (by rfl) rfl rfl (by (try simp only [List.map_toArray, List.map_cons, List.map_nil]); first | done | rfl | (simp only [EQ285_0.out.1, EQ285_0.out.2]; done) | (simp only [EQ285_0.out.1, EQ285_0.out.2]; rfl) | (simp only [List.length_drop, List.length_take]; rfl)) ?_
                    with_reducible refine (flongref03_Same.calls k1 _ _ t282 _ _ (rd_L3 t262 x9_1) false _ ?side1 ?side2 ?side3 ?side4 A36.out).mono ?_
                    (case side1 => repeat (first | exact (Kd.R_reads' HO284.out).2.2 | (with_reducible refine Kd.C_alloc ?_ _) | (with_reducible refine Kd.C_drewN ?_ _) | (with_reducible refine Kd.C_drew ?_)))
                    (case side2 => exact (Kd.R_reads' HO284.out).2.1)
                    (case side3 => repeat (first | exact (by repeat (first | (with_reducible exact HR285_0.out) | (with_reducible refine Kd.C_alloc ?_ _) | (with_reducible refine Kd.C_drewN ?_ _) | (with_reducible refine Kd.C_drew ?_) | exact HR285_0.out)) | (with_reducible refine Kd.C_alloc ?_ _) | (with_reducible refine Kd.C_drewN ?_ _) | (with_reducible refine Kd.C_drew ?_)))
                    (case side4 => exact HC285_0.out)
                    rintro e w' ⟨rfl, ⟨nd, rfl⟩⟩
                    refine ⟨_, rfl, ?_⟩
                    refine hK.out _ _ ⟨hHeld.1, hHeld.2.1, hHeld.2.2⟩ (fun hHeld => ?_)
                    clear hK K
                    refine norm_ (a' := ?_) ?_ ?_
                    rotate_left
                    · show Act.put _ (some 57) _ = _
                      simp only [Act.put, List.setIfInBounds_toArray, List.set_cons_zero, List.set_cons_succ, i64_w, i32_w]
                      rfl
                    refine pure_ (i := 17) (N := some 58) (v := ?_) (a' := ?_) #[true, true, true, true, true, true, true, true, true, true, true, true, true, true, true, true, true, true, false] rfl rfl (any_of HT_.out (by kernel_rfl)) (fun _ _ _ h => h) (Or.inl ⟨by rfl, ?_⟩) ?_ ?_
                    rotate_left
                    · intro w'
                      go_simp
                      with_reducible rfl
                    rotate_left
                    · simp only [Act.put, List.setIfInBounds_toArray, List.set_cons_zero, List.set_cons_succ, i64_w, i32_w]
                      rfl
                    refine pure_ (i := 18) (N := some 59) (v := ?_) (a' := ?_) #[true, true, true, true, true, true, true, true, true, true, true, true, true, true, true, true, true, true, true] rfl rfl (any_of HT_.out (by kernel_rfl)) (fun _ _ _ h => h) (Or.inl ⟨by rfl, ?_⟩) ?_ ?_
                    rotate_left
                    · intro w'
                      go_simp
                      with_reducible rfl
                    rotate_left
                    · simp only [Act.put, List.setIfInBounds_toArray, List.set_cons_zero, List.set_cons_succ, i64_w, i32_w]
                      rfl
                    refine done_ (done_of HT_.out (by kernel_rfl)) ?_
                    try go_wp2
                    go_ret
                    exact ⟨by first | rfl | (simp [errW_none, errW_some] <;> rfl) | (simp [*, errW_none, errW_some] <;> rfl), by repeat (first | (with_reducible first | exact HB.out | apply below_alloc | apply pw_below_drewN | apply below_drew1) | exact HB.out)⟩
              · rw [if_neg c29] at H
                exact absurd H (by simp)
            · rw [if_neg c28] at H
              have c28b0 : decide (x9_1 < (t262.length : Int)) = false := decide_eq_false c28
              clear c28
              replace H := Option.bind_eq_some_iff.mp H
              obtain ⟨t277, A480, H⟩ := H
              replace H : (if t277 = true then ((flonglaw12_known.f k1).bind fun t278 => (some t278)) else (some false)) = some r := H
              have A48 := Aside0.mk A480
              clear A480
              by_cases c49 : t277 = true
              · subst c49
                have H1 : ((flonglaw12_known.f k1).bind fun t278 => (some t278)) = some r := by rw [if_pos rfl] at H; exact H
                clear H
                have H := H1
                clear H1
                replace H := Option.bind_eq_some_iff.mp H
                obtain ⟨t278, A500, H⟩ := H
                replace H : (some t278) = some r := H
                have A50 := Aside0.mk A500
                clear A500
                obtain rfl := Option.some.inj H
                obtain ⟨Ao51, co51, eo51⟩ := Kd.N_slice HO_7.out
                subst eo51
                obtain ⟨Ao52, co52, eo52⟩ := Kd.N_slice HO_8.out
                subst eo52
                go_wp2_with (first | ((with_reducible refine gate_callee (f := 15) rfl ?_); refine goesL_ (some 62) rfl rfl Tryd.func15 (by kernel_rfl) rfl #[.slice Ao51 t262.length co51, .slice Ao52 y274.length co52] rfl (by (try simp only [List.map_toArray, List.map_cons, List.map_nil]); first | done | rfl | (simp only [List.length_drop, List.length_take]; rfl)) ?_; (with_reducible refine (flongref03_SameRows.calls k1 _ _ t262 _ _ y274 true _ ?side1 ?side2 ?side3 ?side4 A48.out).mono ?_); (case side1 => repeat (first | exact (Kd.N_reads' HO_7.out).2.2 | (with_reducible refine Kd.C_alloc ?_ _) | (with_reducible refine Kd.C_drewN ?_ _) | (with_reducible refine Kd.C_drew ?_))); (case side2 => exact (Kd.N_reads' HO_7.out).2.1); (case side3 => repeat (first | exact (Kd.N_reads' HO_8.out).2.2 | (with_reducible refine Kd.C_alloc ?_ _) | (with_reducible refine Kd.C_drewN ?_ _) | (with_reducible refine Kd.C_drew ?_))); (case side4 => exact (Kd.N_reads' HO_8.out).2.1); rintro e w' ⟨rfl, ⟨nd, rfl⟩⟩; refine ⟨_, rfl, ?_⟩) | (go_at_call 8; (with_reducible refine (flonglaw12_known.calls k1  t278 _ ?side1 A50.out).mono ?_); (case side1 => exact GOK.of_below (GOK.sub HG.out rfl) (by repeat (first | (with_reducible first | exact HB.out | apply below_alloc | apply pw_below_drewN | apply below_drew1) | exact HB.out))); rintro e w53 ⟨rfl, hb⟩; have n0_ := Aside0.mk (Kd.N_below (by (with_reducible repeat (first | apply Kd.N_alloc | apply Kd.N_drewN | apply Kd.N_drew)); exact HO_7.out) hb); have n1_ := Aside0.mk (Kd.N_below (by (with_reducible repeat (first | apply Kd.N_alloc | apply Kd.N_drewN | apply Kd.N_drew)); exact HO_8.out) hb); have n2_ := Aside0.mk (below_step (by repeat (first | (with_reducible first | exact HB.out | apply below_alloc | apply pw_below_drewN | apply below_drew1) | exact HB.out)) hb); clear HO_7; clear HO_8; clear HB; have HO_7 := n0_; have HO_8 := n1_; have HB := n2_; clear n0_ n1_ n2_; (try clear hb); (try clear hb2); (try clear hk); (try clear hi)))
                go_ret
                exact ⟨by first | rfl | (simp [errW_none, errW_some] <;> rfl) | (simp [*, errW_none, errW_some] <;> rfl), by repeat (first | (with_reducible first | exact HB.out | apply below_alloc | apply pw_below_drewN | apply below_drew1) | exact HB.out)⟩
              · replace c49 := Bool.eq_false_iff.mpr c49
                subst c49
                have H1 : (some false) = some r := by rw [if_neg (show ¬ (false = true) by decide)] at H; exact H
                clear H
                have H := H1
                clear H1
                obtain rfl := Option.some.inj H
                obtain ⟨Ao54, co54, eo54⟩ := Kd.N_slice HO_7.out
                subst eo54
                obtain ⟨Ao55, co55, eo55⟩ := Kd.N_slice HO_8.out
                subst eo55
                go_wp2_with (first | ((with_reducible refine gate_callee (f := 15) rfl ?_); refine goesL_ (some 62) rfl rfl Tryd.func15 (by kernel_rfl) rfl #[.slice Ao54 t262.length co54, .slice Ao55 y274.length co55] rfl (by (try simp only [List.map_toArray, List.map_cons, List.map_nil]); first | done | rfl | (simp only [List.length_drop, List.length_take]; rfl)) ?_; (with_reducible refine (flongref03_SameRows.calls k1 _ _ t262 _ _ y274 false _ ?side1 ?side2 ?side3 ?side4 A48.out).mono ?_); (case side1 => repeat (first | exact (Kd.N_reads' HO_7.out).2.2 | (with_reducible refine Kd.C_alloc ?_ _) | (with_reducible refine Kd.C_drewN ?_ _) | (with_reducible refine Kd.C_drew ?_))); (case side2 => exact (Kd.N_reads' HO_7.out).2.1); (case side3 => repeat (first | exact (Kd.N_reads' HO_8.out).2.2 | (with_reducible refine Kd.C_alloc ?_ _) | (with_reducible refine Kd.C_drewN ?_ _) | (with_reducible refine Kd.C_drew ?_))); (case side4 => exact (Kd.N_reads' HO_8.out).2.1); rintro e w' ⟨rfl, ⟨nd, rfl⟩⟩; refine ⟨_, rfl, ?_⟩))
                go_ret
                exact ⟨by first | rfl | (simp [errW_none, errW_some] <;> rfl) | (simp [*, errW_none, errW_some] <;> rfl), by repeat (first | (with_reducible first | exact HB.out | apply below_alloc | apply pw_below_drewN | apply below_drew1) | exact HB.out)⟩
      · rw [if_neg c14] at H
        exact absurd H (by simp)
    · rw [if_neg c12] at H
      exact absurd H (by simp)

end Go.Proofs.YtfdfjlichpjobaaDoorRR.X
