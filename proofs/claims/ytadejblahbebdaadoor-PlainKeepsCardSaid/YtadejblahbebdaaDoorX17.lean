-- Written by this session's xprint.py (a variant of the kit's printer). Not trusted: Lean checks it.
import Derived.Test.YtadejblahbebdaaDoorX0
import Derived.Test.YtadejblahbebdaaDoorX3
import Derived.Test.YtadejblahbebdaaDoorX4
import Derived.Test.YtadejblahbebdaaDoorX5
import Derived.Test.YtadejblahbebdaaDoorX6
import Derived.Test.YtadejblahbebdaaDoorHandA
import Derived.Test.YtadejblahbebdaaDoorHandS
namespace Go.Proofs.YtadejblahbebdaaDoor.X
open Go.Proofs.YtadejblahbebdaaDoor.Hand
open Go.RowKit Go.Proofs.YtadejblahbebdaaDoorW.PrintWords Go.Proofs.YtadejblahbebdaaDoorW.PrintLast Go.Proofs.YtadejblahbebdaaDoorW.PrintMore
attribute [local go_sem] max2_int min2_int max_two min_two max_three min_three max_four min_four   -- for this text's walks alone
set_option linter.unusedVariables false
set_option maxHeartbeats 8000000
set_option maxRecDepth 100000
set_option linter.unusedSimpArgs false

/-! ### flonglaw17_PlainKeeps: function 8 -/
def flonglaw17_PlainKeeps.l0 : Nat → List (List (S37)) → List (S49) → ByteArray → Int → Option (Bool)
 | 0, _, _, _, _ => none
 | k + 1, x3, x5, x6, x7 => if x7 < (x3.length : Int) then (if 0 ≤ x7 then (if x5.length < 3518437208883 then ((flongref17_Normal.f k (rd_L6 x3 x7)).bind fun t550 => ((flongref03_Text.f k t550).bind fun t553 => (if x6.size + t553.size ≤ 9223372036854775807 then (if (x6 ++ t553).size + 1 ≤ 9223372036854775807 then (flonglaw17_PlainKeeps.l0 k x3 (x5 ++ [(⟨0, rd_L6 x3 x7, false⟩ : S49)]) ((x6 ++ t553) ++ (⟨#[10]⟩ : ByteArray)) (wrap64 (x7 + 1))) else (none)) else (none)))) else (none)) else (none)) else ((plain_Write.f k x5).bind fun t554 => (if (strOfNums t554).toList = x6.toList then ((flonglaw17_known.f k).bind fun t557 => (some t557)) else (some false)))
def flonglaw17_PlainKeeps.f (k : Nat) (l0 : List Int) : Option (Bool) := if (l0.length : Int) > 800 then ((flonglaw17_known.f k).bind fun t539 => (some t539)) else ((plain_Read.f k l0).bind fun bt540 => (if bt540.2 = 0 then (flonglaw17_PlainKeeps.l0 k bt540.1 ([] : List (S49)) (⟨#[]⟩ : ByteArray) 0) else (if (bt540.1.length : Int) = 0 then ((flonglaw17_known.f k).bind fun t544 => (some t544)) else (some false))))
theorem flonglaw17_PlainKeeps.mono_l : ∀ k, (∀ y0 y1 y2 y3, LeO (flonglaw17_PlainKeeps.l0 k y0 y1 y2 y3) (flonglaw17_PlainKeeps.l0 (k + 1) y0 y1 y2 y3))
 | 0 => fun _ _ _ _ r h => by simp [flonglaw17_PlainKeeps.l0] at h
 | k + 1 => by
  have ih0 := flonglaw17_PlainKeeps.mono_l k
  ·intro y0 y1 y2 y3
   unfold flonglaw17_PlainKeeps.l0
   repeat' first
   | (with_reducible exact ih0 _ _ _ _)
   | (with_reducible exact flonglaw17_known.mono _)
   | (with_reducible exact flongref03_Text.mono _ _)
   | (with_reducible exact flongref17_Normal.mono _ _)
   | (with_reducible exact plain_Read.mono _ _)
   | (with_reducible exact plain_Write.mono _ _)
   | (with_reducible exact LeO.refl _)
   | (with_reducible exact LeO.none _)
   | (with_reducible refine LeO.ite ?_ ?_)
   | (with_reducible refine LeO.bind ?_ (fun _ => ?_))
theorem flonglaw17_PlainKeeps.mono : ∀ a0 k, LeO (flonglaw17_PlainKeeps.f k a0) (flonglaw17_PlainKeeps.f (k + 1) a0) := by
 intro a0 k
 have ih0 := flonglaw17_PlainKeeps.mono_l k
 unfold flonglaw17_PlainKeeps.f
 repeat' first
   | (with_reducible exact ih0 _ _ _ _)
   | (with_reducible exact flonglaw17_known.mono _)
   | (with_reducible exact flongref03_Text.mono _ _)
   | (with_reducible exact flongref17_Normal.mono _ _)
   | (with_reducible exact plain_Read.mono _ _)
   | (with_reducible exact plain_Write.mono _ _)
   | (with_reducible exact LeO.refl _)
   | (with_reducible exact LeO.none _)
   | (with_reducible refine LeO.ite ?_ ?_)
   | (with_reducible refine LeO.bind ?_ (fun _ => ?_))
theorem flonglaw17_PlainKeeps.calls (k : Nat) (A0 : Option Addr) (c0 : Nat) (l0 : List Int) (r : Bool) (w : World) (hr0 : Kd.C (Kd.int .u8) w A0 l0.length l0) (hc0 : l0.length ≤ c0) (hG : GOK [0,1] w) (h : flonglaw17_PlainKeeps.f k l0 = some r) :
  Calls Tryd.prog 8 #[.slice A0 l0.length c0] w fun e w' => e = .returned (.bool r) ∧ Below w.heap.size w w' := by
 have hu49 := Tryd.underlying49
 have HG := Aside0.mk hG
 clear hG
 have HR0 := Aside0.mk hr0
 have HC0 := Aside0.mk hc0
 clear hr0 hc0
 have HB := Aside0.mk (Below.refl w.heap.size w)
 have H : (if (l0.length : Int) > 800 then ((flonglaw17_known.f k).bind fun t539 => (some t539)) else ((plain_Read.f k l0).bind fun bt540 => (if bt540.2 = 0 then (flonglaw17_PlainKeeps.l0 k bt540.1 ([] : List (S49)) (⟨#[]⟩ : ByteArray) 0) else (if (bt540.1.length : Int) = 0 then ((flonglaw17_known.f k).bind fun t544 => (some t544)) else (some false))))) = some r := h
 clear h
 by_cases c2 : (l0.length : Int) > 800
 ·rw [if_pos c2] at H
  have c2b0 : decide (800 < (l0.length : Int)) = true := decide_eq_true c2
  have c2b1 : decide (800 < l0.length) = true := decide_eq_true (by omega)
  clear c2
  replace H := Option.bind_eq_some_iff.mp H
  obtain ⟨t539, A30, H⟩ := H
  replace H : (some t539) = some r := H
  have A3 := Aside0.mk A30
  clear A30
  obtain rfl := Option.some.inj H
  go_enter Tryd.func8, Tryd.ntmps8
  go_wp2_with (first | ((with_reducible refine gate_callee (f := 11) rfl ?_); refine goesL_ (some 11) rfl rfl Tryd.func11 (by kernel_rfl) rfl #[] rfl (by (try simp only [List.map_toArray, List.map_cons, List.map_nil]); first | done | rfl | (simp only [List.length_drop, List.length_take]; rfl)) ?_; (with_reducible refine (flonglaw17_known.calls k  t539 _ ?side1 A3.out).mono ?_); (case side1 => exact GOK.of_below (GOK.sub HG.out rfl) (by repeat (first | (with_reducible first | exact HB.out | apply below_alloc | apply pw_below_drewN | apply below_drew1) | exact HB.out))); rintro e w4 ⟨rfl, hb⟩; refine ⟨_, rfl, ?_⟩; have n0_ := Aside0.mk (below_step (by repeat (first | (with_reducible first | exact HB.out | apply below_alloc | apply pw_below_drewN | apply below_drew1) | exact HB.out)) hb); clear HB; have HB := n0_; clear n0_; (try clear hb); (try clear hb2); (try clear hk); (try clear hi)))
  go_ret
  exact ⟨by first | rfl | (simp [errW_none, errW_some] <;> rfl) | (simp [*, errW_none, errW_some] <;> rfl), by repeat (first | (with_reducible first | exact HB.out | apply below_alloc | apply pw_below_drewN | apply below_drew1) | exact HB.out)⟩
 ·rw [if_neg c2] at H
  have c2b0 : decide (800 < (l0.length : Int)) = false := decide_eq_false c2
  have c2b1 : decide (800 < l0.length) = false := decide_eq_false (by omega)
  clear c2
  replace H := Option.bind_eq_some_iff.mp H
  obtain ⟨⟨t540, t541⟩, A50, H⟩ := H
  replace H : (if t541 = 0 then (flonglaw17_PlainKeeps.l0 k t540 ([] : List (S49)) (⟨#[]⟩ : ByteArray) 0) else (if (t540.length : Int) = 0 then ((flonglaw17_known.f k).bind fun t544 => (some t544)) else (some false))) = some r := H
  have A5 := Aside0.mk A50
  clear A50
  by_cases c6 : t541 = 0
  ·rw [if_pos c6] at H
   have c6b0 : (t541 == 0) = true := beq_iff_eq.mpr c6
   have c6b1 : (t541 != 0) = false := bne_eq_false_iff_eq.mpr c6
   clear c6
   have H' := Aside0.mk H
   clear H
   go_enter Tryd.func8, Tryd.ntmps8
   go_wp2_with (first | ((with_reducible refine gate_callee (f := 27) rfl ?_); refine goesL_ (some 14) rfl rfl Tryd.func27 (by kernel_rfl) rfl #[.slice A0 l0.length c0] rfl (by (try simp only [List.map_toArray, List.map_cons, List.map_nil]); first | done | rfl | (simp only [List.length_drop, List.length_take]; rfl)) ?_; (with_reducible refine (plain_Read.calls k _ _ l0 t540 t541 _ ?side1 ?side2 A5.out).mono ?_); (case side1 => repeat (first | exact HR0.out | (with_reducible refine Kd.C_alloc ?_ _) | (with_reducible refine Kd.C_drewN ?_ _) | (with_reducible refine Kd.C_drew ?_))); (case side2 => exact HC0.out); rintro e w7 ⟨v542, rfl, ho0, hb⟩; refine ⟨_, rfl, ?_⟩; have n0_ := Aside0.mk (Kd.N_lower (Kd.N_mono (ok' := fun k_ => True) (Kd.S_N (Kd.S_bound ho0)) (fun k_ hk_ => trivial)) (below_size (by repeat (first | (with_reducible first | exact HB.out | apply below_alloc | apply pw_below_drewN | apply below_drew1) | exact HB.out)))); have n1_ := Aside0.mk (below_step (by repeat (first | (with_reducible first | exact HB.out | apply below_alloc | apply pw_below_drewN | apply below_drew1) | exact HB.out)) hb); clear HB; have HO543 := n0_; have HB := n1_; clear n0_ n1_; (try clear hb); (try clear hb2); (try clear hk); (try clear hi); (try clear ho0)))
   go_loopg [5, 6, 7] k (fun kq v5 v6 v7 w' => ∃ (x5_1 : List (S49)) (x6_1 : ByteArray) (x7_1 : Int), v6 = .string x6_1 ∧ v7 = .int .i64 x7_1 ∧ Aside0 (flonglaw17_PlainKeeps.l0 kq t540 x5_1 x6_1 x7_1 = some r) ∧ Aside0 (kq ≤ k) ∧ Aside0 (Kd.N (Kd.slice 37 k37) 33 w' w.heap.size (fun k_ => some k_ ≠ (v5 : Value).ownBlock) v542 t540) ∧ Aside0 (Kd.N k49 49 w' w.heap.size (fun k_ => some k_ ≠ (v542 : Value).ownBlock) v5 x5_1) ∧ Aside0 (Below w.heap.size w w'))
   case atStart => exact ⟨(([] : List (S49))), ((⟨#[]⟩ : ByteArray)), (0), (by first | rfl | (simp; done) | (simp [*]; done)), (by first | rfl | (simp; done) | (simp [*]; done)), H', ⟨Nat.le_refl _⟩, ⟨by (with_reducible repeat (first | apply Kd.N_alloc | apply Kd.N_drewN | apply Kd.N_drew)); exact Kd.N_mono HO543.out (fun _ hk => (by simp [Value.ownBlock]))⟩, ⟨by first | exact Kd.S_nil _ _ _ _ _ | exact Kd.N_nil _ _ _ _ _ | exact Kd.V_nil _ _ _ _ _ | exact Kd.Q_nil _ _ _ _ _ | exact Kd.R_nil _ _ _ _ _⟩, ⟨by repeat (first | (with_reducible first | exact HB.out | apply below_alloc | apply pw_below_drewN | apply below_drew1) | exact HB.out)⟩⟩
   case round =>
    clear H'
    try clear c1
    try clear c2
    try clear c2b0
    try clear c2b1
    try clear p2
    try clear c6
    try clear c6b0
    try clear c6b1
    obtain ⟨x5_1, x6_1, x7_1, rfl, rfl, HA, HK1, HO_3, HO_5, HB⟩ := hrel
    cases gk with
    | zero => exact absurd HA.out (by simp [flonglaw17_PlainKeeps.l0])
    | succ k1 =>
     have H := HA.out
     clear HA
     simp only [flonglaw17_PlainKeeps.l0] at H
     by_cases c8 : x7_1 < (t540.length : Int)
     ·rw [if_pos c8] at H
      have c8b0 : decide (x7_1 < (t540.length : Int)) = true := decide_eq_true c8
      clear c8
      by_cases c9 : 0 ≤ x7_1
      ·rw [if_pos c9] at H
       have c9b0 : decide (0 ≤ x7_1) = true := decide_eq_true c9
       clear c9
       by_cases c10 : x5_1.length < 3518437208883
       ·rw [if_pos c10] at H
        have LMc10 := Aside0.mk c10
        clear c10
        obtain ⟨y546, hy546⟩ : ∃ y_ : List (S49), y_ = (x5_1 ++ [(⟨0, rd_L6 t540 x7_1, false⟩ : S49)]) := ⟨_, rfl⟩
        replace H : ((flongref17_Normal.f k1 (rd_L6 t540 x7_1)).bind fun t550 => ((flongref03_Text.f k1 t550).bind fun t553 => (if x6_1.size + t553.size ≤ 9223372036854775807 then (if (x6_1 ++ t553).size + 1 ≤ 9223372036854775807 then (flonglaw17_PlainKeeps.l0 k1 t540 y546 ((x6_1 ++ t553) ++ (⟨#[10]⟩ : ByteArray)) (wrap64 (x7_1 + 1))) else (none)) else (none)))) = some r := by first | (rw [hy546]; with_reducible exact H) | (have H2_ := (Option.bind_some _ _).symm.trans H; rw [hy546]; with_reducible exact H2_) | (have H2_ := (Option.bind_some _ _).symm.trans H; with_reducible exact H2_) | with_reducible exact H | (rw [hy546]; exact H) | exact H
        have Ny546 := Aside0.mk hy546
        clear hy546
        replace H := Option.bind_eq_some_iff.mp H
        obtain ⟨t550, A110, H⟩ := H
        replace H : ((flongref03_Text.f k1 t550).bind fun t553 => (if x6_1.size + t553.size ≤ 9223372036854775807 then (if (x6_1 ++ t553).size + 1 ≤ 9223372036854775807 then (flonglaw17_PlainKeeps.l0 k1 t540 y546 ((x6_1 ++ t553) ++ (⟨#[10]⟩ : ByteArray)) (wrap64 (x7_1 + 1))) else (none)) else (none))) = some r := H
        have A11 := Aside0.mk A110
        clear A110
        replace H := Option.bind_eq_some_iff.mp H
        obtain ⟨t553, A120, H⟩ := H
        replace H : (if x6_1.size + t553.size ≤ 9223372036854775807 then (if (x6_1 ++ t553).size + 1 ≤ 9223372036854775807 then (flonglaw17_PlainKeeps.l0 k1 t540 y546 ((x6_1 ++ t553) ++ (⟨#[10]⟩ : ByteArray)) (wrap64 (x7_1 + 1))) else (none)) else (none)) = some r := H
        have A12 := Aside0.mk A120
        clear A120
        by_cases c13 : x6_1.size + t553.size ≤ 9223372036854775807
        ·rw [if_pos c13] at H
         have c13b0 := eq_true c13
         have c13b1 : decide (x6_1.size + t553.size ≤ 9223372036854775807) = true := decide_eq_true c13
         try have c13b2 : (9223372036854775807 < x6_1.size + t553.size) = False := eq_false (Nat.not_lt.2 c13)
         by_cases c14 : (x6_1 ++ t553).size + 1 ≤ 9223372036854775807
         ·rw [if_pos c14] at H
          have c14b0 := eq_true c14
          have c14b1 : decide ((x6_1 ++ t553).size + 1 ≤ 9223372036854775807) = true := decide_eq_true c14
          try have c14b2 : (9223372036854775807 < (x6_1 ++ t553).size + 1) = False := eq_false (Nat.not_lt.2 c14)
          (try (have c14n := c14; simp only [ByteArray.size_append'] at c14n; have c14b3 := eq_false (Nat.not_lt.2 c14n); have c14b4 := eq_true c14n; clear c14n))
          have H' := Aside0.mk H
          clear H
          obtain ⟨Ao15, co15, eo15⟩ := Kd.N_slice HO_3.out
          subst eo15
          have p545 : 0 ≤ (x7_1 : Int) := of_decide_eq_true (by first | (with_reducible assumption) | assumption)
          have q545 : x7_1 < (t540.length : Int) := of_decide_eq_true (by first | (with_reducible assumption) | assumption)
          obtain ⟨ad545, A545_0, c545_0, e545, hx545_0, hl545_0, hi545_0⟩ := at_L6 (Kd.N_reads' HO_3.out).2.2 x7_1 p545 q545
          cases e545
          obtain ⟨ce545, hce545, hMe545, hcc545⟩ := Kd.N_get HO_3.out [] x7_1 p545 (by first | exact q545 | exact of_decide_eq_true (by first | (with_reducible assumption) | assumption) | (have e_ := (Kd.N_reads' HO_3.out).1; omega))
          obtain ⟨ua545_0, uc545_0, rfl, ul545_0, ge545_0⟩ := Kd.FK_slice_open hMe545
          have hv545_0 := hcc545 0 _ rfl
          rw [Nat.add_zero, show ((Kd.slice 37 k37)).sz = 1 from rfl, Nat.mul_one] at hv545_0
          replace hv545_0 := Option.some.inj (hv545_0.symm.trans hx545_0)
          injection hv545_0 with hva_ hvn_ hvc_
          rw [hva_] at ge545_0
          rw [hvc_] at ul545_0
          have HL545_0 := Aside0.mk (show Kd.V k37 37 _ w.heap.size _ _ (rd_L6 t540 x7_1) from Kd.V_mk ul545_0 ge545_0)
          clear hva_ hvn_ hvc_ ge545_0 ul545_0
          clear hcc545 hce545
          have HR545_0 := Aside0.mk hi545_0
          have HC545_0 := Aside0.mk hl545_0
          clear hi545_0 hl545_0
          replace p545 := eq_true p545
          replace q545 := eq_true q545
          go_wp2_with (first | ((with_reducible refine gate_builtin (b := .append) (xs := #[.tmp 31, .tmp 37]) rfl ?_); at_builtin; refine Kd.N_append k49 (w0 := w) w.heap.size rfl (.tmp 31) (.tmp 37) 22 49 (.agg #[(.int .i64 0), (.slice none 0 0), (.bool false)]) 40 rfl Tryd.underlying22 info49 rfl (by decide) (by omega) u5 x5_1 (⟨0, rd_L6 t540 x7_1, false⟩ : S49) [.int .i64 0, .slice A545_0 (rd_L6 t540 x7_1).length c545_0, .bool false] (fun k_ => some k_ ≠ (.slice (some ad545) t540.length co15 : Value).ownBlock) (fun k_ => ((fun k_ => some k_ ≠ (.slice (some ad545) t540.length co15 : Value).ownBlock)) k_ ∧ some k_ ≠ (u5 : Value).ownBlock) rfl rfl ?aP (fun _ hk => hk) ?aF ?aO ?aB ?aS ?aL ?_; (case aP => exact (k49_mkF _ _ (⟨0, rd_L6 t540 x7_1, false⟩ : S49) (Kd.V_reads' (Kd.V_mono (ok' := (fun k_ => ((fun k_ => some k_ ≠ (.slice (some ad545) t540.length co15 : Value).ownBlock)) k_ ∧ some k_ ≠ (u5 : Value).ownBlock)) (HL545_0.out) (fun k_ hk => ⟨hk.2, hk.1⟩))).2.1 (Kd.V_F (Kd.V_mono (ok' := (fun k_ => ((fun k_ => some k_ ≠ (.slice (some ad545) t540.length co15 : Value).ownBlock)) k_ ∧ some k_ ≠ (u5 : Value).ownBlock)) (HL545_0.out) (fun k_ hk => ⟨hk.2, hk.1⟩))))); (case aB => exact (by repeat (first | (with_reducible first | exact HB.out | apply below_alloc | apply pw_below_drewN | apply below_drew1) | exact HB.out))); (case aF => exact (fun k_ hk => Kd.fresh' (Kd.N_lt (by (with_reducible repeat (first | apply Kd.N_alloc | apply Kd.N_drewN | apply Kd.N_drew)); exact HO_3.out)) k_ hk)); (case aO => exact (by (with_reducible repeat (first | apply Kd.N_alloc | apply Kd.N_drewN | apply Kd.N_drew)); exact HO_5.out)); (case aS => exact (below_size (by repeat (first | (with_reducible first | exact HB.out | apply below_alloc | apply pw_below_drewN | apply below_drew1) | exact HB.out)))); (case aL => have := LMc10.out; omega); intro v547 w16 ho hb hg hat; rw [← Ny546.out] at ho; have n0_ := Aside0.mk (Kd.N_afterv (ok := (fun _ => True)) (by (with_reducible repeat (first | apply Kd.N_alloc | apply Kd.N_drewN | apply Kd.N_drew)); exact Kd.N_mono HO_3.out (fun _ hk => ⟨trivial, hk⟩)) hg hat); have n1_ := Aside0.mk (Kd.V_afterv (ok := (fun k_ => some k_ ≠ (.slice (some ad545) t540.length co15 : Value).ownBlock)) (by (with_reducible repeat (first | apply Kd.V_alloc | apply Kd.V_drewN | apply Kd.V_drew)); exact Kd.V_mono HL545_0.out (fun _ hk => ⟨hk.2, hk.1⟩)) hg hat); have n2_ := Aside0.mk (hb); have n3_ := Aside0.mk (ho); clear HO_3; clear HL545_0; clear HB; clear HO_5; have HO_3 := n0_; have HL545_0 := n1_; have HB := n2_; have HO548 := n3_; clear n0_ n1_ n2_ n3_; clear ho hb hg hat; have p549 : 0 ≤ (x7_1 : Int) := of_decide_eq_true (by first | (with_reducible assumption) | assumption); have q549 : x7_1 < (t540.length : Int) := of_decide_eq_true (by first | (with_reducible assumption) | assumption); obtain ⟨ad549, A549_0, c549_0, e549, hx549_0, hl549_0, hi549_0⟩ := at_L6 (Kd.N_reads' HO_3.out).2.2 x7_1 p549 q549; obtain rfl : ad545 = ad549 := (by injection e549); obtain ⟨ce549, hce549, hMe549, hcc549⟩ := Kd.N_get HO_3.out [] x7_1 p549 (by first | exact q549 | exact of_decide_eq_true (by first | (with_reducible assumption) | assumption) | (have e_ := (Kd.N_reads' HO_3.out).1; omega)); obtain ⟨ua549_0, uc549_0, rfl, ul549_0, ge549_0⟩ := Kd.FK_slice_open hMe549; have hv549_0 := hcc549 0 _ rfl; rw [Nat.add_zero, show ((Kd.slice 37 k37)).sz = 1 from rfl, Nat.mul_one] at hv549_0; replace hv549_0 := Option.some.inj (hv549_0.symm.trans hx549_0); injection hv549_0 with hva_ hvn_ hvc_; rw [hva_] at ge549_0; rw [hvc_] at ul549_0; have HL549_0 := Aside0.mk (show Kd.V k37 37 _ w.heap.size _ _ (rd_L6 t540 x7_1) from Kd.V_mk ul549_0 ge549_0); clear hva_ hvn_ hvc_ ge549_0 ul549_0; clear hcc549 hce549; have HR549_0 := Aside0.mk hi549_0; have HC549_0 := Aside0.mk hl549_0; clear hi549_0 hl549_0; replace p549 := eq_true p549; replace q549 := eq_true q549) | ((with_reducible refine gate_callee (f := 25) rfl ?_); refine goesL_ (some 44) rfl rfl Tryd.func25 (by kernel_rfl) rfl #[.slice A549_0 (rd_L6 t540 x7_1).length c549_0] rfl (by (try simp only [List.map_toArray, List.map_cons, List.map_nil]); first | done | rfl | (simp only [List.length_drop, List.length_take]; rfl)) ?_; (with_reducible refine (flongref17_Normal.calls k1 _ _ (rd_L6 t540 x7_1) t550 _ ?side1 ?side2 A11.out).mono ?_); (case side1 => repeat (first | exact (by repeat (first | (with_reducible exact HR549_0.out) | (with_reducible refine Kd.C_alloc ?_ _) | (with_reducible refine Kd.C_drewN ?_ _) | (with_reducible refine Kd.C_drew ?_) | exact HR549_0.out)) | (with_reducible refine Kd.C_alloc ?_ _) | (with_reducible refine Kd.C_drewN ?_ _) | (with_reducible refine Kd.C_drew ?_))); (case side2 => exact HC549_0.out); rintro e w17 ⟨v551, rfl, ho0, hb⟩; refine ⟨_, rfl, ?_⟩; have n0_ := Aside0.mk (Kd.N_elder' (by (with_reducible repeat (first | apply Kd.N_alloc | apply Kd.N_drewN | apply Kd.N_drew)); exact HO_3.out) (Kd.R_base ho0) hb); have n1_ := Aside0.mk (Kd.V_elder' (by (with_reducible repeat (first | apply Kd.V_alloc | apply Kd.V_drewN | apply Kd.V_drew)); exact HL545_0.out) (Kd.R_base ho0) hb); have n2_ := Aside0.mk (Kd.N_elder' (by (with_reducible repeat (first | apply Kd.N_alloc | apply Kd.N_drewN | apply Kd.N_drew)); exact HO548.out) (Kd.R_base ho0) hb); have n3_ := Aside0.mk (Kd.V_elder' (by (with_reducible repeat (first | apply Kd.V_alloc | apply Kd.V_drewN | apply Kd.V_drew)); exact HL549_0.out) (Kd.R_base ho0) hb); have n4_ := Aside0.mk (Kd.R_lower ho0 (below_size (by repeat (first | (with_reducible first | exact HB.out | apply below_alloc | apply pw_below_drewN | apply below_drew1) | exact HB.out)))); have n5_ := Aside0.mk (Kd.C_below (by repeat (first | (with_reducible exact HR549_0.out) | (with_reducible refine Kd.C_alloc ?_ _) | (with_reducible refine Kd.C_drewN ?_ _) | (with_reducible refine Kd.C_drew ?_) | exact HR549_0.out)) hb); have n6_ := Aside0.mk (below_step (by repeat (first | (with_reducible first | exact HB.out | apply below_alloc | apply pw_below_drewN | apply below_drew1) | exact HB.out)) hb); clear HO_3; clear HL545_0; clear HO548; clear HL549_0; clear HR549_0; clear HB; have HO_3 := n0_; have HL545_0 := n1_; have HO548 := n2_; have HL549_0 := n3_; have HO552 := n4_; have HR549_0 := n5_; have HB := n6_; clear n0_ n1_ n2_ n3_ n4_ n5_ n6_; (try clear hb); (try clear hb2); (try clear hk); (try clear hi); (try clear ho0); obtain ⟨Ao18, co18, eo18⟩ := Kd.R_slice HO552.out; subst eo18) | ((with_reducible refine gate_callee (f := 29) rfl ?_); refine goesL_ (some 45) rfl rfl Tryd.func29 (by kernel_rfl) rfl #[.slice Ao18 t550.length co18] rfl (by (try simp only [List.map_toArray, List.map_cons, List.map_nil]); first | done | rfl | (simp only [List.length_drop, List.length_take]; rfl)) ?_; (with_reducible refine (flongref03_Text.calls k1 _ _ t550 t553 _ ?side1 ?side2 A12.out).mono ?_); (case side1 => repeat (first | exact (Kd.R_reads' HO552.out).2.2 | (with_reducible refine Kd.C_alloc ?_ _) | (with_reducible refine Kd.C_drewN ?_ _) | (with_reducible refine Kd.C_drew ?_))); (case side2 => exact (Kd.R_reads' HO552.out).2.1); rintro e w19 ⟨rfl, hb⟩; refine ⟨_, rfl, ?_⟩; have n0_ := Aside0.mk (Kd.N_below (by (with_reducible repeat (first | apply Kd.N_alloc | apply Kd.N_drewN | apply Kd.N_drew)); exact HO_3.out) hb); have n1_ := Aside0.mk (Kd.V_below (by (with_reducible repeat (first | apply Kd.V_alloc | apply Kd.V_drewN | apply Kd.V_drew)); exact HL545_0.out) hb); have n2_ := Aside0.mk (Kd.N_below (by (with_reducible repeat (first | apply Kd.N_alloc | apply Kd.N_drewN | apply Kd.N_drew)); exact HO548.out) hb); have n3_ := Aside0.mk (Kd.V_below (by (with_reducible repeat (first | apply Kd.V_alloc | apply Kd.V_drewN | apply Kd.V_drew)); exact HL549_0.out) hb); have n4_ := Aside0.mk (Kd.R_below (by (with_reducible repeat (first | apply Kd.R_alloc | apply Kd.R_drewN | apply Kd.R_drew)); exact HO552.out) hb); have n5_ := Aside0.mk (Kd.C_below (by repeat (first | (with_reducible exact HR549_0.out) | (with_reducible refine Kd.C_alloc ?_ _) | (with_reducible refine Kd.C_drewN ?_ _) | (with_reducible refine Kd.C_drew ?_) | exact HR549_0.out)) hb); have n6_ := Aside0.mk (below_step (by repeat (first | (with_reducible first | exact HB.out | apply below_alloc | apply pw_below_drewN | apply below_drew1) | exact HB.out)) hb); clear HO_3; clear HL545_0; clear HO548; clear HL549_0; clear HO552; clear HR549_0; clear HB; have HO_3 := n0_; have HL545_0 := n1_; have HO548 := n2_; have HL549_0 := n3_; have HO552 := n4_; have HR549_0 := n5_; have HB := n6_; clear n0_ n1_ n2_ n3_ n4_ n5_ n6_; (try clear hb); (try clear hb2); (try clear hk); (try clear hi)))
          go_roundg k1
          case measure => have := HK1.out; omega
          case rel => exact ⟨(y546), ((x6_1 ++ t553) ++ (⟨#[10]⟩ : ByteArray)), (wrap64 (x7_1 + 1)), (by first | rfl | (simp; done) | (simp [*]; done)), (by first | rfl | (simp; done) | (simp [*]; done)), H', ⟨by have := HK1.out; omega⟩, ⟨by (with_reducible repeat (first | apply Kd.N_alloc | apply Kd.N_drewN | apply Kd.N_drew)); exact Kd.N_mono HO_3.out (fun _ hk => hk.1.2)⟩, ⟨by (with_reducible repeat (first | apply Kd.N_alloc | apply Kd.N_drewN | apply Kd.N_drew)); exact Kd.N_mono HO548.out (fun _ hk => hk.1)⟩, ⟨by repeat (first | (with_reducible first | exact HB.out | apply below_alloc | apply pw_below_drewN | apply below_drew1) | exact HB.out)⟩⟩
         ·rw [if_neg c14] at H
          exact absurd H (by simp)
        ·rw [if_neg c13] at H
         exact absurd H (by simp)
       ·rw [if_neg c10] at H
        exact absurd H (by simp)
      ·rw [if_neg c9] at H
       exact absurd H (by simp)
     ·rw [if_neg c8] at H
      have c8b0 : decide (x7_1 < (t540.length : Int)) = false := decide_eq_false c8
      clear c8
      replace H := Option.bind_eq_some_iff.mp H
      obtain ⟨t554, A200, H⟩ := H
      replace H : (if (strOfNums t554).toList = x6_1.toList then ((flonglaw17_known.f k1).bind fun t557 => (some t557)) else (some false)) = some r := H
      have A20 := Aside0.mk A200
      clear A200
      by_cases c21 : (strOfNums t554).toList = x6_1.toList
      ·rw [if_pos c21] at H
       have c21b0 : ((strOfNums t554).toList == x6_1.toList) = true := beq_iff_eq.mpr c21
       have c21b1 : ((strOfNums t554).toList != x6_1.toList) = false := bne_eq_false_iff_eq.mpr c21
       clear c21
       replace H := Option.bind_eq_some_iff.mp H
       obtain ⟨t557, A220, H⟩ := H
       replace H : (some t557) = some r := H
       have A22 := Aside0.mk A220
       clear A220
       obtain rfl := Option.some.inj H
       obtain ⟨Ao23, co23, eo23⟩ := Kd.N_slice HO_3.out
       subst eo23
       obtain ⟨Ao24, co24, eo24⟩ := Kd.N_slice HO_5.out
       subst eo24
       go_wp2_with (first | ((with_reducible refine gate_callee (f := 13) rfl ?_); refine goesL_ (some 49) rfl rfl Tryd.func13 (by kernel_rfl) rfl #[.slice Ao24 x5_1.length co24] rfl (by (try simp only [List.map_toArray, List.map_cons, List.map_nil]); first | done | rfl | (simp only [List.length_drop, List.length_take]; rfl)) ?_; (with_reducible refine (plain_Write.calls k1 _ _ x5_1 t554 _ ?side1 ?side2 ?side3 A20.out).mono ?_); (case side1 => repeat (first | exact (Kd.N_reads' HO_5.out).2.2 | (with_reducible refine Kd.C_alloc ?_ _) | (with_reducible refine Kd.C_drewN ?_ _) | (with_reducible refine Kd.C_drew ?_))); (case side2 => exact (Kd.N_reads' HO_5.out).2.1); (case side3 => exact GOK.of_below (GOK.sub HG.out rfl) (by repeat (first | (with_reducible first | exact HB.out | apply below_alloc | apply pw_below_drewN | apply below_drew1) | exact HB.out))); rintro e w25 ⟨v555, rfl, ho0, hb⟩; refine ⟨_, rfl, ?_⟩; have n0_ := Aside0.mk (Kd.N_elder' (by (with_reducible repeat (first | apply Kd.N_alloc | apply Kd.N_drewN | apply Kd.N_drew)); exact HO_3.out) (Kd.R_base ho0) hb); have n1_ := Aside0.mk (Kd.N_elder' (by (with_reducible repeat (first | apply Kd.N_alloc | apply Kd.N_drewN | apply Kd.N_drew)); exact HO_5.out) (Kd.R_base ho0) hb); have n2_ := Aside0.mk (Kd.R_lower ho0 (below_size (by repeat (first | (with_reducible first | exact HB.out | apply below_alloc | apply pw_below_drewN | apply below_drew1) | exact HB.out)))); have n3_ := Aside0.mk (below_step (by repeat (first | (with_reducible first | exact HB.out | apply below_alloc | apply pw_below_drewN | apply below_drew1) | exact HB.out)) hb); clear HO_3; clear HO_5; clear HB; have HO_3 := n0_; have HO_5 := n1_; have HO556 := n2_; have HB := n3_; clear n0_ n1_ n2_ n3_; (try clear hb); (try clear hb2); (try clear hk); (try clear hi); (try clear ho0); have hcv26 := own_string (P := Tryd.prog) Tryd.underlying26 Tryd.underlying5 Tryd.underlying9 (Kd.own_of_R HO556.out)) | (go_at_call 11; (with_reducible refine (flonglaw17_known.calls k1  t557 _ ?side1 A22.out).mono ?_); (case side1 => exact GOK.of_below (GOK.sub HG.out rfl) (by repeat (first | (with_reducible first | exact HB.out | apply below_alloc | apply pw_below_drewN | apply below_drew1) | exact HB.out))); rintro e w27 ⟨rfl, hb⟩; have n0_ := Aside0.mk (Kd.N_below (by (with_reducible repeat (first | apply Kd.N_alloc | apply Kd.N_drewN | apply Kd.N_drew)); exact HO_3.out) hb); have n1_ := Aside0.mk (Kd.N_below (by (with_reducible repeat (first | apply Kd.N_alloc | apply Kd.N_drewN | apply Kd.N_drew)); exact HO_5.out) hb); have n2_ := Aside0.mk (Kd.R_below (by (with_reducible repeat (first | apply Kd.R_alloc | apply Kd.R_drewN | apply Kd.R_drew)); exact HO556.out) hb); have n3_ := Aside0.mk (below_step (by repeat (first | (with_reducible first | exact HB.out | apply below_alloc | apply pw_below_drewN | apply below_drew1) | exact HB.out)) hb); clear HO_3; clear HO_5; clear HO556; clear HB; have HO_3 := n0_; have HO_5 := n1_; have HO556 := n2_; have HB := n3_; clear n0_ n1_ n2_ n3_; (try clear hb); (try clear hb2); (try clear hk); (try clear hi)))
       go_ret
       exact ⟨by first | rfl | (simp [errW_none, errW_some] <;> rfl) | (simp [*, errW_none, errW_some] <;> rfl), by repeat (first | (with_reducible first | exact HB.out | apply below_alloc | apply pw_below_drewN | apply below_drew1) | exact HB.out)⟩
      ·rw [if_neg c21] at H
       have c21b0 : ((strOfNums t554).toList == x6_1.toList) = false := beq_eq_false_iff_ne.mpr c21
       have c21b1 : ((strOfNums t554).toList != x6_1.toList) = true := bne_iff_ne.mpr c21
       obtain rfl := Option.some.inj H
       obtain ⟨Ao28, co28, eo28⟩ := Kd.N_slice HO_3.out
       subst eo28
       obtain ⟨Ao29, co29, eo29⟩ := Kd.N_slice HO_5.out
       subst eo29
       go_wp2_with (first | ((with_reducible refine gate_callee (f := 13) rfl ?_); refine goesL_ (some 49) rfl rfl Tryd.func13 (by kernel_rfl) rfl #[.slice Ao29 x5_1.length co29] rfl (by (try simp only [List.map_toArray, List.map_cons, List.map_nil]); first | done | rfl | (simp only [List.length_drop, List.length_take]; rfl)) ?_; (with_reducible refine (plain_Write.calls k1 _ _ x5_1 t554 _ ?side1 ?side2 ?side3 A20.out).mono ?_); (case side1 => repeat (first | exact (Kd.N_reads' HO_5.out).2.2 | (with_reducible refine Kd.C_alloc ?_ _) | (with_reducible refine Kd.C_drewN ?_ _) | (with_reducible refine Kd.C_drew ?_))); (case side2 => exact (Kd.N_reads' HO_5.out).2.1); (case side3 => exact GOK.of_below (GOK.sub HG.out rfl) (by repeat (first | (with_reducible first | exact HB.out | apply below_alloc | apply pw_below_drewN | apply below_drew1) | exact HB.out))); rintro e w30 ⟨v555, rfl, ho0, hb⟩; refine ⟨_, rfl, ?_⟩; have n0_ := Aside0.mk (Kd.N_elder' (by (with_reducible repeat (first | apply Kd.N_alloc | apply Kd.N_drewN | apply Kd.N_drew)); exact HO_3.out) (Kd.R_base ho0) hb); have n1_ := Aside0.mk (Kd.N_elder' (by (with_reducible repeat (first | apply Kd.N_alloc | apply Kd.N_drewN | apply Kd.N_drew)); exact HO_5.out) (Kd.R_base ho0) hb); have n2_ := Aside0.mk (Kd.R_lower ho0 (below_size (by repeat (first | (with_reducible first | exact HB.out | apply below_alloc | apply pw_below_drewN | apply below_drew1) | exact HB.out)))); have n3_ := Aside0.mk (below_step (by repeat (first | (with_reducible first | exact HB.out | apply below_alloc | apply pw_below_drewN | apply below_drew1) | exact HB.out)) hb); clear HO_3; clear HO_5; clear HB; have HO_3 := n0_; have HO_5 := n1_; have HO556 := n2_; have HB := n3_; clear n0_ n1_ n2_ n3_; (try clear hb); (try clear hb2); (try clear hk); (try clear hi); (try clear ho0); have hcv31 := own_string (P := Tryd.prog) Tryd.underlying26 Tryd.underlying5 Tryd.underlying9 (Kd.own_of_R HO556.out)))
       go_ret
       exact ⟨by first | rfl | (simp [errW_none, errW_some] <;> rfl) | (simp [*, errW_none, errW_some] <;> rfl), by repeat (first | (with_reducible first | exact HB.out | apply below_alloc | apply pw_below_drewN | apply below_drew1) | exact HB.out)⟩
  ·rw [if_neg c6] at H
   have c6b0 : (t541 == 0) = false := beq_eq_false_iff_ne.mpr c6
   have c6b1 : (t541 != 0) = true := bne_iff_ne.mpr c6
   by_cases c32 : (t540.length : Int) = 0
   ·rw [if_pos c32] at H
    have c32b0 : ((t540.length : Int) == 0) = true := beq_iff_eq.mpr c32
    have c32b1 : ((t540.length : Int) != 0) = false := bne_eq_false_iff_eq.mpr c32
    clear c32
    replace H := Option.bind_eq_some_iff.mp H
    obtain ⟨t544, A330, H⟩ := H
    replace H : (some t544) = some r := H
    have A33 := Aside0.mk A330
    clear A330
    obtain rfl := Option.some.inj H
    go_enter Tryd.func8, Tryd.ntmps8
    go_wp2_with (first | ((with_reducible refine gate_callee (f := 27) rfl ?_); refine goesL_ (some 14) rfl rfl Tryd.func27 (by kernel_rfl) rfl #[.slice A0 l0.length c0] rfl (by (try simp only [List.map_toArray, List.map_cons, List.map_nil]); first | done | rfl | (simp only [List.length_drop, List.length_take]; rfl)) ?_; (with_reducible refine (plain_Read.calls k _ _ l0 t540 t541 _ ?side1 ?side2 A5.out).mono ?_); (case side1 => repeat (first | exact HR0.out | (with_reducible refine Kd.C_alloc ?_ _) | (with_reducible refine Kd.C_drewN ?_ _) | (with_reducible refine Kd.C_drew ?_))); (case side2 => exact HC0.out); rintro e w34 ⟨v542, rfl, ho0, hb⟩; refine ⟨_, rfl, ?_⟩; have n0_ := Aside0.mk (Kd.N_lower (Kd.N_mono (ok' := fun k_ => True) (Kd.S_N (Kd.S_bound ho0)) (fun k_ hk_ => trivial)) (below_size (by repeat (first | (with_reducible first | exact HB.out | apply below_alloc | apply pw_below_drewN | apply below_drew1) | exact HB.out)))); have n1_ := Aside0.mk (below_step (by repeat (first | (with_reducible first | exact HB.out | apply below_alloc | apply pw_below_drewN | apply below_drew1) | exact HB.out)) hb); clear HB; have HO543 := n0_; have HB := n1_; clear n0_ n1_; (try clear hb); (try clear hb2); (try clear hk); (try clear hi); (try clear ho0); obtain ⟨Ao35, co35, eo35⟩ := Kd.N_slice HO543.out; subst eo35) | (go_at_call 11; (with_reducible refine (flonglaw17_known.calls k  t544 _ ?side1 A33.out).mono ?_); (case side1 => exact GOK.of_below (GOK.sub HG.out rfl) (by repeat (first | (with_reducible first | exact HB.out | apply below_alloc | apply pw_below_drewN | apply below_drew1) | exact HB.out))); rintro e w36 ⟨rfl, hb⟩; have n0_ := Aside0.mk (Kd.N_below (by (with_reducible repeat (first | apply Kd.N_alloc | apply Kd.N_drewN | apply Kd.N_drew)); exact HO543.out) hb); have n1_ := Aside0.mk (below_step (by repeat (first | (with_reducible first | exact HB.out | apply below_alloc | apply pw_below_drewN | apply below_drew1) | exact HB.out)) hb); clear HO543; clear HB; have HO543 := n0_; have HB := n1_; clear n0_ n1_; (try clear hb); (try clear hb2); (try clear hk); (try clear hi)))
    go_ret
    exact ⟨by first | rfl | (simp [errW_none, errW_some] <;> rfl) | (simp [*, errW_none, errW_some] <;> rfl), by repeat (first | (with_reducible first | exact HB.out | apply below_alloc | apply pw_below_drewN | apply below_drew1) | exact HB.out)⟩
   ·rw [if_neg c32] at H
    have c32b0 : ((t540.length : Int) == 0) = false := beq_eq_false_iff_ne.mpr c32
    have c32b1 : ((t540.length : Int) != 0) = true := bne_iff_ne.mpr c32
    have c32b2 : ¬ (t540 = []) := fun h_ => c32 (by rw [h_]; rfl)
    obtain rfl := Option.some.inj H
    go_enter Tryd.func8, Tryd.ntmps8
    go_wp2_with (first | ((with_reducible refine gate_callee (f := 27) rfl ?_); refine goesL_ (some 14) rfl rfl Tryd.func27 (by kernel_rfl) rfl #[.slice A0 l0.length c0] rfl (by (try simp only [List.map_toArray, List.map_cons, List.map_nil]); first | done | rfl | (simp only [List.length_drop, List.length_take]; rfl)) ?_; (with_reducible refine (plain_Read.calls k _ _ l0 t540 t541 _ ?side1 ?side2 A5.out).mono ?_); (case side1 => repeat (first | exact HR0.out | (with_reducible refine Kd.C_alloc ?_ _) | (with_reducible refine Kd.C_drewN ?_ _) | (with_reducible refine Kd.C_drew ?_))); (case side2 => exact HC0.out); rintro e w37 ⟨v542, rfl, ho0, hb⟩; refine ⟨_, rfl, ?_⟩; have n0_ := Aside0.mk (Kd.N_lower (Kd.N_mono (ok' := fun k_ => True) (Kd.S_N (Kd.S_bound ho0)) (fun k_ hk_ => trivial)) (below_size (by repeat (first | (with_reducible first | exact HB.out | apply below_alloc | apply pw_below_drewN | apply below_drew1) | exact HB.out)))); have n1_ := Aside0.mk (below_step (by repeat (first | (with_reducible first | exact HB.out | apply below_alloc | apply pw_below_drewN | apply below_drew1) | exact HB.out)) hb); clear HB; have HO543 := n0_; have HB := n1_; clear n0_ n1_; (try clear hb); (try clear hb2); (try clear hk); (try clear hi); (try clear ho0); obtain ⟨Ao38, co38, eo38⟩ := Kd.N_slice HO543.out; subst eo38))
    go_ret
    exact ⟨by first | rfl | (simp [errW_none, errW_some] <;> rfl) | (simp [*, errW_none, errW_some] <;> rfl), by repeat (first | (with_reducible first | exact HB.out | apply below_alloc | apply pw_below_drewN | apply below_drew1) | exact HB.out)⟩

end Go.Proofs.YtadejblahbebdaaDoor.X
