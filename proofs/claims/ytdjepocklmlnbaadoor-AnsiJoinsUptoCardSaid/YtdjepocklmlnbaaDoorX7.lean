-- Written by this session's xprint.py (a variant of the kit's printer). Not trusted: Lean checks it.
import Derived.Test.YtdjepocklmlnbaaDoorX0
import Derived.Test.YtdjepocklmlnbaaDoorSlim
import Derived.Test.YtdjepocklmlnbaaDoorX6
import Derived.Test.YtdjepocklmlnbaaDoorHandA
import Derived.Test.YtdjepocklmlnbaaDoorHandW
namespace Go.Proofs.YtdjepocklmlnbaaDoor.X
open Go.Proofs.YtdjepocklmlnbaaDoor.Hand
open Go.RowKit Go.Proofs.YtdjepocklmlnbaaDoorW.PrintWords Go.Proofs.YtdjepocklmlnbaaDoorW.PrintLast Go.Proofs.YtdjepocklmlnbaaDoorW.PrintMore
attribute [local go_sem] max2_int min2_int max_two min_two max_three min_three max_four min_four   -- for this text's walks alone
set_option linter.unusedVariables false
set_option maxHeartbeats 8000000
set_option maxRecDepth 100000
set_option linter.unusedSimpArgs false

/-! ### ansi_Write: function 18 -/
def ansi_Write.l0 : Nat → List Int → List (List (S44)) → Int → Int → Option (List Int)
 | 0, _, _, _, _ => none
 | k + 1, x3, x7, x8, x9 => if x9 < x8 then (if 0 ≤ x9 then (if x9 < (x7.length : Int) then ((ansi_Row.f k (rd_L5 x7 x9)).bind fun t222 => (if x3.length + t222.length < 140737488355328 then ((some (x3 ++ t222 : List Int)).bind fun y225 => (if y225.length < 140737488355328 then (ansi_Write.l0 k (y225 ++ [10]) x7 x8 (wrap64 (x9 + 1))) else (none))) else (none))) else (none)) else (none)) else (some x3)
def ansi_Write.f (k : Nat) (l0 : List (S35)) : Option (List Int) := (plain_Rows.f k l0).bind fun t218 => (ansi_Write.l0 k ([] : List Int) t218 (t218.length : Int) 0)
theorem ansi_Write.mono_l : ∀ k, (∀ y0 y1 y2 y3, LeO (ansi_Write.l0 k y0 y1 y2 y3) (ansi_Write.l0 (k + 1) y0 y1 y2 y3))
 | 0 => fun _ _ _ _ r h => by simp [ansi_Write.l0] at h
 | k + 1 => by
  have ih0 := ansi_Write.mono_l k
  ·intro y0 y1 y2 y3
   unfold ansi_Write.l0
   repeat' first
   | (with_reducible exact ih0 _ _ _ _)
   | (with_reducible exact ansi_Row.mono _ _)
   | (with_reducible exact plain_Rows.mono _ _)
   | (with_reducible exact LeO.refl _)
   | (with_reducible exact LeO.none _)
   | (with_reducible refine LeO.ite ?_ ?_)
   | (with_reducible refine LeO.bind ?_ (fun _ => ?_))
theorem ansi_Write.mono : ∀ a0 k, LeO (ansi_Write.f k a0) (ansi_Write.f (k + 1) a0) := by
 intro a0 k
 have ih0 := ansi_Write.mono_l k
 unfold ansi_Write.f
 repeat' first
   | (with_reducible exact ih0 _ _ _ _)
   | (with_reducible exact ansi_Row.mono _ _)
   | (with_reducible exact plain_Rows.mono _ _)
   | (with_reducible exact LeO.refl _)
   | (with_reducible exact LeO.none _)
   | (with_reducible refine LeO.ite ?_ ?_)
   | (with_reducible refine LeO.bind ?_ (fun _ => ?_))
theorem ansi_Write.calls (k : Nat) (A0 : Option Addr) (c0 : Nat) (l0 : List (S35)) (r : List Int) (w : World) (hr0 : Kd.C k35 w A0 l0.length l0) (hc0 : l0.length ≤ c0) (hG : GOK [0,1,2] w) (h : ansi_Write.f k l0 = some r) :
  Calls Tryd.prog 18 #[.slice A0 l0.length c0] w fun e w' => ∃ v0_ : Value, e = .returned (v0_) ∧ Kd.R (Kd.int .u8) 5 w' w.heap.size (fun _ => True) v0_ r ∧ Below w.heap.size w w' := by
 have HG := Aside0.mk hG
 clear hG
 have HR0 := Aside0.mk hr0
 have HC0 := Aside0.mk hc0
 clear hr0 hc0
 have HB := Aside0.mk (Below.refl w.heap.size w)
 have H : ((plain_Rows.f k l0).bind fun t218 => (ansi_Write.l0 k ([] : List Int) t218 (t218.length : Int) 0)) = some r := h
 clear h
 replace H := Option.bind_eq_some_iff.mp H
 obtain ⟨t218, A20, H⟩ := H
 replace H : (ansi_Write.l0 k ([] : List Int) t218 (t218.length : Int) 0) = some r := H
 have A2 := Aside0.mk A20
 clear A20
 have H' := Aside0.mk H
 clear H
 go_enter Tryd.func18, Tryd.ntmps18
 go_wp2_with (first | ((with_reducible refine gate_callee (f := 38) rfl ?_); refine goesL_ (some 7) rfl rfl Tryd.func38 (by kernel_rfl) rfl #[.slice A0 l0.length c0] rfl aP ?_; (with_reducible refine (plain_Rows.calls k _ _ l0 t218 _ ?side1 ?side2 ?side3 A2.out).mono ?_); (case side1 => repeat (first | exact HR0.out | (with_reducible refine Kd.C_alloc ?_ _) | (with_reducible refine Kd.C_drewN ?_ _) | (with_reducible refine Kd.C_drew ?_))); (case side2 => exact HC0.out); (case side3 => exact GOK.of_below (GOK.sub HG.out rfl) bA); rintro e w3 ⟨v219, rfl, ho0, hb⟩; refine ⟨_, rfl, ?_⟩; have HO220 := Aside0.mk (Kd.S_lower ho0 (below_size bA)); replace HB := Aside0.mk (below_step bA hb); (try clear hb); (try clear hb2); (try clear hk); (try clear hi); (try clear ho0); obtain ⟨Ao4, co4, eo4⟩ := Kd.S_slice HO220.out; subst eo4))
 go_loopg [3, 9] k (fun kq v3 v9 w' => ∃ (x3_1 : List Int) (x9_1 : Int), v9 = .int .i64 x9_1 ∧ Aside0 (ansi_Write.l0 kq x3_1 t218 (t218.length : Int) x9_1 = some r) ∧ Aside0 (kq ≤ k) ∧ Aside0 (Kd.R (Kd.int .u8) 5 w' w.heap.size (fun _ => True) v3 x3_1) ∧ Aside0 (Kd.S (Kd.slice 44 k44) 33 w' w.heap.size (fun _ => True) (.slice Ao4 t218.length co4) t218) ∧ Aside0 (Below w.heap.size w w'))
 case atStart => exact ⟨(([] : List Int)), (0), sA, H', ⟨Nat.le_refl _⟩, ⟨by first | exact Kd.R_nil _ _ _ _ _ | exact Kd.N_nil _ _ _ _ _ | exact Kd.V_nil _ _ _ _ _ | exact Kd.Q_nil _ _ _ _ _ | exact Kd.S_nil _ _ _ _ _⟩, ⟨kS HO220⟩, ⟨bA⟩⟩
 case round =>
  clear H'
  try clear c1
  try clear p2
  try clear c3
  obtain ⟨x3_1, x9_1, rfl, HA, HK1, HO_3, HO_7, HB⟩ := hrel
  cases gk with
  | zero => exact absurd HA.out (by simp [ansi_Write.l0])
  | succ k1 =>
   have H := HA.out
   clear HA
   simp only [ansi_Write.l0] at H
   by_cases c5 : x9_1 < (t218.length : Int)
   ·rw [if_pos c5] at H
    have c5b0 : decide (x9_1 < (t218.length : Int)) = true := decide_eq_true c5
    clear c5
    by_cases c6 : 0 ≤ x9_1
    ·rw [if_pos c6] at H
     have c6b0 : decide (0 ≤ x9_1) = true := decide_eq_true c6
     clear c6
     by_cases c7 : x9_1 < (t218.length : Int)
     ·rw [if_pos c7] at H
      have c7b0 : decide (x9_1 < (t218.length : Int)) = true := decide_eq_true c7
      clear c7
      replace H := Option.bind_eq_some_iff.mp H
      obtain ⟨t222, A80, H⟩ := H
      replace H : (if x3_1.length + t222.length < 140737488355328 then ((some (x3_1 ++ t222 : List Int)).bind fun y225 => (if y225.length < 140737488355328 then (ansi_Write.l0 k1 (y225 ++ [10]) t218 (t218.length : Int) (wrap64 (x9_1 + 1))) else (none))) else (none)) = some r := H
      have A8 := Aside0.mk A80
      clear A80
      by_cases c9 : x3_1.length + t222.length < 140737488355328
      ·rw [if_pos c9] at H
       have LMc9 := Aside0.mk c9
       clear c9
       obtain ⟨y225, hy225⟩ : ∃ y_ : List Int, y_ = (x3_1 ++ t222) := ⟨_, rfl⟩
       replace H : (if y225.length < 140737488355328 then (ansi_Write.l0 k1 (y225 ++ [10]) t218 (t218.length : Int) (wrap64 (x9_1 + 1))) else (none)) = some r := hyA hy225 H
       have Ny225 := Aside0.mk hy225
       clear hy225
       by_cases c10 : y225.length < 140737488355328
       ·rw [if_pos c10] at H
        have LMc10 := Aside0.mk c10
        clear c10
        obtain ⟨y228, hy228⟩ : ∃ y_ : List Int, y_ = (y225 ++ [10]) := ⟨_, rfl⟩
        replace H : (ansi_Write.l0 k1 y228 t218 (t218.length : Int) (wrap64 (x9_1 + 1))) = some r := hyA hy228 H
        have Ny228 := Aside0.mk hy228
        clear hy228
        have H' := Aside0.mk H
        clear H
        have p221 : 0 ≤ (x9_1 : Int) := of_decide_eq_true asA
        have q221 : x9_1 < (t218.length : Int) := of_decide_eq_true asA
        obtain ⟨ad221, A221_0, c221_0, e221, hx221_0, hl221_0, hi221_0⟩ := at_L5 (Kd.S_reads' HO_7.out).2.2 x9_1 p221 q221
        cases e221
        obtain ⟨ce221, hce221, hMe221, hcc221⟩ := Kd.S_get HO_7.out [] x9_1 p221 (by first | exact q221 | exact of_decide_eq_true asA | (have e_ := (Kd.S_reads' HO_7.out).1; omega))
        obtain ⟨ve221_0, rfl, ge221_0⟩ := hMe221
        have hv221_0 := hcc221 0 _ rfl
        rw [Nat.add_zero, show ((Kd.slice 44 k44)).sz = 1 from rfl, Nat.mul_one] at hv221_0
        replace hv221_0 := Option.some.inj (hv221_0.symm.trans hx221_0)
        rw [hv221_0] at ge221_0
        have HL221_0 := Aside0.mk (show Kd.R k44 44 _ _ _ _ (rd_L5 t218 x9_1) from ge221_0)
        clear hv221_0 ge221_0
        clear hcc221 hce221
        have HR221_0 := Aside0.mk hi221_0
        have HC221_0 := Aside0.mk hl221_0
        clear hi221_0 hl221_0
        replace p221 := eq_true p221
        replace q221 := eq_true q221
        go_wp2_with (first | ((with_reducible refine gate_callee (f := 16) rfl ?_); refine goesL_ (some 15) rfl rfl Tryd.func16 (by kernel_rfl) rfl #[.slice A221_0 (rd_L5 t218 x9_1).length c221_0] rfl aP ?_; (with_reducible refine (ansi_Row.calls k1 _ _ (rd_L5 t218 x9_1) t222 _ ?side1 ?side2 ?side3 A8.out).mono ?_); (case side1 => repeat (first | exact (by repeat (first | (with_reducible exact HR221_0.out) | (with_reducible refine Kd.C_alloc ?_ _) | (with_reducible refine Kd.C_drewN ?_ _) | (with_reducible refine Kd.C_drew ?_) | exact HR221_0.out)) | (with_reducible refine Kd.C_alloc ?_ _) | (with_reducible refine Kd.C_drewN ?_ _) | (with_reducible refine Kd.C_drew ?_))); (case side2 => exact HC221_0.out); (case side3 => exact GOK.of_below (GOK.sub HG.out rfl) bA); rintro e w11 ⟨v223, rfl, ho0, hb⟩; refine ⟨_, rfl, ?_⟩; have n0_ := Aside0.mk (Kd.R_elder' (kR HO_3) (Kd.R_base ho0) hb); have n1_ := Aside0.mk (Kd.S_below (kS HO_7) hb); have n2_ := Aside0.mk (Kd.R_below (kR HL221_0) hb); have n3_ := Aside0.mk (Kd.R_lower (Kd.R_new' ho0 (Kd.R_lt (kR HO_3))) (below_size bA)); have n4_ := Aside0.mk (Kd.C_below (by repeat (first | (with_reducible exact HR221_0.out) | (with_reducible refine Kd.C_alloc ?_ _) | (with_reducible refine Kd.C_drewN ?_ _) | (with_reducible refine Kd.C_drew ?_) | exact HR221_0.out)) hb); have n5_ := Aside0.mk (below_step bA hb); clear HO_3; clear HO_7; clear HL221_0; clear HR221_0; clear HB; have HO_3 := n0_; have HO_7 := n1_; have HL221_0 := n2_; have HO224 := n3_; have HR221_0 := n4_; have HB := n5_; clear n0_ n1_ n2_ n3_ n4_ n5_; (try clear hb); (try clear hb2); (try clear hk); (try clear hi); (try clear ho0); obtain ⟨Ao13, co13, eo13⟩ := Kd.R_slice HO224.out; subst eo13) | ((with_reducible refine gate_builtin (b := .append) (xs := #[.tmp 13, .tmp 15]) rfl ?_); at_builtin; refine Kd.R_append_rows (Kd.int .u8) (w0 := w) w.heap.size rfl (.tmp 13) (.tmp 15) 22 5 (.int .u8 0) 1 rfl Tryd.underlying22 info5 rfl (by decide) (by omega) u3 x3_1 t222 _ _ _ (fun k_ => some k_ ≠ (.slice Ao13 t222.length co13 : Value).ownBlock) (fun _ => False) rfl rfl ?aO ?aR (fun _ _ h => h) (fun _ h => h.elim) ?aF ?aB ?aS ?aL ?_; (case aR => repeat (first | exact (Kd.R_reads' HO224.out).2.2 | (with_reducible refine Kd.C_alloc ?_ _) | (with_reducible refine Kd.C_drewN ?_ _) | (with_reducible refine Kd.C_drew ?_))); (case aB => exact bA); (case aF => exact (fun k_ hk => Kd.fresh' (Kd.R_lt (kR HO224)) k_ hk)); (case aO => exact (by (with_reducible repeat (first | apply Kd.R_alloc | apply Kd.R_drewN | apply Kd.R_drew)); exact Kd.R_mono HO_3.out (fun _ hk => hk.2))); (case aS => exact (below_size bA)); (case aL => have := LMc9.out; omega); intro v226 w12 ho hb hg hat; rw [← Ny225.out] at ho; have n0_ := Aside0.mk (Kd.S_over' (kS HO_7) (Kd.R_typed (kR HO_3)) (by decide) hg); have n1_ := Aside0.mk (Kd.R_over' (kR HL221_0) (Kd.R_typed (kR HO_3)) (by decide) hg); have n2_ := Aside0.mk (Kd.R_after (ok := (fun _ => True)) (kR HO224) hg hat); have n3_ := Aside0.mk (hb); have n4_ := Aside0.mk (ho); clear HO_7; clear HL221_0; clear HO224; clear HB; clear HO_3; have HO_7 := n0_; have HL221_0 := n1_; have HO224 := n2_; have HB := n3_; have HO227 := n4_; clear n0_ n1_ n2_ n3_ n4_; clear ho hb hg hat) | ((with_reducible refine gate_builtin (b := .append) (xs := #[.tmp 16, .tmp 17]) rfl ?_); at_builtin; refine Kd.R_append (Kd.int .u8) (w0 := w) w.heap.size rfl (.tmp 16) (.tmp 17) 22 5 (.int .u8 0) 1 rfl Tryd.underlying22 info5 rfl (by decide) (by omega) v226 y225 10 [.int .u8 10] (fun k_ => some k_ ≠ (.slice Ao13 t222.length co13 : Value).ownBlock) (fun _ => False) rfl rfl ?aP (fun _ hk => hk.elim) ?aF ?aO ?aB ?aS ?aL ?_; (case aP => exact rfl); (case aB => exact bA); (case aF => exact (fun k_ hk => Kd.fresh' (Kd.R_lt (kR HO224)) k_ hk)); (case aO => exact (kR HO227)); (case aS => exact (below_size bA)); (case aL => have := LMc10.out; omega); intro v229 w14 ho hb hg hat; rw [← Ny228.out] at ho; have n0_ := Aside0.mk (Kd.S_over' (kS HO_7) (Kd.R_typed (kR HO227)) (by decide) hg); have n1_ := Aside0.mk (Kd.R_over' (kR HL221_0) (Kd.R_typed (kR HO227)) (by decide) hg); have n2_ := Aside0.mk (Kd.R_after (ok := (fun _ => True)) (kR HO224) hg hat); have n3_ := Aside0.mk (hb); have n4_ := Aside0.mk (ho); clear HO_7; clear HL221_0; clear HO224; clear HB; clear HO227; have HO_7 := n0_; have HL221_0 := n1_; have HO224 := n2_; have HB := n3_; have HO230 := n4_; clear n0_ n1_ n2_ n3_ n4_; clear ho hb hg hat))
        go_roundg k1
        case measure => have := HK1.out; omega
        case rel => exact ⟨(y228), (wrap64 (x9_1 + 1)), sA, H', ⟨by have := HK1.out; omega⟩, ⟨by (with_reducible repeat (first | apply Kd.R_alloc | apply Kd.R_drewN | apply Kd.R_drew)); exact Kd.R_mono HO230.out (fun _ hk => trivial)⟩, ⟨kS HO_7⟩, ⟨bA⟩⟩
       ·rw [if_neg c10] at H
        exact absurd H (by simp)
      ·rw [if_neg c9] at H
       exact absurd H (by simp)
     ·rw [if_neg c7] at H
      exact absurd H (by simp)
    ·rw [if_neg c6] at H
     exact absurd H (by simp)
   ·rw [if_neg c5] at H
    have c5b0 : decide (x9_1 < (t218.length : Int)) = false := decide_eq_false c5
    clear c5
    obtain rfl := Option.some.inj H
    go_wp2
    go_ret
    exact ⟨_, eW, kR HO_3, bA⟩

/-! ### flongref17_Erase: function 23 -/
def flongref17_Erase.l0 : Nat → List (S44) → List (S44) → Int → Option ((List (S44)))
 | 0, _, _, _ => none
 | k + 1, x0, x3, x4 => if x4 < (x0.length : Int) then (if 0 ≤ x4 then (if x3.length < 17592186044416 then (flongref17_Erase.l0 k x0 (x3 ++ [(⟨(rd_T44 x0 x4).f0, 0⟩ : S44)]) (wrap64 (x4 + 1))) else (none)) else (none)) else (some x3)
def flongref17_Erase.f (k : Nat) (l0 : List (S44)) : Option ((List (S44))) := flongref17_Erase.l0 k l0 ([] : List (S44)) 0
theorem flongref17_Erase.mono_l : ∀ k, (∀ y0 y1 y2, LeO (flongref17_Erase.l0 k y0 y1 y2) (flongref17_Erase.l0 (k + 1) y0 y1 y2))
 | 0 => fun _ _ _ r h => by simp [flongref17_Erase.l0] at h
 | k + 1 => by
  have ih0 := flongref17_Erase.mono_l k
  ·intro y0 y1 y2
   unfold flongref17_Erase.l0
   repeat' first
   | (with_reducible exact ih0 _ _ _)
   | (with_reducible exact LeO.refl _)
   | (with_reducible exact LeO.none _)
   | (with_reducible refine LeO.ite ?_ ?_)
   | (with_reducible refine LeO.bind ?_ (fun _ => ?_))
theorem flongref17_Erase.mono : ∀ a0 k, LeO (flongref17_Erase.f k a0) (flongref17_Erase.f (k + 1) a0) := by
 intro a0 k
 have ih0 := flongref17_Erase.mono_l k
 unfold flongref17_Erase.f
 repeat' first
   | (with_reducible exact ih0 _ _ _)
   | (with_reducible exact LeO.refl _)
   | (with_reducible exact LeO.none _)
   | (with_reducible refine LeO.ite ?_ ?_)
   | (with_reducible refine LeO.bind ?_ (fun _ => ?_))
theorem flongref17_Erase.calls (k : Nat) (A0 : Option Addr) (c0 : Nat) (l0 : List (S44)) (r : List (S44)) (w : World) (hr0 : Kd.C k44 w A0 l0.length l0) (hc0 : l0.length ≤ c0) (h : flongref17_Erase.f k l0 = some r) :
  Calls Tryd.prog 23 #[.slice A0 l0.length c0] w fun e w' => ∃ v0_ : Value, e = .returned (v0_) ∧ Kd.R k44 44 w' w.heap.size (fun _ => True) v0_ r ∧ Below w.heap.size w w' := by
 have hu44 := Tryd.underlying44
 have HR0 := Aside0.mk hr0
 have HC0 := Aside0.mk hc0
 clear hr0 hc0
 have HB := Aside0.mk (Below.refl w.heap.size w)
 have H : (flongref17_Erase.l0 k l0 ([] : List (S44)) 0) = some r := h
 clear h
 have H' := Aside0.mk H
 clear H
 go_enter Tryd.func23, Tryd.ntmps23
 go_wp2
 go_loopg [3, 4] k (fun kq v3 v4 w' => ∃ (x3_1 : List (S44)) (x4_1 : Int), v4 = .int .i64 x4_1 ∧ Aside0 (flongref17_Erase.l0 kq l0 x3_1 x4_1 = some r) ∧ Aside0 (kq ≤ k) ∧ Aside0 (Kd.R k44 44 w' w.heap.size (fun _ => True) v3 x3_1) ∧ Aside0 (Below w.heap.size w w'))
 case atStart => exact ⟨(([] : List (S44))), (0), sA, H', ⟨Nat.le_refl _⟩, ⟨by first | exact Kd.R_nil _ _ _ _ _ | exact Kd.N_nil _ _ _ _ _ | exact Kd.V_nil _ _ _ _ _ | exact Kd.Q_nil _ _ _ _ _ | exact Kd.S_nil _ _ _ _ _⟩, ⟨bA⟩⟩
 case round =>
  clear H'
  obtain ⟨x3_1, x4_1, rfl, HA, HK1, HO_3, HB⟩ := hrel
  cases gk with
  | zero => exact absurd HA.out (by simp [flongref17_Erase.l0])
  | succ k1 =>
   have H := HA.out
   clear HA
   simp only [flongref17_Erase.l0] at H
   by_cases c2 : x4_1 < (l0.length : Int)
   ·rw [if_pos c2] at H
    have c2b0 : decide (x4_1 < (l0.length : Int)) = true := decide_eq_true c2
    clear c2
    by_cases c3 : 0 ≤ x4_1
    ·rw [if_pos c3] at H
     have c3b0 : decide (0 ≤ x4_1) = true := decide_eq_true c3
     clear c3
     by_cases c4 : x3_1.length < 17592186044416
     ·rw [if_pos c4] at H
      have LMc4 := Aside0.mk c4
      clear c4
      obtain ⟨y232, hy232⟩ : ∃ y_ : List (S44), y_ = (x3_1 ++ [(⟨(rd_T44 l0 x4_1).f0, 0⟩ : S44)]) := ⟨_, rfl⟩
      replace H : (flongref17_Erase.l0 k1 l0 y232 (wrap64 (x4_1 + 1))) = some r := hyA hy232 H
      have Ny232 := Aside0.mk hy232
      clear hy232
      have H' := Aside0.mk H
      clear H
      have p231 : 0 ≤ (x4_1 : Int) := of_decide_eq_true asA
      have q231 : x4_1 < (l0.length : Int) := of_decide_eq_true asA
      obtain ⟨ad231, e231, hx231_0, hx231_1⟩ := at_T44 HR0.out x4_1 p231 q231
      cases e231
      replace hx231_0 := (HB.out.cell (World.block_lt_of_cell? w _ hx231_0)).trans hx231_0
      replace hx231_1 := (HB.out.cell (World.block_lt_of_cell? w _ hx231_1)).trans hx231_1
      replace p231 := eq_true p231
      replace q231 := eq_true q231
      go_wp2_with (first | ((with_reducible refine gate_builtin (b := .append) (xs := #[.tmp 11, .tmp 18]) rfl ?_); at_builtin; refine Kd.R_append k44 (w0 := w) w.heap.size rfl (.tmp 11) (.tmp 18) 33 44 (.agg #[(.int .i32 0), (.int .u8 0)]) 8 rfl Tryd.underlying33 info44 rfl (by decide) (by omega) u3 x3_1 (⟨(rd_T44 l0 x4_1).f0, 0⟩ : S44) [.int .i32 ((rd_T44 l0 x4_1).f0), .int .u8 0] (fun _ => True) (fun _ => False) rfl rfl ?aP (fun _ hk => hk.elim) ?aF ?aO ?aB ?aS ?aL ?_; (case aP => exact k44_mkM _ _ _ (⟨(rd_T44 l0 x4_1).f0, 0⟩ : S44)); (case aB => exact bA); (case aF => exact (fun _ _ => trivial)); (case aO => exact (kR HO_3)); (case aS => exact (below_size bA)); (case aL => have := LMc4.out; omega); intro v233 w5 ho hb hg hat; rw [← Ny232.out] at ho; have n0_ := Aside0.mk (hb); have n1_ := Aside0.mk (ho); clear HB; clear HO_3; have HB := n0_; have HO234 := n1_; clear n0_ n1_; clear ho hb hg hat))
      go_roundg k1
      case measure => have := HK1.out; omega
      case rel => exact ⟨(y232), (wrap64 (x4_1 + 1)), sA, H', ⟨by have := HK1.out; omega⟩, ⟨kR HO234⟩, ⟨bA⟩⟩
     ·rw [if_neg c4] at H
      exact absurd H (by simp)
    ·rw [if_neg c3] at H
     exact absurd H (by simp)
   ·rw [if_neg c2] at H
    have c2b0 : decide (x4_1 < (l0.length : Int)) = false := decide_eq_false c2
    clear c2
    obtain rfl := Option.some.inj H
    go_wp2
    go_ret
    exact ⟨_, eW, kR HO_3, bA⟩

/-! ### flongref02_Valid: function 58 -/
def flongref02_Valid.f (a0 : Int) : Option (Bool) := if a0 ≥ 0 then (if a0 < 1114112 then (if a0 < 55296 then (some true) else (some (decide (a0 > 57343)))) else (some false)) else (some false)
theorem flongref02_Valid.calls (a0 : Int) (r : Bool) (w : World) (h : flongref02_Valid.f a0 = some r) :
  Calls Tryd.prog 58 #[.int .i32 a0] w fun e w' => e = .returned (.bool r) ∧ Drawn0 w w' := by
 have H : (if a0 ≥ 0 then (if a0 < 1114112 then (if a0 < 55296 then (some true) else (some (decide (a0 > 57343)))) else (some false)) else (some false)) = some r := h
 clear h
 by_cases c2 : a0 ≥ 0
 ·rw [if_pos c2] at H
  have c2b0 : decide (0 ≤ a0) = true := decide_eq_true c2
  clear c2
  by_cases c3 : a0 < 1114112
  ·rw [if_pos c3] at H
   have c3b0 : decide (a0 < 1114112) = true := decide_eq_true c3
   clear c3
   by_cases c4 : a0 < 55296
   ·rw [if_pos c4] at H
    have c4b0 : decide (a0 < 55296) = true := decide_eq_true c4
    clear c4
    obtain rfl := Option.some.inj H
    go_enter Tryd.func58, Tryd.ntmps58
    go_wp2
    go_ret
    exact ⟨sA, by repeat (first | exact Drawn0.refl _ | apply Drawn0.step)⟩
   ·rw [if_neg c4] at H
    have c4b0 : decide (a0 < 55296) = false := decide_eq_false c4
    clear c4
    obtain rfl := Option.some.inj H
    go_enter Tryd.func58, Tryd.ntmps58
    go_wp2
    go_ret
    exact ⟨sA, by repeat (first | exact Drawn0.refl _ | apply Drawn0.step)⟩
  ·rw [if_neg c3] at H
   have c3b0 : decide (a0 < 1114112) = false := decide_eq_false c3
   clear c3
   obtain rfl := Option.some.inj H
   go_enter Tryd.func58, Tryd.ntmps58
   go_wp2
   go_ret
   exact ⟨sA, by repeat (first | exact Drawn0.refl _ | apply Drawn0.step)⟩
 ·rw [if_neg c2] at H
  have c2b0 : decide (0 ≤ a0) = false := decide_eq_false c2
  clear c2
  obtain rfl := Option.some.inj H
  go_enter Tryd.func58, Tryd.ntmps58
  go_wp2
  go_ret
  exact ⟨sA, by repeat (first | exact Drawn0.refl _ | apply Drawn0.step)⟩

/-! ### flongref02_One: function 40 -/
def flongref02_One.j0 : Nat → Int → Option (List Int)
 | 0, _ => none
 | k + 1, x3 => if x3 < 128 then (some (([(x3) % 256] : List Int))) else (if x3 < 2048 then (some (([(wrap64 (192 + (wrap64 (Int.tdiv x3 64)))) % 256, (wrap64 (128 + (Int.tmod x3 64))) % 256] : List Int))) else (if x3 < 65536 then (some (([(wrap64 (224 + (wrap64 (Int.tdiv x3 4096)))) % 256, (wrap64 (128 + (Int.tmod (wrap64 (Int.tdiv x3 64)) 64))) % 256, (wrap64 (128 + (Int.tmod x3 64))) % 256] : List Int))) else (some (([(wrap64 (240 + (wrap64 (Int.tdiv x3 262144)))) % 256, (wrap64 (128 + (Int.tmod (wrap64 (Int.tdiv x3 4096)) 64))) % 256, (wrap64 (128 + (Int.tmod (wrap64 (Int.tdiv x3 64)) 64))) % 256, (wrap64 (128 + (Int.tmod x3 64))) % 256] : List Int)))))
def flongref02_One.f (k : Nat) (a0 : Int) : Option (List Int) := (flongref02_Valid.f a0).bind fun t235 => (if t235 = true then (flongref02_One.j0 k (wrap64 (a0))) else (flongref02_One.j0 k 65533))
theorem flongref02_One.mono_l : ∀ k, (∀ y0, LeO (flongref02_One.j0 k y0) (flongref02_One.j0 (k + 1) y0))
 | 0 => fun _ r h => by simp [flongref02_One.j0] at h
 | k + 1 => by
  have ih0 := flongref02_One.mono_l k
  ·intro y0
   unfold flongref02_One.j0
   repeat' first
   | (with_reducible exact ih0 _)
   | (with_reducible exact LeO.refl _)
   | (with_reducible exact LeO.none _)
   | (with_reducible refine LeO.ite ?_ ?_)
   | (with_reducible refine LeO.bind ?_ (fun _ => ?_))
theorem flongref02_One.mono : ∀ a0 k, LeO (flongref02_One.f k a0) (flongref02_One.f (k + 1) a0) := by
 intro a0 k
 have ih0 := flongref02_One.mono_l k
 unfold flongref02_One.f
 repeat' first
   | (with_reducible exact ih0 _)
   | (with_reducible exact LeO.refl _)
   | (with_reducible exact LeO.none _)
   | (with_reducible refine LeO.ite ?_ ?_)
   | (with_reducible refine LeO.bind ?_ (fun _ => ?_))
theorem flongref02_One.calls (k : Nat) (a0 : Int) (r : List Int) (w : World) (h : flongref02_One.f k a0 = some r) :
  Calls Tryd.prog 40 #[.int .i32 a0] w fun e w' => ∃ v0_ : Value, e = .returned (v0_) ∧ Kd.R (Kd.int .u8) 5 w' w.heap.size (fun _ => True) v0_ r ∧ Below w.heap.size w w' := by
 have HB := Aside0.mk (Below.refl w.heap.size w)
 have H : ((flongref02_Valid.f a0).bind fun t235 => (if t235 = true then (flongref02_One.j0 k (wrap64 (a0))) else (flongref02_One.j0 k 65533))) = some r := h
 clear h
 replace H := Option.bind_eq_some_iff.mp H
 obtain ⟨t235, A20, H⟩ := H
 replace H : (if t235 = true then (flongref02_One.j0 k (wrap64 (a0))) else (flongref02_One.j0 k 65533)) = some r := H
 have A2 := Aside0.mk A20
 clear A20
 have HC3 := Aside0.mk H
 clear H
 go_enter Tryd.func40, Tryd.ntmps40
 go_upto_if 8 with (first | ((with_reducible refine gate_callee (f := 58) rfl ?_); refine goesL_ (some 7) rfl rfl Tryd.func58 (by kernel_rfl) rfl #[.int .i32 a0] rfl aP ?_; (with_reducible refine (flongref02_Valid.calls a0 t235 _ A2.out).mono ?_); rintro e w' ⟨rfl, ⟨nd, rfl⟩⟩; refine ⟨_, rfl, ?_⟩))
 (try simp only [Act.put, List.setIfInBounds_toArray, List.set_cons_zero, List.set_cons_succ])
 go_cut [3] (fun v3 wc => ∃ (kq : Nat) (x3_2 : Int), v3 = .int .i64 x3_2 ∧ Aside0 (flongref02_One.j0 kq x3_2 = some r) ∧ Aside0 (kq ≤ k) ∧ Aside0 (Below w.heap.size w wc))
 case first =>
  have H := HC3.out
  clear HC3
  by_cases c4 : t235 = true
  ·subst c4
   have H1 : (flongref02_One.j0 k (wrap64 (a0))) = some r := by rw [if_pos rfl] at H; exact H
   clear H
   have H := H1
   clear H1
   have H' := Aside0.mk H
   clear H
   go_wp2
   go_meet
   case rel => exact ⟨_, (wrap64 (a0)), sA, H', ⟨by first | omega | exact Nat.le_refl _⟩, ⟨bA⟩⟩
  ·replace c4 := Bool.eq_false_iff.mpr c4
   subst c4
   have H1 : (flongref02_One.j0 k 65533) = some r := by rw [if_neg (show ¬ (false = true) by decide)] at H; exact H
   clear H
   have H := H1
   clear H1
   have H' := Aside0.mk H
   clear H
   go_wp2
   go_meet
   case rel => exact ⟨_, (65533), sA, H', ⟨by first | omega | exact Nat.le_refl _⟩, ⟨bA⟩⟩
 case rest =>
  clear HC3
  try clear p2
  try clear c4
  obtain ⟨kq, x3_2, rfl, HA, HJ2, HB⟩ := hcut
  cases kq with
  | zero => exact absurd HA.out (by simp [flongref02_One.j0])
  | succ kj2 =>
   have H := HA.out
   clear HA
   simp only [flongref02_One.j0] at H
   by_cases c5 : x3_2 < 128
   ·rw [if_pos c5] at H
    have c5b0 : decide (x3_2 < 128) = true := decide_eq_true c5
    clear c5
    obtain ⟨y236, hy236⟩ : ∃ y_ : List Int, y_ = (([(x3_2) % 256] : List Int)) := ⟨_, rfl⟩
    replace H : (some y236) = some r := hyA hy236 H
    have Ny236 := Aside0.mk hy236
    clear hy236
    obtain rfl := Option.some.inj H
    go_wp2_with (first | ((with_reducible refine gate_dst (N := 13) rfl ?_); refine Kd.R_lit (Kd.int .u8) _ 5 ?hg (N := 13) ?hd (xs := ([(x3_2) % 256] : List Int)) (inner := [.int .u8 ((x3_2) % 256)]) (ok := fun _ => True) (okp := fun _ => True) ?hr ?hp (fun _ hk => hk) trivial (Below.refl _ _) (Nat.le_refl _) (by simp) ?_; (case hd => rfl); (case hg => rfl); (case hr => first | (go_simp; done) | (go_simp; rfl)); (case hp => exact (Reps.one (show Kd.M (Kd.int .u8) _ _ _ ((x3_2) % 256) [.int .u8 ((x3_2) % 256)] from rfl) (Reps.none _ _))); intro v237 w6 ho7 hb hg_ hnew_; clear hg_ hnew_; (first | rw [← Ny236.out] at ho7 | (simp only [Int.reduceToNat] at ho7; rw [← Ny236.out] at ho7)); have HO238 := Aside0.mk (Kd.R_lower ho7 (below_size bA)); replace HB := Aside0.mk (below_step bA hb); clear hb ho7))
    go_ret
    exact ⟨_, eW, kR HO238, bA⟩
   ·rw [if_neg c5] at H
    have c5b0 : decide (x3_2 < 128) = false := decide_eq_false c5
    clear c5
    by_cases c8 : x3_2 < 2048
    ·rw [if_pos c8] at H
     have c8b0 : decide (x3_2 < 2048) = true := decide_eq_true c8
     clear c8
     obtain ⟨y239, hy239⟩ : ∃ y_ : List Int, y_ = (([(wrap64 (192 + (wrap64 (Int.tdiv x3_2 64)))) % 256, (wrap64 (128 + (Int.tmod x3_2 64))) % 256] : List Int)) := ⟨_, rfl⟩
     replace H : (some y239) = some r := hyA hy239 H
     have Ny239 := Aside0.mk hy239
     clear hy239
     obtain rfl := Option.some.inj H
     go_wp2_with (first | ((with_reducible refine gate_dst (N := 24) rfl ?_); refine Kd.R_lit (Kd.int .u8) _ 5 ?hg (N := 24) ?hd (xs := ([(wrap64 (192 + (wrap64 (Int.tdiv x3_2 64)))) % 256, (wrap64 (128 + (Int.tmod x3_2 64))) % 256] : List Int)) (inner := [.int .u8 ((wrap64 (192 + (wrap64 (Int.tdiv x3_2 64)))) % 256), .int .u8 ((wrap64 (128 + (Int.tmod x3_2 64))) % 256)]) (ok := fun _ => True) (okp := fun _ => True) ?hr ?hp (fun _ hk => hk) trivial (Below.refl _ _) (Nat.le_refl _) (by simp) ?_; (case hd => rfl); (case hg => rfl); (case hr => first | (go_simp; done) | (go_simp; rfl)); (case hp => exact (Reps.one (show Kd.M (Kd.int .u8) _ _ _ ((wrap64 (192 + (wrap64 (Int.tdiv x3_2 64)))) % 256) [.int .u8 ((wrap64 (192 + (wrap64 (Int.tdiv x3_2 64)))) % 256)] from rfl) (Reps.one (show Kd.M (Kd.int .u8) _ _ _ ((wrap64 (128 + (Int.tmod x3_2 64))) % 256) [.int .u8 ((wrap64 (128 + (Int.tmod x3_2 64))) % 256)] from rfl) (Reps.none _ _)))); intro v240 w9 ho10 hb hg_ hnew_; clear hg_ hnew_; (first | rw [← Ny239.out] at ho10 | (simp only [Int.reduceToNat] at ho10; rw [← Ny239.out] at ho10)); have HO241 := Aside0.mk (Kd.R_lower ho10 (below_size bA)); replace HB := Aside0.mk (below_step bA hb); clear hb ho10))
     go_ret
     exact ⟨_, eW, kR HO241, bA⟩
    ·rw [if_neg c8] at H
     have c8b0 : decide (x3_2 < 2048) = false := decide_eq_false c8
     clear c8
     by_cases c11 : x3_2 < 65536
     ·rw [if_pos c11] at H
      have c11b0 : decide (x3_2 < 65536) = true := decide_eq_true c11
      clear c11
      obtain ⟨y242, hy242⟩ : ∃ y_ : List Int, y_ = (([(wrap64 (224 + (wrap64 (Int.tdiv x3_2 4096)))) % 256, (wrap64 (128 + (Int.tmod (wrap64 (Int.tdiv x3_2 64)) 64))) % 256, (wrap64 (128 + (Int.tmod x3_2 64))) % 256] : List Int)) := ⟨_, rfl⟩
      replace H : (some y242) = some r := hyA hy242 H
      have Ny242 := Aside0.mk hy242
      clear hy242
      obtain rfl := Option.some.inj H
      go_wp2_with (first | ((with_reducible refine gate_dst (N := 40) rfl ?_); refine Kd.R_lit (Kd.int .u8) _ 5 ?hg (N := 40) ?hd (xs := ([(wrap64 (224 + (wrap64 (Int.tdiv x3_2 4096)))) % 256, (wrap64 (128 + (Int.tmod (wrap64 (Int.tdiv x3_2 64)) 64))) % 256, (wrap64 (128 + (Int.tmod x3_2 64))) % 256] : List Int)) (inner := [.int .u8 ((wrap64 (224 + (wrap64 (Int.tdiv x3_2 4096)))) % 256), .int .u8 ((wrap64 (128 + (Int.tmod (wrap64 (Int.tdiv x3_2 64)) 64))) % 256), .int .u8 ((wrap64 (128 + (Int.tmod x3_2 64))) % 256)]) (ok := fun _ => True) (okp := fun _ => True) ?hr ?hp (fun _ hk => hk) trivial (Below.refl _ _) (Nat.le_refl _) (by simp) ?_; (case hd => rfl); (case hg => rfl); (case hr => first | (go_simp; done) | (go_simp; rfl)); (case hp => exact (Reps.one (show Kd.M (Kd.int .u8) _ _ _ ((wrap64 (224 + (wrap64 (Int.tdiv x3_2 4096)))) % 256) [.int .u8 ((wrap64 (224 + (wrap64 (Int.tdiv x3_2 4096)))) % 256)] from rfl) (Reps.one (show Kd.M (Kd.int .u8) _ _ _ ((wrap64 (128 + (Int.tmod (wrap64 (Int.tdiv x3_2 64)) 64))) % 256) [.int .u8 ((wrap64 (128 + (Int.tmod (wrap64 (Int.tdiv x3_2 64)) 64))) % 256)] from rfl) (Reps.one (show Kd.M (Kd.int .u8) _ _ _ ((wrap64 (128 + (Int.tmod x3_2 64))) % 256) [.int .u8 ((wrap64 (128 + (Int.tmod x3_2 64))) % 256)] from rfl) (Reps.none _ _))))); intro v243 w12 ho13 hb hg_ hnew_; clear hg_ hnew_; (first | rw [← Ny242.out] at ho13 | (simp only [Int.reduceToNat] at ho13; rw [← Ny242.out] at ho13)); have HO244 := Aside0.mk (Kd.R_lower ho13 (below_size bA)); replace HB := Aside0.mk (below_step bA hb); clear hb ho13))
      go_ret
      exact ⟨_, eW, kR HO244, bA⟩
     ·rw [if_neg c11] at H
      have c11b0 : decide (x3_2 < 65536) = false := decide_eq_false c11
      clear c11
      obtain ⟨y245, hy245⟩ : ∃ y_ : List Int, y_ = (([(wrap64 (240 + (wrap64 (Int.tdiv x3_2 262144)))) % 256, (wrap64 (128 + (Int.tmod (wrap64 (Int.tdiv x3_2 4096)) 64))) % 256, (wrap64 (128 + (Int.tmod (wrap64 (Int.tdiv x3_2 64)) 64))) % 256, (wrap64 (128 + (Int.tmod x3_2 64))) % 256] : List Int)) := ⟨_, rfl⟩
      replace H : (some y245) = some r := hyA hy245 H
      have Ny245 := Aside0.mk hy245
      clear hy245
      obtain rfl := Option.some.inj H
      go_wp2_with (first | ((with_reducible refine gate_dst (N := 59) rfl ?_); refine Kd.R_lit (Kd.int .u8) _ 5 ?hg (N := 59) ?hd (xs := ([(wrap64 (240 + (wrap64 (Int.tdiv x3_2 262144)))) % 256, (wrap64 (128 + (Int.tmod (wrap64 (Int.tdiv x3_2 4096)) 64))) % 256, (wrap64 (128 + (Int.tmod (wrap64 (Int.tdiv x3_2 64)) 64))) % 256, (wrap64 (128 + (Int.tmod x3_2 64))) % 256] : List Int)) (inner := [.int .u8 ((wrap64 (240 + (wrap64 (Int.tdiv x3_2 262144)))) % 256), .int .u8 ((wrap64 (128 + (Int.tmod (wrap64 (Int.tdiv x3_2 4096)) 64))) % 256), .int .u8 ((wrap64 (128 + (Int.tmod (wrap64 (Int.tdiv x3_2 64)) 64))) % 256), .int .u8 ((wrap64 (128 + (Int.tmod x3_2 64))) % 256)]) (ok := fun _ => True) (okp := fun _ => True) ?hr ?hp (fun _ hk => hk) trivial (Below.refl _ _) (Nat.le_refl _) (by simp) ?_; (case hd => rfl); (case hg => rfl); (case hr => first | (go_simp; done) | (go_simp; rfl)); (case hp => exact (Reps.one (show Kd.M (Kd.int .u8) _ _ _ ((wrap64 (240 + (wrap64 (Int.tdiv x3_2 262144)))) % 256) [.int .u8 ((wrap64 (240 + (wrap64 (Int.tdiv x3_2 262144)))) % 256)] from rfl) (Reps.one (show Kd.M (Kd.int .u8) _ _ _ ((wrap64 (128 + (Int.tmod (wrap64 (Int.tdiv x3_2 4096)) 64))) % 256) [.int .u8 ((wrap64 (128 + (Int.tmod (wrap64 (Int.tdiv x3_2 4096)) 64))) % 256)] from rfl) (Reps.one (show Kd.M (Kd.int .u8) _ _ _ ((wrap64 (128 + (Int.tmod (wrap64 (Int.tdiv x3_2 64)) 64))) % 256) [.int .u8 ((wrap64 (128 + (Int.tmod (wrap64 (Int.tdiv x3_2 64)) 64))) % 256)] from rfl) (Reps.one (show Kd.M (Kd.int .u8) _ _ _ ((wrap64 (128 + (Int.tmod x3_2 64))) % 256) [.int .u8 ((wrap64 (128 + (Int.tmod x3_2 64))) % 256)] from rfl) (Reps.none _ _)))))); intro v246 w14 ho15 hb hg_ hnew_; clear hg_ hnew_; (first | rw [← Ny245.out] at ho15 | (simp only [Int.reduceToNat] at ho15; rw [← Ny245.out] at ho15)); have HO247 := Aside0.mk (Kd.R_lower ho15 (below_size bA)); replace HB := Aside0.mk (below_step bA hb); clear hb ho15))
      go_ret
      exact ⟨_, eW, kR HO247, bA⟩

/-! ### flongref03_Text: function 24 -/
def flongref03_Text.l0 : Nat → List (S44) → List Int → Int → Option (ByteArray)
 | 0, _, _, _ => none
 | k + 1, x0, x3, x4 => if x4 < (x0.length : Int) then (if 0 ≤ x4 then ((flongref02_One.f k ((rd_T44 x0 x4).f0)).bind fun t249 => (if x3.length + t249.length < 140737488355328 then (flongref03_Text.l0 k x0 (x3 ++ t249) (wrap64 (x4 + 1))) else (none))) else (none)) else (some (strOfNums x3))
def flongref03_Text.f (k : Nat) (l0 : List (S44)) : Option (ByteArray) := flongref03_Text.l0 k l0 ([] : List Int) 0
theorem flongref03_Text.mono_l : ∀ k, (∀ y0 y1 y2, LeO (flongref03_Text.l0 k y0 y1 y2) (flongref03_Text.l0 (k + 1) y0 y1 y2))
 | 0 => fun _ _ _ r h => by simp [flongref03_Text.l0] at h
 | k + 1 => by
  have ih0 := flongref03_Text.mono_l k
  ·intro y0 y1 y2
   unfold flongref03_Text.l0
   repeat' first
   | (with_reducible exact ih0 _ _ _)
   | (with_reducible exact flongref02_One.mono _ _)
   | (with_reducible exact LeO.refl _)
   | (with_reducible exact LeO.none _)
   | (with_reducible refine LeO.ite ?_ ?_)
   | (with_reducible refine LeO.bind ?_ (fun _ => ?_))
theorem flongref03_Text.mono : ∀ a0 k, LeO (flongref03_Text.f k a0) (flongref03_Text.f (k + 1) a0) := by
 intro a0 k
 have ih0 := flongref03_Text.mono_l k
 unfold flongref03_Text.f
 repeat' first
   | (with_reducible exact ih0 _ _ _)
   | (with_reducible exact flongref02_One.mono _ _)
   | (with_reducible exact LeO.refl _)
   | (with_reducible exact LeO.none _)
   | (with_reducible refine LeO.ite ?_ ?_)
   | (with_reducible refine LeO.bind ?_ (fun _ => ?_))
theorem flongref03_Text.calls (k : Nat) (A0 : Option Addr) (c0 : Nat) (l0 : List (S44)) (r : ByteArray) (w : World) (hr0 : Kd.C k44 w A0 l0.length l0) (hc0 : l0.length ≤ c0) (h : flongref03_Text.f k l0 = some r) :
  Calls Tryd.prog 24 #[.slice A0 l0.length c0] w fun e w' => e = .returned (.string r) ∧ Below w.heap.size w w' := by
 have HR0 := Aside0.mk hr0
 have HC0 := Aside0.mk hc0
 clear hr0 hc0
 have HB := Aside0.mk (Below.refl w.heap.size w)
 have H : (flongref03_Text.l0 k l0 ([] : List Int) 0) = some r := h
 clear h
 have H' := Aside0.mk H
 clear H
 go_enter Tryd.func24, Tryd.ntmps24
 go_wp2
 go_loopg [3, 4] k (fun kq v3 v4 w' => ∃ (x3_1 : List Int) (x4_1 : Int), v4 = .int .i64 x4_1 ∧ Aside0 (flongref03_Text.l0 kq l0 x3_1 x4_1 = some r) ∧ Aside0 (kq ≤ k) ∧ Aside0 (Kd.R (Kd.int .u8) 5 w' w.heap.size (fun _ => True) v3 x3_1) ∧ Aside0 (Below w.heap.size w w'))
 case atStart => exact ⟨(([] : List Int)), (0), sA, H', ⟨Nat.le_refl _⟩, ⟨by first | exact Kd.R_nil _ _ _ _ _ | exact Kd.N_nil _ _ _ _ _ | exact Kd.V_nil _ _ _ _ _ | exact Kd.Q_nil _ _ _ _ _ | exact Kd.S_nil _ _ _ _ _⟩, ⟨bA⟩⟩
 case round =>
  clear H'
  obtain ⟨x3_1, x4_1, rfl, HA, HK1, HO_3, HB⟩ := hrel
  cases gk with
  | zero => exact absurd HA.out (by simp [flongref03_Text.l0])
  | succ k1 =>
   have H := HA.out
   clear HA
   simp only [flongref03_Text.l0] at H
   by_cases c2 : x4_1 < (l0.length : Int)
   ·rw [if_pos c2] at H
    have c2b0 : decide (x4_1 < (l0.length : Int)) = true := decide_eq_true c2
    clear c2
    by_cases c3 : 0 ≤ x4_1
    ·rw [if_pos c3] at H
     have c3b0 : decide (0 ≤ x4_1) = true := decide_eq_true c3
     clear c3
     replace H := Option.bind_eq_some_iff.mp H
     obtain ⟨t249, A40, H⟩ := H
     replace H : (if x3_1.length + t249.length < 140737488355328 then (flongref03_Text.l0 k1 l0 (x3_1 ++ t249) (wrap64 (x4_1 + 1))) else (none)) = some r := H
     have A4 := Aside0.mk A40
     clear A40
     by_cases c5 : x3_1.length + t249.length < 140737488355328
     ·rw [if_pos c5] at H
      have LMc5 := Aside0.mk c5
      clear c5
      obtain ⟨y252, hy252⟩ : ∃ y_ : List Int, y_ = (x3_1 ++ t249) := ⟨_, rfl⟩
      replace H : (flongref03_Text.l0 k1 l0 y252 (wrap64 (x4_1 + 1))) = some r := hyA hy252 H
      have Ny252 := Aside0.mk hy252
      clear hy252
      have H' := Aside0.mk H
      clear H
      have p248 : 0 ≤ (x4_1 : Int) := of_decide_eq_true asA
      have q248 : x4_1 < (l0.length : Int) := of_decide_eq_true asA
      obtain ⟨ad248, e248, hx248_0, hx248_1⟩ := at_T44 HR0.out x4_1 p248 q248
      cases e248
      replace hx248_0 := (HB.out.cell (World.block_lt_of_cell? w _ hx248_0)).trans hx248_0
      replace hx248_1 := (HB.out.cell (World.block_lt_of_cell? w _ hx248_1)).trans hx248_1
      replace p248 := eq_true p248
      replace q248 := eq_true q248
      go_wp2_with (first | ((with_reducible refine gate_callee (f := 40) rfl ?_); refine goesL_ (some 17) rfl rfl Tryd.func40 (by kernel_rfl) rfl #[.int .i32 ((rd_T44 l0 x4_1).f0)] rfl aP ?_; (with_reducible refine (flongref02_One.calls k1 ((rd_T44 l0 x4_1).f0) t249 _ A4.out).mono ?_); rintro e w6 ⟨v250, rfl, ho0, hb⟩; refine ⟨_, rfl, ?_⟩; have n0_ := Aside0.mk (Kd.R_elder' (kR HO_3) (Kd.R_base ho0) hb); have n1_ := Aside0.mk (Kd.R_lower (Kd.R_new' ho0 (Kd.R_lt (kR HO_3))) (below_size bA)); have n2_ := Aside0.mk (below_step bA hb); clear HO_3; clear HB; have HO_3 := n0_; have HO251 := n1_; have HB := n2_; clear n0_ n1_ n2_; (try clear hb); (try clear hb2); (try clear hk); (try clear hi); (try clear ho0); obtain ⟨Ao8, co8, eo8⟩ := Kd.R_slice HO251.out; subst eo8) | ((with_reducible refine gate_builtin (b := .append) (xs := #[.tmp 11, .tmp 17]) rfl ?_); at_builtin; refine Kd.R_append_rows (Kd.int .u8) (w0 := w) w.heap.size rfl (.tmp 11) (.tmp 17) 22 5 (.int .u8 0) 1 rfl Tryd.underlying22 info5 rfl (by decide) (by omega) u3 x3_1 t249 _ _ _ (fun k_ => some k_ ≠ (.slice Ao8 t249.length co8 : Value).ownBlock) (fun _ => False) rfl rfl ?aO ?aR (fun _ _ h => h) (fun _ h => h.elim) ?aF ?aB ?aS ?aL ?_; (case aR => repeat (first | exact (Kd.R_reads' HO251.out).2.2 | (with_reducible refine Kd.C_alloc ?_ _) | (with_reducible refine Kd.C_drewN ?_ _) | (with_reducible refine Kd.C_drew ?_))); (case aB => exact bA); (case aF => exact (fun k_ hk => Kd.fresh' (Kd.R_lt (kR HO251)) k_ hk)); (case aO => exact (by (with_reducible repeat (first | apply Kd.R_alloc | apply Kd.R_drewN | apply Kd.R_drew)); exact Kd.R_mono HO_3.out (fun _ hk => hk.2))); (case aS => exact (below_size bA)); (case aL => have := LMc5.out; omega); intro v253 w7 ho hb hg hat; rw [← Ny252.out] at ho; have n0_ := Aside0.mk (Kd.R_after (ok := (fun _ => True)) (kR HO251) hg hat); have n1_ := Aside0.mk (hb); have n2_ := Aside0.mk (ho); clear HO251; clear HB; clear HO_3; have HO251 := n0_; have HB := n1_; have HO254 := n2_; clear n0_ n1_ n2_; clear ho hb hg hat))
      go_roundg k1
      case measure => have := HK1.out; omega
      case rel => exact ⟨(y252), (wrap64 (x4_1 + 1)), sA, H', ⟨by have := HK1.out; omega⟩, ⟨by (with_reducible repeat (first | apply Kd.R_alloc | apply Kd.R_drewN | apply Kd.R_drew)); exact Kd.R_mono HO254.out (fun _ hk => trivial)⟩, ⟨bA⟩⟩
     ·rw [if_neg c5] at H
      exact absurd H (by simp)
    ·rw [if_neg c3] at H
     exact absurd H (by simp)
   ·rw [if_neg c2] at H
    have c2b0 : decide (x4_1 < (l0.length : Int)) = false := decide_eq_false c2
    clear c2
    obtain rfl := Option.some.inj H
    have hcv9 := own_string (P := Tryd.prog) Tryd.underlying22 Tryd.underlying5 Tryd.underlying9 (Kd.own_of_R HO_3.out)
    go_wp2
    go_ret
    exact ⟨eW, bA⟩

/-! ### flongref03_Trim: function 41 -/
def flongref03_Trim.l0 : Nat → List (S44) → Int → Option ((List (S44)))
 | 0, _, _ => none
 | k + 1, x0, x3 => if x3 > 0 then (if 0 ≤ (wrap64 (x3 - 1)) then (if (wrap64 (x3 - 1)) < (x0.length : Int) then (if ((rd_T44 x0 (wrap64 (x3 - 1))).f0) = 32 then (flongref03_Trim.l0 k x0 (wrap64 (x3 - 1))) else (if 0 ≤ x3 then (if x3 ≤ (x0.length : Int) then (some (x0.take (x3 : Int).toNat)) else (none)) else (none))) else (none)) else (none)) else (if 0 ≤ x3 then (if x3 ≤ (x0.length : Int) then (some (x0.take (x3 : Int).toNat)) else (none)) else (none))
def flongref03_Trim.f (k : Nat) (l0 : List (S44)) : Option ((List (S44))) := flongref03_Trim.l0 k l0 (l0.length : Int)
theorem flongref03_Trim.mono_l : ∀ k, (∀ y0 y1, LeO (flongref03_Trim.l0 k y0 y1) (flongref03_Trim.l0 (k + 1) y0 y1))
 | 0 => fun _ _ r h => by simp [flongref03_Trim.l0] at h
 | k + 1 => by
  have ih0 := flongref03_Trim.mono_l k
  ·intro y0 y1
   unfold flongref03_Trim.l0
   repeat' first
   | (with_reducible exact ih0 _ _)
   | (with_reducible exact LeO.refl _)
   | (with_reducible exact LeO.none _)
   | (with_reducible refine LeO.ite ?_ ?_)
   | (with_reducible refine LeO.bind ?_ (fun _ => ?_))
theorem flongref03_Trim.mono : ∀ a0 k, LeO (flongref03_Trim.f k a0) (flongref03_Trim.f (k + 1) a0) := by
 intro a0 k
 have ih0 := flongref03_Trim.mono_l k
 unfold flongref03_Trim.f
 repeat' first
   | (with_reducible exact ih0 _ _)
   | (with_reducible exact LeO.refl _)
   | (with_reducible exact LeO.none _)
   | (with_reducible refine LeO.ite ?_ ?_)
   | (with_reducible refine LeO.bind ?_ (fun _ => ?_))
theorem flongref03_Trim.calls (k : Nat) (P0_ : Nat → Prop) (A0 : Option Addr) (c0 : Nat) (l0 : List (S44)) (r : List (S44)) (w : World) (hs0 : Kd.V k44 44 w w.heap.size (fun k_ => P0_ k_) (.slice A0 l0.length c0) l0) (h : flongref03_Trim.f k l0 = some r) :
  Calls Tryd.prog 41 #[.slice A0 l0.length c0] w fun e w' => ∃ v0_ : Value, e = .returned (v0_) ∧ Kd.V k44 44 w' w.heap.size (fun k_ => (P0_ k_ ∨ w.heap.size ≤ k_)) v0_ r ∧ Below w.heap.size w w' := by
 have HO0 := Aside0.mk (show Kd.V k44 44 w w.heap.size (fun k_ => (P0_ k_ ∨ w.heap.size ≤ k_)) (.slice A0 l0.length c0) l0 from Kd.V_mono hs0 (fun k_ hk => .inl hk))
 have HB := Aside0.mk (Below.refl w.heap.size w)
 have H : (flongref03_Trim.l0 k l0 (l0.length : Int)) = some r := h
 clear h
 have H' := Aside0.mk H
 clear H
 go_enter Tryd.func41, Tryd.ntmps41
 go_wp2
 go_loopg [3] k (fun kq v3 w' => ∃ (x3_1 : Int), v3 = .int .i64 x3_1 ∧ Aside0 (flongref03_Trim.l0 kq l0 x3_1 = some r) ∧ Aside0 (kq ≤ k) ∧ Aside0 (Kd.V k44 44 w' w.heap.size (fun k_ => (P0_ k_ ∨ w.heap.size ≤ k_)) (.slice A0 l0.length c0) l0) ∧ Aside0 (Below w.heap.size w w'))
 case atStart => exact ⟨((l0.length : Int)), sA, H', ⟨Nat.le_refl _⟩, ⟨kV HO0⟩, ⟨bA⟩⟩
 case round =>
  clear H'
  obtain ⟨x3_1, rfl, HA, HK1, HO_0, HB⟩ := hrel
  cases gk with
  | zero => exact absurd HA.out (by simp [flongref03_Trim.l0])
  | succ k1 =>
   have H := HA.out
   clear HA
   simp only [flongref03_Trim.l0] at H
   by_cases c2 : x3_1 > 0
   ·rw [if_pos c2] at H
    have c2b0 : decide (0 < x3_1) = true := decide_eq_true c2
    clear c2
    obtain ⟨ji3, hji3⟩ : ∃ j_ : Int, (wrap64 (x3_1 - 1)) = j_ := ⟨_, rfl⟩
    replace H : (if 0 ≤ (ji3) then (if (ji3) < (l0.length : Int) then (if ((rd_T44 l0 (ji3)).f0) = 32 then (flongref03_Trim.l0 k1 l0 ji3) else (if 0 ≤ x3_1 then (if x3_1 ≤ (l0.length : Int) then (some (l0.take (x3_1 : Int).toNat)) else (none)) else (none))) else (none)) else (none)) = some r := by first | (rw [hji3] at H; exact H) | (simp only [hji3] at H ⊢; exact H)
    have hji3w : (IntKind.i64.wrap (x3_1 - 1)) = ji3 := (i64_w _).trans hji3
    by_cases c4 : 0 ≤ (ji3)
    ·rw [if_pos c4] at H
     have c4b0 : decide (0 ≤ (ji3)) = true := decide_eq_true c4
     clear c4
     by_cases c5 : (ji3) < (l0.length : Int)
     ·rw [if_pos c5] at H
      have c5b0 : decide ((ji3) < (l0.length : Int)) = true := decide_eq_true c5
      clear c5
      by_cases c6 : ((rd_T44 l0 (ji3)).f0) = 32
      ·rw [if_pos c6] at H
       have c6b0 : (((rd_T44 l0 (ji3)).f0) == 32) = true := beq_iff_eq.mpr c6
       have c6b1 : (((rd_T44 l0 (ji3)).f0) != 32) = false := bne_eq_false_iff_eq.mpr c6
       clear c6
       have H' := Aside0.mk H
       clear H
       have p255 : 0 ≤ ((ji3) : Int) := of_decide_eq_true asA
       have q255 : (ji3) < (l0.length : Int) := of_decide_eq_true asA
       obtain ⟨ad255, e255, hx255_0, hx255_1⟩ := at_T44 (Kd.V_reads' HO_0.out).2.2 (ji3) p255 q255
       cases e255
       replace p255 := eq_true p255
       replace q255 := eq_true q255
       go_wp2
       go_roundg k1
       case measure => have := HK1.out; omega
       case rel => exact ⟨(ji3), (by first | rfl | (simp; done) | (simp only [← hji3] <;> (first | rfl | simp)) | (simp [*]; done)), H', ⟨by have := HK1.out; omega⟩, ⟨kV HO_0⟩, ⟨bA⟩⟩
      ·rw [if_neg c6] at H
       have c6b0 : (((rd_T44 l0 (ji3)).f0) == 32) = false := beq_eq_false_iff_ne.mpr c6
       have c6b1 : (((rd_T44 l0 (ji3)).f0) != 32) = true := bne_iff_ne.mpr c6
       by_cases c7 : 0 ≤ x3_1
       ·rw [if_pos c7] at H
        have c7b0 := eq_true c7
        have c7b1 : decide (0 ≤ x3_1) = true := decide_eq_true c7
        clear c7
        by_cases c8 : x3_1 ≤ (l0.length : Int)
        ·rw [if_pos c8] at H
         have c8b0 := eq_true c8
         have c8b1 : decide (x3_1 ≤ (l0.length : Int)) = true := decide_eq_true c8
         clear c8
         obtain ⟨y256, hy256⟩ : ∃ y_ : List (S44), y_ = (l0.take (x3_1 : Int).toNat) := ⟨_, rfl⟩
         replace H : (some y256) = some r := hyA hy256 H
         have Ny256 := Aside0.mk hy256
         clear hy256
         obtain rfl := Option.some.inj H
         have p255 : 0 ≤ ((ji3) : Int) := of_decide_eq_true asA
         have q255 : (ji3) < (l0.length : Int) := of_decide_eq_true asA
         obtain ⟨ad255, e255, hx255_0, hx255_1⟩ := at_T44 (Kd.V_reads' HO_0.out).2.2 (ji3) p255 q255
         cases e255
         replace p255 := eq_true p255
         replace q255 := eq_true q255
         have q9 : (x3_1 : Int) ≤ ((l0.length : Int) : Int) := of_decide_eq_true asA
         obtain ⟨i09, hi09, _, hsz9, _⟩ := info_parts info44
         have hroom9 : l0.length ≤ c0 := (Kd.V_reads' HO_0.out).2.1
         have hC9 : Kd.F k44 _ _ (some ad255) l0.length l0 := (Kd.V_at (base := w.heap.size) HO_0.out).2.2
         have hcut9 := cut_to (P := Tryd.prog) 33 44 .i64 Tryd.underlying33 hi09 (some ad255) l0.length c0 x3_1 (of_decide_eq_true asA) q9 hroom9
         have hr9 := Kd.F_take (m := (x3_1 : Int).toNat) hC9 (by omega)
         have hy9 : y256.length = (x3_1 : Int).toNat := (by rw [Ny256.out, List.length_take]; omega)
         rw [← Ny256.out] at hr9
         rw [← hy9] at hcut9
         have HO260 := Aside0.mk (show Kd.V k44 44 _ w.heap.size _ (.slice (some ad255) y256.length c0) y256 from Kd.V_mk (by omega) hr9)
         have HC260 := Aside0.mk (show y256.length ≤ c0 from by omega)
         clear hr9 hC9 hroom9 hi09 hsz9
         have KY9 := Aside0.mk hy9
         clear hy9
         replace q9 := eq_true q9
         go_wp2
         go_ret
         exact ⟨_, by first | rfl | (simp [errW_none, errW_some] <;> rfl) | (simp only [← hji3]; first | rfl | (simp [errW_none, errW_some] <;> rfl)) | (simp [*, errW_none, errW_some] <;> rfl), kV HO260, bA⟩
        ·rw [if_neg c8] at H
         exact absurd H (by simp)
       ·rw [if_neg c7] at H
        exact absurd H (by simp)
     ·rw [if_neg c5] at H
      exact absurd H (by simp)
    ·rw [if_neg c4] at H
     exact absurd H (by simp)
   ·rw [if_neg c2] at H
    have c2b0 : decide (0 < x3_1) = false := decide_eq_false c2
    clear c2
    by_cases c10 : 0 ≤ x3_1
    ·rw [if_pos c10] at H
     have c10b0 := eq_true c10
     have c10b1 : decide (0 ≤ x3_1) = true := decide_eq_true c10
     clear c10
     by_cases c11 : x3_1 ≤ (l0.length : Int)
     ·rw [if_pos c11] at H
      have c11b0 := eq_true c11
      have c11b1 : decide (x3_1 ≤ (l0.length : Int)) = true := decide_eq_true c11
      clear c11
      obtain ⟨y261, hy261⟩ : ∃ y_ : List (S44), y_ = (l0.take (x3_1 : Int).toNat) := ⟨_, rfl⟩
      replace H : (some y261) = some r := hyA hy261 H
      have Ny261 := Aside0.mk hy261
      clear hy261
      obtain rfl := Option.some.inj H
      have q12 : (x3_1 : Int) ≤ ((l0.length : Int) : Int) := of_decide_eq_true asA
      obtain ⟨i012, hi012, _, hsz12, _⟩ := info_parts info44
      have hroom12 : l0.length ≤ c0 := (Kd.V_reads' HO_0.out).2.1
      have hC12 : Kd.F k44 _ _ A0 l0.length l0 := (Kd.V_at (base := w.heap.size) HO_0.out).2.2
      have hcut12 := cut_to (P := Tryd.prog) 33 44 .i64 Tryd.underlying33 hi012 A0 l0.length c0 x3_1 (of_decide_eq_true asA) q12 hroom12
      have hr12 := Kd.F_take (m := (x3_1 : Int).toNat) hC12 (by omega)
      have hy12 : y261.length = (x3_1 : Int).toNat := (by rw [Ny261.out, List.length_take]; omega)
      rw [← Ny261.out] at hr12
      rw [← hy12] at hcut12
      have HO265 := Aside0.mk (show Kd.V k44 44 _ w.heap.size _ (.slice A0 y261.length c0) y261 from Kd.V_mk (by omega) hr12)
      have HC265 := Aside0.mk (show y261.length ≤ c0 from by omega)
      clear hr12 hC12 hroom12 hi012 hsz12
      have KY12 := Aside0.mk hy12
      clear hy12
      replace q12 := eq_true q12
      go_wp2
      go_ret
      exact ⟨_, eW, kV HO265, bA⟩
     ·rw [if_neg c11] at H
      exact absurd H (by simp)
    ·rw [if_neg c10] at H
     exact absurd H (by simp)

end Go.Proofs.YtdjepocklmlnbaaDoor.X
