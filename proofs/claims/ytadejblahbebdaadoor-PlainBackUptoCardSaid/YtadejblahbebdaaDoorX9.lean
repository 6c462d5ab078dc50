-- Written by this session's xprint.py (a variant of the kit's printer). Not trusted: Lean checks it.
import Derived.Test.YtadejblahbebdaaDoorX0
import Derived.Test.YtadejblahbebdaaDoorHandA
namespace Go.Proofs.YtadejblahbebdaaDoor.X
open Go.Proofs.YtadejblahbebdaaDoor.Hand
open Go.RowKit Go.Proofs.YtadejblahbebdaaDoorW.PrintWords Go.Proofs.YtadejblahbebdaaDoorW.PrintLast Go.Proofs.YtadejblahbebdaaDoorW.PrintMore
attribute [local go_sem] max2_int min2_int max_two min_two max_three min_three max_four min_four   -- for this text's walks alone
set_option linter.unusedVariables false
set_option maxHeartbeats 8000000
set_option maxRecDepth 100000
set_option linter.unusedSimpArgs false

/-! ### plain_Erase: function 22 -/
def plain_Erase.l0 : Nat → List (S37) → Int → Int → Option ((List (S37)))
 | 0, _, _, _ => none
 | k + 1, x3, x8, x9 => if x9 < x8 then (if 0 ≤ x9 then (if x9 < (x3.length : Int) then (plain_Erase.l0 k (x3.set (x9 : Int).toNat (⟨(rd_T37 x3 x9).f0, 0⟩ : S37)) x8 (wrap64 (x9 + 1))) else (none)) else (none)) else (some x3)
def plain_Erase.f (k : Nat) (l0 : List (S37)) : Option ((List (S37))) := (clone_G.f l0).bind fun t384 => (plain_Erase.l0 k t384 (t384.length : Int) 0)
theorem plain_Erase.mono_l : ∀ k, (∀ y0 y1 y2, LeO (plain_Erase.l0 k y0 y1 y2) (plain_Erase.l0 (k + 1) y0 y1 y2))
 | 0 => fun _ _ _ r h => by simp [plain_Erase.l0] at h
 | k + 1 => by
  have ih0 := plain_Erase.mono_l k
  ·intro y0 y1 y2
   unfold plain_Erase.l0
   repeat' first
   | (with_reducible exact ih0 _ _ _)
   | (with_reducible exact LeO.refl _)
   | (with_reducible exact LeO.none _)
   | (with_reducible refine LeO.ite ?_ ?_)
   | (with_reducible refine LeO.bind ?_ (fun _ => ?_))
theorem plain_Erase.mono : ∀ a0 k, LeO (plain_Erase.f k a0) (plain_Erase.f (k + 1) a0) := by
 intro a0 k
 have ih0 := plain_Erase.mono_l k
 unfold plain_Erase.f
 repeat' first
   | (with_reducible exact ih0 _ _ _)
   | (with_reducible exact LeO.refl _)
   | (with_reducible exact LeO.none _)
   | (with_reducible refine LeO.ite ?_ ?_)
   | (with_reducible refine LeO.bind ?_ (fun _ => ?_))
theorem plain_Erase.calls (k : Nat) (A0 : Option Addr) (c0 : Nat) (l0 : List (S37)) (r : List (S37)) (w : World) (hr0 : Kd.C k37 w A0 l0.length l0) (hc0 : l0.length ≤ c0) (h : plain_Erase.f k l0 = some r) :
  Calls Tryd.prog 22 #[.slice A0 l0.length c0] w fun e w' => ∃ v0_ : Value, e = .returned (v0_) ∧ Kd.R k37 37 w' w.heap.size (fun _ => True) v0_ r ∧ Below w.heap.size w w' := by
 have HR0 := Aside0.mk hr0
 have HC0 := Aside0.mk hc0
 clear hr0 hc0
 have HB := Aside0.mk (Below.refl w.heap.size w)
 have H : ((clone_G.f l0).bind fun t384 => (plain_Erase.l0 k t384 (t384.length : Int) 0)) = some r := h
 clear h
 replace H := Option.bind_eq_some_iff.mp H
 obtain ⟨t384, A20, H⟩ := H
 replace H : (plain_Erase.l0 k t384 (t384.length : Int) 0) = some r := H
 have A2 := Aside0.mk A20
 clear A20
 have H' := Aside0.mk H
 clear H
 go_enter Tryd.func22, Tryd.ntmps22
 go_wp2_with (first | ((with_reducible refine gate_callee (f := 42) rfl ?_); refine goesL_ (some 6) rfl rfl Tryd.func42 (by kernel_rfl) rfl #[.slice A0 l0.length c0] rfl (by (try simp only [List.map_toArray, List.map_cons, List.map_nil]); first | done | rfl | (simp only [List.length_drop, List.length_take]; rfl)) ?_; (with_reducible refine (clone_G.calls _ _ l0 t384 _ ?side1 ?side2 A2.out).mono ?_); (case side1 => repeat (first | exact HR0.out | (with_reducible refine Kd.C_alloc ?_ _) | (with_reducible refine Kd.C_drewN ?_ _) | (with_reducible refine Kd.C_drew ?_))); (case side2 => exact HC0.out); rintro e w3 ⟨v385, rfl, ho0, hb⟩; refine ⟨_, rfl, ?_⟩; have n0_ := Aside0.mk (Kd.R_lower ho0 (below_size (by repeat (first | (with_reducible first | exact HB.out | apply below_alloc | apply pw_below_drewN | apply below_drew1) | exact HB.out)))); have n1_ := Aside0.mk (below_step (by repeat (first | (with_reducible first | exact HB.out | apply below_alloc | apply pw_below_drewN | apply below_drew1) | exact HB.out)) hb); clear HB; have HO386 := n0_; have HB := n1_; clear n0_ n1_; (try clear hb); (try clear hb2); (try clear hk); (try clear hi); (try clear ho0); obtain ⟨Ao4, co4, eo4⟩ := Kd.R_slice HO386.out; subst eo4))
 go_loopg [9] k (fun kq v9 w' => ∃ (x3_1 : List (S37)) (x9_1 : Int), v9 = .int .i64 x9_1 ∧ Aside0 (plain_Erase.l0 kq x3_1 (t384.length : Int) x9_1 = some r) ∧ Aside0 (kq ≤ k) ∧ Aside0 (Kd.R k37 37 w' w.heap.size (fun _ => True) (.slice Ao4 t384.length co4) x3_1) ∧ Aside0 (Below w.heap.size w w'))
 case atStart => exact ⟨(t384), (0), (by first | rfl | (simp; done) | (simp [*]; done)), H', ⟨Nat.le_refl _⟩, ⟨by (with_reducible repeat (first | apply Kd.R_alloc | apply Kd.R_drewN | apply Kd.R_drew)); exact HO386.out⟩, ⟨by repeat (first | (with_reducible first | exact HB.out | apply below_alloc | apply pw_below_drewN | apply below_drew1) | exact HB.out)⟩⟩
 case round =>
  clear H'
  try clear c2
  try clear p2
  try clear c4
  obtain ⟨x3_1, x9_1, rfl, HA, HK1, HO_3, HB⟩ := hrel
  have hl3_1 := (Kd.R_reads' HO_3.out).1
  rw [hl3_1] at HO_3
  (try simp only [hl3_1])
  cases gk with
  | zero => exact absurd HA.out (by simp [plain_Erase.l0])
  | succ k1 =>
   have H := HA.out
   clear HA
   simp only [plain_Erase.l0] at H
   by_cases c5 : x9_1 < (t384.length : Int)
   ·rw [if_pos c5] at H
    have c5b0 : decide (x9_1 < (t384.length : Int)) = true := decide_eq_true c5
    (try (have c5b0h := c5b0; simp only [hl3_1] at c5b0h))
    clear c5
    by_cases c6 : 0 ≤ x9_1
    ·rw [if_pos c6] at H
     have c6b0 : decide (0 ≤ x9_1) = true := decide_eq_true c6
     (try (have c6b0h := c6b0; simp only [hl3_1] at c6b0h))
     clear c6
     by_cases c7 : x9_1 < (x3_1.length : Int)
     ·rw [if_pos c7] at H
      have c7b0 : decide (x9_1 < (x3_1.length : Int)) = true := decide_eq_true c7
      (try (have c7b0h := c7b0; simp only [hl3_1] at c7b0h))
      clear c7
      obtain ⟨y387, hy387⟩ : ∃ y_ : List (S37), y_ = (x3_1.set (x9_1 : Int).toNat (⟨(rd_T37 x3_1 x9_1).f0, 0⟩ : S37)) := ⟨_, rfl⟩
      replace H : (plain_Erase.l0 k1 y387 (t384.length : Int) (wrap64 (x9_1 + 1))) = some r := by first | (rw [hy387]; with_reducible exact H) | (have H2_ := (Option.bind_some _ _).symm.trans H; rw [hy387]; with_reducible exact H2_) | (have H2_ := (Option.bind_some _ _).symm.trans H; with_reducible exact H2_) | with_reducible exact H | (rw [hy387]; exact H) | exact H
      have Ny387 := Aside0.mk hy387
      clear hy387
      have H' := Aside0.mk H
      clear H
      have p8 : 0 ≤ (x9_1 : Int) := of_decide_eq_true (by first | (with_reducible assumption) | assumption)
      have q8 : (x9_1 : Int) < ((x3_1.length : Int) : Int) := of_decide_eq_true (by first | (with_reducible assumption) | assumption)
      obtain ⟨go8, co8, eo8, gb8, gl8, cl8, HG8⟩ := Kd.R_form HO_3.out (by omega)
      (first | cases eo8 | (injection eo8 with ea_ en_ ec_; (first | subst ea_ | (injection ea_ with ea_; subst ea_)); subst ec_; clear en_))
      have GB8 := Aside0.mk gb8
      have GG8 := Aside0.mk HG8
      clear gb8 gl8 HG8
      obtain ⟨ce8, hcl8, hM8, hcc8, hfr8⟩ := Kd.R_elem HO_3.out z37 (x9_1 : Int) p8 q8
      obtain rfl := k37_openM hM8
      have hx8_0 : wr.cell? ⟨go8, (x9_1 : Int).toNat * 2, none⟩ = some (.int .i32 ((rd_T37 x3_1 x9_1).f0)) := hcc8 0 _ rfl
      have hx8_1 : wr.cell? ⟨go8, (x9_1 : Int).toNat * 2 + 1, none⟩ = some (.int .u8 ((rd_T37 x3_1 x9_1).f1)) := hcc8 1 _ rfl
      have hf8_0 : wr.frozen? ⟨go8, (x9_1 : Int).toNat * 2, none⟩ = false := hfr8 0
      have hf8_1 : wr.frozen? ⟨go8, (x9_1 : Int).toNat * 2 + 1, none⟩ = false := hfr8 1
      clear hcl8 hcc8 hfr8 hM8
      replace p8 := eq_true p8
      replace q8 := eq_true q8
      have HX9 := Aside0.mk (show Kd.R k37 37 wr w.heap.size (fun _ => True) (.slice (some ⟨go8, 0, none⟩) x3_1.length co4) x3_1 from (by (with_reducible repeat (first | apply Kd.R_alloc | apply Kd.R_drewN | apply Kd.R_drew)); exact HO_3.out))
      obtain ⟨ce9, hcl9, hM9, hcc9, hfr9⟩ := Kd.R_elem HX9.out z37 (x9_1 : Int) (of_decide_eq_true (by first | (with_reducible assumption) | assumption)) (by have h_ : (x9_1 : Int) < ((x3_1.length : Int) : Int) := of_decide_eq_true (by first | (with_reducible assumption) | assumption); first | exact h_ | (have e_ := (Kd.R_reads' HO_3.out).1; omega) | simpa using h_)
      obtain rfl := k37_openM hM9
      have HP9 := Kd.R_seg HX9.out (x9_1 : Int) (of_decide_eq_true (by first | (with_reducible assumption) | assumption)) (by have h_ : (x9_1 : Int) < ((x3_1.length : Int) : Int) := of_decide_eq_true (by first | (with_reducible assumption) | assumption); first | exact h_ | (have e_ := (Kd.R_reads' HO_3.out).1; omega) | simpa using h_) (seg := [.int .u8 0]) (j := 1) hcl9 hcc9 (show 2 ≤ 2 from by decide) (x' := (⟨(rd_T37 x3_1 x9_1).f0, 0⟩ : S37)) (k37_mkM _ _ _ (⟨(rd_T37 x3_1 x9_1).f0, 0⟩ : S37) ) (fun _ hk => hk)
      have hx9_1 := hcc9 1 _ rfl
      (try simp only [show (k37).sz = 2 from rfl, Nat.mul_one, Nat.add_zero] at hx9_1)
      have hf9_1 := hfr9 1
      (try simp only [show (k37).sz = 2 from rfl, Nat.mul_one, Nat.add_zero] at hf9_1)
      clear hcl9 hcc9 hfr9 hM9
      go_wp2_with (first | ((with_reducible refine gate_store (t := 5) (p := 15) rfl ?_); refine store_event (t := 5) (p := 15) (v := ?vo_w10) (w1 := (wr.setCell ⟨go8, (x9_1 : Int).toNat * 2 + 1, none⟩ (.int .u8 0))) ?hg ?ho ?hn ?hr ?_; (case ho => rfl); (case hg => rfl); (case hn => rfl); (case hr => first | (go_simp; done) | (go_simp; rfl)); intro w10 hw; have hg : wr.grownBy w10 (some go8) := (by rw [hw]; exact HP9.2); have hp_ : Kd.R k37 37 w10 w.heap.size (fun _ => True) (.slice (some ⟨go8, 0, none⟩) x3_1.length co4) y387 := (by rw [hw, Ny387.out]; exact HP9.1); clear HP9; have n0_ := Aside0.mk (hp_); have n1_ := Aside0.mk ((by rw [hw]; exact below_set (HB.out) GB8.out : Below w.heap.size w w10)); clear HO_3; clear HB; have HO_3 := n0_; have HB := n1_; clear n0_ n1_; clear hg hw hp_))
      (try simp only [← hl3_1])
      go_roundg k1
      case measure => have := HK1.out; omega
      case rel => exact ⟨(y387), (wrap64 (x9_1 + 1)), (by first | rfl | (simp; done) | (simp [*]; done)), H', ⟨by have := HK1.out; omega⟩, ⟨by (try simp only [hl3_1]); (with_reducible repeat (first | apply Kd.R_alloc | apply Kd.R_drewN | apply Kd.R_drew)); exact HO_3.out⟩, ⟨by repeat (first | (with_reducible first | exact HB.out | apply below_alloc | apply pw_below_drewN | apply below_drew1) | exact HB.out)⟩⟩
     ·rw [if_neg c7] at H
      exact absurd H (by simp)
    ·rw [if_neg c6] at H
     exact absurd H (by simp)
   ·rw [if_neg c5] at H
    have c5b0 : decide (x9_1 < (t384.length : Int)) = false := decide_eq_false c5
    (try (have c5b0h := c5b0; simp only [hl3_1] at c5b0h))
    clear c5
    obtain rfl := Option.some.inj H
    go_wp2
    go_ret
    exact ⟨_, by first | rfl | (simp [errW_none, errW_some] <;> rfl) | (simp [*, errW_none, errW_some] <;> rfl), by (with_reducible repeat (first | apply Kd.R_alloc | apply Kd.R_drewN | apply Kd.R_drew)); exact HO_3.out, by repeat (first | (with_reducible first | exact HB.out | apply below_alloc | apply pw_below_drewN | apply below_drew1) | exact HB.out)⟩

end Go.Proofs.YtadejblahbebdaaDoor.X
