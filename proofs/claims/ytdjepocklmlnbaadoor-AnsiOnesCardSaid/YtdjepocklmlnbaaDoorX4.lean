-- Written by this session's xprint.py (a variant of the kit's printer). Not trusted: Lean checks it.
import Derived.Test.YtdjepocklmlnbaaDoorX0
namespace Go.Proofs.YtdjepocklmlnbaaDoor.X
open Go.RowKit Go.Proofs.YtdjepocklmlnbaaDoorW.PrintWords Go.Proofs.YtdjepocklmlnbaaDoorW.PrintLast Go.Proofs.YtdjepocklmlnbaaDoorW.PrintMore
attribute [local go_sem] max2_int min2_int max_two min_two max_three min_three max_four min_four   -- for this text's walks alone
set_option linter.unusedVariables false
set_option maxHeartbeats 8000000
set_option maxRecDepth 100000
set_option linter.unusedSimpArgs false

/-! ### flongref00_Same: function 13 -/
def flongref00_Same.f (l0 : List Int) (l1 : List Int) : Option (Bool) := some ((strOfNums l0).toList == (strOfNums l1).toList)
theorem flongref00_Same.calls (A0 : Option Addr) (c0 : Nat) (l0 : List Int) (A1 : Option Addr) (c1 : Nat) (l1 : List Int) (r : Bool) (w : World) (hr0 : Kd.C (Kd.int .u8) w A0 l0.length l0) (hc0 : l0.length ≤ c0) (hr1 : Kd.C (Kd.int .u8) w A1 l1.length l1) (hc1 : l1.length ≤ c1) (h : flongref00_Same.f l0 l1 = some r) :
  Calls Tryd.prog 13 #[.slice A0 l0.length c0, .slice A1 l1.length c1] w fun e w' => e = .returned (.bool r) ∧ Drawn0 w w' := by
 have HR0 := Aside0.mk hr0
 have HC0 := Aside0.mk hc0
 clear hr0 hc0
 have HR1 := Aside0.mk hr1
 have HC1 := Aside0.mk hc1
 clear hr1 hc1
 have H : (some ((strOfNums l0).toList == (strOfNums l1).toList)) = some r := h
 clear h
 obtain rfl := Option.some.inj H
 have hcv3 := Kd.C_string (P := Tryd.prog) (A := A0) (c := c0) Tryd.underlying22 Tryd.underlying5 Tryd.underlying9 HR0.out
 (try (have hcv3v := fun m_ : Nat => Kd.C_string (P := Tryd.prog) (A := A0) (c := c0) Tryd.underlying22 Tryd.underlying5 Tryd.underlying9 (Kd.C_drewN HR0.out m_); simp only [List.length_take, Int.toNat_natCast] at hcv3v))
 have hcv4 := Kd.C_string (P := Tryd.prog) (A := A1) (c := c1) Tryd.underlying22 Tryd.underlying5 Tryd.underlying9 HR1.out
 (try (have hcv4v := fun m_ : Nat => Kd.C_string (P := Tryd.prog) (A := A1) (c := c1) Tryd.underlying22 Tryd.underlying5 Tryd.underlying9 (Kd.C_drewN HR1.out m_); simp only [List.length_take, Int.toNat_natCast] at hcv4v))
 go_enter Tryd.func13, Tryd.ntmps13
 go_wp2
 go_ret
 exact ⟨by first | rfl | (simp; done) | (simp [*]; done), by repeat (first | exact Drawn0.refl _ | apply Drawn0.step)⟩

/-! ### flongref19_Sign: function 20 -/
def flongref19_Sign.f (a0 : Int) : Option (ByteArray) := if (Int.tmod a0 4) = 1 then (some (⟨#[27, 91, 49, 109]⟩ : ByteArray)) else (if (Int.tmod a0 4) = 2 then (some (⟨#[27, 91, 52, 109]⟩ : ByteArray)) else (if (Int.tmod a0 4) = 3 then (some (⟨#[27, 91, 49, 59, 52, 109]⟩ : ByteArray)) else (some (⟨#[27, 91, 48, 109]⟩ : ByteArray))))
theorem flongref19_Sign.calls (a0 : Int) (r : ByteArray) (w : World) (h : flongref19_Sign.f a0 = some r) :
  Calls Tryd.prog 20 #[.int .u8 a0] w fun e w' => e = .returned (.string r) ∧ Drawn0 w w' := by
 have H : (if (Int.tmod a0 4) = 1 then (some (⟨#[27, 91, 49, 109]⟩ : ByteArray)) else (if (Int.tmod a0 4) = 2 then (some (⟨#[27, 91, 52, 109]⟩ : ByteArray)) else (if (Int.tmod a0 4) = 3 then (some (⟨#[27, 91, 49, 59, 52, 109]⟩ : ByteArray)) else (some (⟨#[27, 91, 48, 109]⟩ : ByteArray))))) = some r := h
 clear h
 by_cases c2 : (Int.tmod a0 4) = 1
 ·rw [if_pos c2] at H
  have c2b0 : ((Int.tmod a0 4) == 1) = true := beq_iff_eq.mpr c2
  have c2b1 : ((Int.tmod a0 4) != 1) = false := bne_eq_false_iff_eq.mpr c2
  clear c2
  obtain rfl := Option.some.inj H
  go_enter Tryd.func20, Tryd.ntmps20
  go_wp2
  go_ret
  exact ⟨by first | rfl | (simp; done) | (simp [*]; done), by repeat (first | exact Drawn0.refl _ | apply Drawn0.step)⟩
 ·rw [if_neg c2] at H
  have c2b0 : ((Int.tmod a0 4) == 1) = false := beq_eq_false_iff_ne.mpr c2
  have c2b1 : ((Int.tmod a0 4) != 1) = true := bne_iff_ne.mpr c2
  by_cases c3 : (Int.tmod a0 4) = 2
  ·rw [if_pos c3] at H
   have c3b0 : ((Int.tmod a0 4) == 2) = true := beq_iff_eq.mpr c3
   have c3b1 : ((Int.tmod a0 4) != 2) = false := bne_eq_false_iff_eq.mpr c3
   clear c3
   obtain rfl := Option.some.inj H
   go_enter Tryd.func20, Tryd.ntmps20
   go_wp2
   go_ret
   exact ⟨by first | rfl | (simp; done) | (simp [*]; done), by repeat (first | exact Drawn0.refl _ | apply Drawn0.step)⟩
  ·rw [if_neg c3] at H
   have c3b0 : ((Int.tmod a0 4) == 2) = false := beq_eq_false_iff_ne.mpr c3
   have c3b1 : ((Int.tmod a0 4) != 2) = true := bne_iff_ne.mpr c3
   by_cases c4 : (Int.tmod a0 4) = 3
   ·rw [if_pos c4] at H
    have c4b0 : ((Int.tmod a0 4) == 3) = true := beq_iff_eq.mpr c4
    have c4b1 : ((Int.tmod a0 4) != 3) = false := bne_eq_false_iff_eq.mpr c4
    clear c4
    obtain rfl := Option.some.inj H
    go_enter Tryd.func20, Tryd.ntmps20
    go_wp2
    go_ret
    exact ⟨by first | rfl | (simp; done) | (simp [*]; done), by repeat (first | exact Drawn0.refl _ | apply Drawn0.step)⟩
   ·rw [if_neg c4] at H
    have c4b0 : ((Int.tmod a0 4) == 3) = false := beq_eq_false_iff_ne.mpr c4
    have c4b1 : ((Int.tmod a0 4) != 3) = true := bne_iff_ne.mpr c4
    obtain rfl := Option.some.inj H
    go_enter Tryd.func20, Tryd.ntmps20
    go_wp2
    go_ret
    exact ⟨by first | rfl | (simp; done) | (simp [*]; done), by repeat (first | exact Drawn0.refl _ | apply Drawn0.step)⟩

/-! ### flongref02_Valid: function 58 -/
def flongref02_Valid.f (a0 : Int) : Option (Bool) := if a0 ≥ 0 then (if a0 < 1114112 then (if a0 < 55296 then (some true) else (some (decide (a0 > 57343)))) else (some false)) else (some false)
theorem flongref02_Valid.calls (a0 : Int) (r : Bool) (w : World) (h : flongref02_Valid.f a0 = some r) :
  Calls Tryd.prog 58 #[.int .i32 a0] w fun e w' => e = .returned (.bool r) ∧ Drawn0 w w' := by
 have H : (if a0 ≥ 0 then (if a0 < 1114112 then (if a0 < 55296 then (some true) else (some (decide (a0 > 57343)))) else (some false)) else (some false)) = some r := h
 clear h
 by_cases c2 : a0 ≥ 0
 ·rw [if_pos c2] at H
  have c2b0 : decide (0 ≤ a0) = true := decide_eq_true c2
  clear c2
  by_cases c3 : a0 < 1114112
  ·rw [if_pos c3] at H
   have c3b0 : decide (a0 < 1114112) = true := decide_eq_true c3
   clear c3
   by_cases c4 : a0 < 55296
   ·rw [if_pos c4] at H
    have c4b0 : decide (a0 < 55296) = true := decide_eq_true c4
    clear c4
    obtain rfl := Option.some.inj H
    go_enter Tryd.func58, Tryd.ntmps58
    go_wp2
    go_ret
    exact ⟨by first | rfl | (simp; done) | (simp [*]; done), by repeat (first | exact Drawn0.refl _ | apply Drawn0.step)⟩
   ·rw [if_neg c4] at H
    have c4b0 : decide (a0 < 55296) = false := decide_eq_false c4
    clear c4
    obtain rfl := Option.some.inj H
    go_enter Tryd.func58, Tryd.ntmps58
    go_wp2
    go_ret
    exact ⟨by first | rfl | (simp; done) | (simp [*]; done), by repeat (first | exact Drawn0.refl _ | apply Drawn0.step)⟩
  ·rw [if_neg c3] at H
   have c3b0 : decide (a0 < 1114112) = false := decide_eq_false c3
   clear c3
   obtain rfl := Option.some.inj H
   go_enter Tryd.func58, Tryd.ntmps58
   go_wp2
   go_ret
   exact ⟨by first | rfl | (simp; done) | (simp [*]; done), by repeat (first | exact Drawn0.refl _ | apply Drawn0.step)⟩
 ·rw [if_neg c2] at H
  have c2b0 : decide (0 ≤ a0) = false := decide_eq_false c2
  clear c2
  obtain rfl := Option.some.inj H
  go_enter Tryd.func58, Tryd.ntmps58
  go_wp2
  go_ret
  exact ⟨by first | rfl | (simp; done) | (simp [*]; done), by repeat (first | exact Drawn0.refl _ | apply Drawn0.step)⟩

/-! ### flongref02_One: function 40 -/
def flongref02_One.j0 : Nat → Int → Option (List Int)
 | 0, _ => none
 | k + 1, x3 => if x3 < 128 then (some (([(x3) % 256] : List Int))) else (if x3 < 2048 then (some (([(wrap64 (192 + (wrap64 (Int.tdiv x3 64)))) % 256, (wrap64 (128 + (Int.tmod x3 64))) % 256] : List Int))) else (if x3 < 65536 then (some (([(wrap64 (224 + (wrap64 (Int.tdiv x3 4096)))) % 256, (wrap64 (128 + (Int.tmod (wrap64 (Int.tdiv x3 64)) 64))) % 256, (wrap64 (128 + (Int.tmod x3 64))) % 256] : List Int))) else (some (([(wrap64 (240 + (wrap64 (Int.tdiv x3 262144)))) % 256, (wrap64 (128 + (Int.tmod (wrap64 (Int.tdiv x3 4096)) 64))) % 256, (wrap64 (128 + (Int.tmod (wrap64 (Int.tdiv x3 64)) 64))) % 256, (wrap64 (128 + (Int.tmod x3 64))) % 256] : List Int)))))
def flongref02_One.f (k : Nat) (a0 : Int) : Option (List Int) := (flongref02_Valid.f a0).bind fun t172 => (if t172 = true then (flongref02_One.j0 k (wrap64 (a0))) else (flongref02_One.j0 k 65533))
theorem flongref02_One.mono_l : ∀ k, (∀ y0, LeO (flongref02_One.j0 k y0) (flongref02_One.j0 (k + 1) y0))
 | 0 => fun _ r h => by simp [flongref02_One.j0] at h
 | k + 1 => by
  have ih0 := flongref02_One.mono_l k
  ·intro y0
   unfold flongref02_One.j0
   repeat' first
   | (with_reducible exact ih0 _)
   | (with_reducible exact LeO.refl _)
   | (with_reducible exact LeO.none _)
   | (with_reducible refine LeO.ite ?_ ?_)
   | (with_reducible refine LeO.bind ?_ (fun _ => ?_))
theorem flongref02_One.mono : ∀ a0 k, LeO (flongref02_One.f k a0) (flongref02_One.f (k + 1) a0) := by
 intro a0 k
 have ih0 := flongref02_One.mono_l k
 unfold flongref02_One.f
 repeat' first
   | (with_reducible exact ih0 _)
   | (with_reducible exact LeO.refl _)
   | (with_reducible exact LeO.none _)
   | (with_reducible refine LeO.ite ?_ ?_)
   | (with_reducible refine LeO.bind ?_ (fun _ => ?_))
theorem flongref02_One.calls (k : Nat) (a0 : Int) (r : List Int) (w : World) (h : flongref02_One.f k a0 = some r) :
  Calls Tryd.prog 40 #[.int .i32 a0] w fun e w' => ∃ v0_ : Value, e = .returned (v0_) ∧ Kd.R (Kd.int .u8) 5 w' w.heap.size (fun _ => True) v0_ r ∧ Below w.heap.size w w' := by
 have HB := Aside0.mk (Below.refl w.heap.size w)
 have H : ((flongref02_Valid.f a0).bind fun t172 => (if t172 = true then (flongref02_One.j0 k (wrap64 (a0))) else (flongref02_One.j0 k 65533))) = some r := h
 clear h
 replace H := Option.bind_eq_some_iff.mp H
 obtain ⟨t172, A20, H⟩ := H
 replace H : (if t172 = true then (flongref02_One.j0 k (wrap64 (a0))) else (flongref02_One.j0 k 65533)) = some r := H
 have A2 := Aside0.mk A20
 clear A20
 have HC3 := Aside0.mk H
 clear H
 go_enter Tryd.func40, Tryd.ntmps40
 go_upto_if 8 with (first | ((with_reducible refine gate_callee (f := 58) rfl ?_); refine goesL_ (some 7) rfl rfl Tryd.func58 (by kernel_rfl) rfl #[.int .i32 a0] rfl (by (try simp only [List.map_toArray, List.map_cons, List.map_nil]); first | done | rfl | (simp only [List.length_drop, List.length_take]; rfl)) ?_; (with_reducible refine (flongref02_Valid.calls a0 t172 _ A2.out).mono ?_); rintro e w' ⟨rfl, ⟨nd, rfl⟩⟩; refine ⟨_, rfl, ?_⟩))
 (try simp only [Act.put, List.setIfInBounds_toArray, List.set_cons_zero, List.set_cons_succ])
 go_cut [3] (fun v3 wc => ∃ (kq : Nat) (x3_2 : Int), v3 = .int .i64 x3_2 ∧ Aside0 (flongref02_One.j0 kq x3_2 = some r) ∧ Aside0 (kq ≤ k) ∧ Aside0 (Below w.heap.size w wc))
 case first =>
  have H := HC3.out
  clear HC3
  by_cases c4 : t172 = true
  ·subst c4
   have H1 : (flongref02_One.j0 k (wrap64 (a0))) = some r := by rw [if_pos rfl] at H; exact H
   clear H
   have H := H1
   clear H1
   have H' := Aside0.mk H
   clear H
   go_wp2
   go_meet
   case rel => exact ⟨_, (wrap64 (a0)), (by first | rfl | (simp; done) | (simp [*]; done)), H', ⟨by first | omega | exact Nat.le_refl _⟩, ⟨by repeat (first | (with_reducible first | exact HB.out | apply below_alloc | apply pw_below_drewN | apply below_drew1) | exact HB.out)⟩⟩
  ·replace c4 := Bool.eq_false_iff.mpr c4
   subst c4
   have H1 : (flongref02_One.j0 k 65533) = some r := by rw [if_neg (show ¬ (false = true) by decide)] at H; exact H
   clear H
   have H := H1
   clear H1
   have H' := Aside0.mk H
   clear H
   go_wp2
   go_meet
   case rel => exact ⟨_, (65533), (by first | rfl | (simp; done) | (simp [*]; done)), H', ⟨by first | omega | exact Nat.le_refl _⟩, ⟨by repeat (first | (with_reducible first | exact HB.out | apply below_alloc | apply pw_below_drewN | apply below_drew1) | exact HB.out)⟩⟩
 case rest =>
  clear HC3
  try clear p2
  try clear c4
  obtain ⟨kq, x3_2, rfl, HA, HJ2, HB⟩ := hcut
  cases kq with
  | zero => exact absurd HA.out (by simp [flongref02_One.j0])
  | succ kj2 =>
   have H := HA.out
   clear HA
   simp only [flongref02_One.j0] at H
   by_cases c5 : x3_2 < 128
   ·rw [if_pos c5] at H
    have c5b0 : decide (x3_2 < 128) = true := decide_eq_true c5
    clear c5
    obtain ⟨y173, hy173⟩ : ∃ y_ : List Int, y_ = (([(x3_2) % 256] : List Int)) := ⟨_, rfl⟩
    replace H : (some y173) = some r := by first | (rw [hy173]; with_reducible exact H) | (have H2_ := (Option.bind_some _ _).symm.trans H; rw [hy173]; with_reducible exact H2_) | (have H2_ := (Option.bind_some _ _).symm.trans H; with_reducible exact H2_) | with_reducible exact H | (rw [hy173]; exact H) | exact H
    have Ny173 := Aside0.mk hy173
    clear hy173
    obtain rfl := Option.some.inj H
    go_wp2_with (first | ((with_reducible refine gate_dst (N := 13) rfl ?_); refine Kd.R_lit (Kd.int .u8) _ 5 ?hg (N := 13) ?hd (xs := ([(x3_2) % 256] : List Int)) (inner := [.int .u8 ((x3_2) % 256)]) (ok := fun _ => True) (okp := fun _ => True) ?hr ?hp (fun _ hk => hk) trivial (Below.refl _ _) (Nat.le_refl _) (by simp) ?_; (case hd => rfl); (case hg => rfl); (case hr => first | (go_simp; done) | (go_simp; rfl)); (case hp => exact (Reps.one (show Kd.M (Kd.int .u8) _ _ _ ((x3_2) % 256) [.int .u8 ((x3_2) % 256)] from rfl) (Reps.none _ _))); intro v174 w6 ho7 hb hg_ hnew_; clear hg_ hnew_; (first | rw [← Ny173.out] at ho7 | (simp only [Int.reduceToNat] at ho7; rw [← Ny173.out] at ho7)); have n0_ := Aside0.mk (Kd.R_lower ho7 (below_size (by repeat (first | (with_reducible first | exact HB.out | apply below_alloc | apply pw_below_drewN | apply below_drew1) | exact HB.out)))); have n1_ := Aside0.mk (below_step (by repeat (first | (with_reducible first | exact HB.out | apply below_alloc | apply pw_below_drewN | apply below_drew1) | exact HB.out)) hb); clear HB; have HO175 := n0_; have HB := n1_; clear n0_ n1_; clear hb ho7))
    go_ret
    exact ⟨_, by first | rfl | (simp [errW_none, errW_some] <;> rfl) | (simp [*, errW_none, errW_some] <;> rfl), by (with_reducible repeat (first | apply Kd.R_alloc | apply Kd.R_drewN | apply Kd.R_drew)); exact HO175.out, by repeat (first | (with_reducible first | exact HB.out | apply below_alloc | apply pw_below_drewN | apply below_drew1) | exact HB.out)⟩
   ·rw [if_neg c5] at H
    have c5b0 : decide (x3_2 < 128) = false := decide_eq_false c5
    clear c5
    by_cases c8 : x3_2 < 2048
    ·rw [if_pos c8] at H
     have c8b0 : decide (x3_2 < 2048) = true := decide_eq_true c8
     clear c8
     obtain ⟨y176, hy176⟩ : ∃ y_ : List Int, y_ = (([(wrap64 (192 + (wrap64 (Int.tdiv x3_2 64)))) % 256, (wrap64 (128 + (Int.tmod x3_2 64))) % 256] : List Int)) := ⟨_, rfl⟩
     replace H : (some y176) = some r := by first | (rw [hy176]; with_reducible exact H) | (have H2_ := (Option.bind_some _ _).symm.trans H; rw [hy176]; with_reducible exact H2_) | (have H2_ := (Option.bind_some _ _).symm.trans H; with_reducible exact H2_) | with_reducible exact H | (rw [hy176]; exact H) | exact H
     have Ny176 := Aside0.mk hy176
     clear hy176
     obtain rfl := Option.some.inj H
     go_wp2_with (first | ((with_reducible refine gate_dst (N := 24) rfl ?_); refine Kd.R_lit (Kd.int .u8) _ 5 ?hg (N := 24) ?hd (xs := ([(wrap64 (192 + (wrap64 (Int.tdiv x3_2 64)))) % 256, (wrap64 (128 + (Int.tmod x3_2 64))) % 256] : List Int)) (inner := [.int .u8 ((wrap64 (192 + (wrap64 (Int.tdiv x3_2 64)))) % 256), .int .u8 ((wrap64 (128 + (Int.tmod x3_2 64))) % 256)]) (ok := fun _ => True) (okp := fun _ => True) ?hr ?hp (fun _ hk => hk) trivial (Below.refl _ _) (Nat.le_refl _) (by simp) ?_; (case hd => rfl); (case hg => rfl); (case hr => first | (go_simp; done) | (go_simp; rfl)); (case hp => exact (Reps.one (show Kd.M (Kd.int .u8) _ _ _ ((wrap64 (192 + (wrap64 (Int.tdiv x3_2 64)))) % 256) [.int .u8 ((wrap64 (192 + (wrap64 (Int.tdiv x3_2 64)))) % 256)] from rfl) (Reps.one (show Kd.M (Kd.int .u8) _ _ _ ((wrap64 (128 + (Int.tmod x3_2 64))) % 256) [.int .u8 ((wrap64 (128 + (Int.tmod x3_2 64))) % 256)] from rfl) (Reps.none _ _)))); intro v177 w9 ho10 hb hg_ hnew_; clear hg_ hnew_; (first | rw [← Ny176.out] at ho10 | (simp only [Int.reduceToNat] at ho10; rw [← Ny176.out] at ho10)); have n0_ := Aside0.mk (Kd.R_lower ho10 (below_size (by repeat (first | (with_reducible first | exact HB.out | apply below_alloc | apply pw_below_drewN | apply below_drew1) | exact HB.out)))); have n1_ := Aside0.mk (below_step (by repeat (first | (with_reducible first | exact HB.out | apply below_alloc | apply pw_below_drewN | apply below_drew1) | exact HB.out)) hb); clear HB; have HO178 := n0_; have HB := n1_; clear n0_ n1_; clear hb ho10))
     go_ret
     exact ⟨_, by first | rfl | (simp [errW_none, errW_some] <;> rfl) | (simp [*, errW_none, errW_some] <;> rfl), by (with_reducible repeat (first | apply Kd.R_alloc | apply Kd.R_drewN | apply Kd.R_drew)); exact HO178.out, by repeat (first | (with_reducible first | exact HB.out | apply below_alloc | apply pw_below_drewN | apply below_drew1) | exact HB.out)⟩
    ·rw [if_neg c8] at H
     have c8b0 : decide (x3_2 < 2048) = false := decide_eq_false c8
     clear c8
     by_cases c11 : x3_2 < 65536
     ·rw [if_pos c11] at H
      have c11b0 : decide (x3_2 < 65536) = true := decide_eq_true c11
      clear c11
      obtain ⟨y179, hy179⟩ : ∃ y_ : List Int, y_ = (([(wrap64 (224 + (wrap64 (Int.tdiv x3_2 4096)))) % 256, (wrap64 (128 + (Int.tmod (wrap64 (Int.tdiv x3_2 64)) 64))) % 256, (wrap64 (128 + (Int.tmod x3_2 64))) % 256] : List Int)) := ⟨_, rfl⟩
      replace H : (some y179) = some r := by first | (rw [hy179]; with_reducible exact H) | (have H2_ := (Option.bind_some _ _).symm.trans H; rw [hy179]; with_reducible exact H2_) | (have H2_ := (Option.bind_some _ _).symm.trans H; with_reducible exact H2_) | with_reducible exact H | (rw [hy179]; exact H) | exact H
      have Ny179 := Aside0.mk hy179
      clear hy179
      obtain rfl := Option.some.inj H
      go_wp2_with (first | ((with_reducible refine gate_dst (N := 40) rfl ?_); refine Kd.R_lit (Kd.int .u8) _ 5 ?hg (N := 40) ?hd (xs := ([(wrap64 (224 + (wrap64 (Int.tdiv x3_2 4096)))) % 256, (wrap64 (128 + (Int.tmod (wrap64 (Int.tdiv x3_2 64)) 64))) % 256, (wrap64 (128 + (Int.tmod x3_2 64))) % 256] : List Int)) (inner := [.int .u8 ((wrap64 (224 + (wrap64 (Int.tdiv x3_2 4096)))) % 256), .int .u8 ((wrap64 (128 + (Int.tmod (wrap64 (Int.tdiv x3_2 64)) 64))) % 256), .int .u8 ((wrap64 (128 + (Int.tmod x3_2 64))) % 256)]) (ok := fun _ => True) (okp := fun _ => True) ?hr ?hp (fun _ hk => hk) trivial (Below.refl _ _) (Nat.le_refl _) (by simp) ?_; (case hd => rfl); (case hg => rfl); (case hr => first | (go_simp; done) | (go_simp; rfl)); (case hp => exact (Reps.one (show Kd.M (Kd.int .u8) _ _ _ ((wrap64 (224 + (wrap64 (Int.tdiv x3_2 4096)))) % 256) [.int .u8 ((wrap64 (224 + (wrap64 (Int.tdiv x3_2 4096)))) % 256)] from rfl) (Reps.one (show Kd.M (Kd.int .u8) _ _ _ ((wrap64 (128 + (Int.tmod (wrap64 (Int.tdiv x3_2 64)) 64))) % 256) [.int .u8 ((wrap64 (128 + (Int.tmod (wrap64 (Int.tdiv x3_2 64)) 64))) % 256)] from rfl) (Reps.one (show Kd.M (Kd.int .u8) _ _ _ ((wrap64 (128 + (Int.tmod x3_2 64))) % 256) [.int .u8 ((wrap64 (128 + (Int.tmod x3_2 64))) % 256)] from rfl) (Reps.none _ _))))); intro v180 w12 ho13 hb hg_ hnew_; clear hg_ hnew_; (first | rw [← Ny179.out] at ho13 | (simp only [Int.reduceToNat] at ho13; rw [← Ny179.out] at ho13)); have n0_ := Aside0.mk (Kd.R_lower ho13 (below_size (by repeat (first | (with_reducible first | exact HB.out | apply below_alloc | apply pw_below_drewN | apply below_drew1) | exact HB.out)))); have n1_ := Aside0.mk (below_step (by repeat (first | (with_reducible first | exact HB.out | apply below_alloc | apply pw_below_drewN | apply below_drew1) | exact HB.out)) hb); clear HB; have HO181 := n0_; have HB := n1_; clear n0_ n1_; clear hb ho13))
      go_ret
      exact ⟨_, by first | rfl | (simp [errW_none, errW_some] <;> rfl) | (simp [*, errW_none, errW_some] <;> rfl), by (with_reducible repeat (first | apply Kd.R_alloc | apply Kd.R_drewN | apply Kd.R_drew)); exact HO181.out, by repeat (first | (with_reducible first | exact HB.out | apply below_alloc | apply pw_below_drewN | apply below_drew1) | exact HB.out)⟩
     ·rw [if_neg c11] at H
      have c11b0 : decide (x3_2 < 65536) = false := decide_eq_false c11
      clear c11
      obtain ⟨y182, hy182⟩ : ∃ y_ : List Int, y_ = (([(wrap64 (240 + (wrap64 (Int.tdiv x3_2 262144)))) % 256, (wrap64 (128 + (Int.tmod (wrap64 (Int.tdiv x3_2 4096)) 64))) % 256, (wrap64 (128 + (Int.tmod (wrap64 (Int.tdiv x3_2 64)) 64))) % 256, (wrap64 (128 + (Int.tmod x3_2 64))) % 256] : List Int)) := ⟨_, rfl⟩
      replace H : (some y182) = some r := by first | (rw [hy182]; with_reducible exact H) | (have H2_ := (Option.bind_some _ _).symm.trans H; rw [hy182]; with_reducible exact H2_) | (have H2_ := (Option.bind_some _ _).symm.trans H; with_reducible exact H2_) | with_reducible exact H | (rw [hy182]; exact H) | exact H
      have Ny182 := Aside0.mk hy182
      clear hy182
      obtain rfl := Option.some.inj H
      go_wp2_with (first | ((with_reducible refine gate_dst (N := 59) rfl ?_); refine Kd.R_lit (Kd.int .u8) _ 5 ?hg (N := 59) ?hd (xs := ([(wrap64 (240 + (wrap64 (Int.tdiv x3_2 262144)))) % 256, (wrap64 (128 + (Int.tmod (wrap64 (Int.tdiv x3_2 4096)) 64))) % 256, (wrap64 (128 + (Int.tmod (wrap64 (Int.tdiv x3_2 64)) 64))) % 256, (wrap64 (128 + (Int.tmod x3_2 64))) % 256] : List Int)) (inner := [.int .u8 ((wrap64 (240 + (wrap64 (Int.tdiv x3_2 262144)))) % 256), .int .u8 ((wrap64 (128 + (Int.tmod (wrap64 (Int.tdiv x3_2 4096)) 64))) % 256), .int .u8 ((wrap64 (128 + (Int.tmod (wrap64 (Int.tdiv x3_2 64)) 64))) % 256), .int .u8 ((wrap64 (128 + (Int.tmod x3_2 64))) % 256)]) (ok := fun _ => True) (okp := fun _ => True) ?hr ?hp (fun _ hk => hk) trivial (Below.refl _ _) (Nat.le_refl _) (by simp) ?_; (case hd => rfl); (case hg => rfl); (case hr => first | (go_simp; done) | (go_simp; rfl)); (case hp => exact (Reps.one (show Kd.M (Kd.int .u8) _ _ _ ((wrap64 (240 + (wrap64 (Int.tdiv x3_2 262144)))) % 256) [.int .u8 ((wrap64 (240 + (wrap64 (Int.tdiv x3_2 262144)))) % 256)] from rfl) (Reps.one (show Kd.M (Kd.int .u8) _ _ _ ((wrap64 (128 + (Int.tmod (wrap64 (Int.tdiv x3_2 4096)) 64))) % 256) [.int .u8 ((wrap64 (128 + (Int.tmod (wrap64 (Int.tdiv x3_2 4096)) 64))) % 256)] from rfl) (Reps.one (show Kd.M (Kd.int .u8) _ _ _ ((wrap64 (128 + (Int.tmod (wrap64 (Int.tdiv x3_2 64)) 64))) % 256) [.int .u8 ((wrap64 (128 + (Int.tmod (wrap64 (Int.tdiv x3_2 64)) 64))) % 256)] from rfl) (Reps.one (show Kd.M (Kd.int .u8) _ _ _ ((wrap64 (128 + (Int.tmod x3_2 64))) % 256) [.int .u8 ((wrap64 (128 + (Int.tmod x3_2 64))) % 256)] from rfl) (Reps.none _ _)))))); intro v183 w14 ho15 hb hg_ hnew_; clear hg_ hnew_; (first | rw [← Ny182.out] at ho15 | (simp only [Int.reduceToNat] at ho15; rw [← Ny182.out] at ho15)); have n0_ := Aside0.mk (Kd.R_lower ho15 (below_size (by repeat (first | (with_reducible first | exact HB.out | apply below_alloc | apply pw_below_drewN | apply below_drew1) | exact HB.out)))); have n1_ := Aside0.mk (below_step (by repeat (first | (with_reducible first | exact HB.out | apply below_alloc | apply pw_below_drewN | apply below_drew1) | exact HB.out)) hb); clear HB; have HO184 := n0_; have HB := n1_; clear n0_ n1_; clear hb ho15))
      go_ret
      exact ⟨_, by first | rfl | (simp [errW_none, errW_some] <;> rfl) | (simp [*, errW_none, errW_some] <;> rfl), by (with_reducible repeat (first | apply Kd.R_alloc | apply Kd.R_drewN | apply Kd.R_drew)); exact HO184.out, by repeat (first | (with_reducible first | exact HB.out | apply below_alloc | apply pw_below_drewN | apply below_drew1) | exact HB.out)⟩

/-! ### flongref03_Text: function 24 -/
def flongref03_Text.l0 : Nat → List (S44) → List Int → Int → Option (ByteArray)
 | 0, _, _, _ => none
 | k + 1, x0, x3, x4 => if x4 < (x0.length : Int) then (if 0 ≤ x4 then ((flongref02_One.f k ((rd_T44 x0 x4).f0)).bind fun t186 => (if x3.length + t186.length < 140737488355328 then (flongref03_Text.l0 k x0 (x3 ++ t186) (wrap64 (x4 + 1))) else (none))) else (none)) else (some (strOfNums x3))
def flongref03_Text.f (k : Nat) (l0 : List (S44)) : Option (ByteArray) := flongref03_Text.l0 k l0 ([] : List Int) 0
theorem flongref03_Text.mono_l : ∀ k, (∀ y0 y1 y2, LeO (flongref03_Text.l0 k y0 y1 y2) (flongref03_Text.l0 (k + 1) y0 y1 y2))
 | 0 => fun _ _ _ r h => by simp [flongref03_Text.l0] at h
 | k + 1 => by
  have ih0 := flongref03_Text.mono_l k
  ·intro y0 y1 y2
   unfold flongref03_Text.l0
   repeat' first
   | (with_reducible exact ih0 _ _ _)
   | (with_reducible exact flongref02_One.mono _ _)
   | (with_reducible exact LeO.refl _)
   | (with_reducible exact LeO.none _)
   | (with_reducible refine LeO.ite ?_ ?_)
   | (with_reducible refine LeO.bind ?_ (fun _ => ?_))
theorem flongref03_Text.mono : ∀ a0 k, LeO (flongref03_Text.f k a0) (flongref03_Text.f (k + 1) a0) := by
 intro a0 k
 have ih0 := flongref03_Text.mono_l k
 unfold flongref03_Text.f
 repeat' first
   | (with_reducible exact ih0 _ _ _)
   | (with_reducible exact flongref02_One.mono _ _)
   | (with_reducible exact LeO.refl _)
   | (with_reducible exact LeO.none _)
   | (with_reducible refine LeO.ite ?_ ?_)
   | (with_reducible refine LeO.bind ?_ (fun _ => ?_))
theorem flongref03_Text.calls (k : Nat) (A0 : Option Addr) (c0 : Nat) (l0 : List (S44)) (r : ByteArray) (w : World) (hr0 : Kd.C k44 w A0 l0.length l0) (hc0 : l0.length ≤ c0) (h : flongref03_Text.f k l0 = some r) :
  Calls Tryd.prog 24 #[.slice A0 l0.length c0] w fun e w' => e = .returned (.string r) ∧ Below w.heap.size w w' := by
 have HR0 := Aside0.mk hr0
 have HC0 := Aside0.mk hc0
 clear hr0 hc0
 have HB := Aside0.mk (Below.refl w.heap.size w)
 have H : (flongref03_Text.l0 k l0 ([] : List Int) 0) = some r := h
 clear h
 have H' := Aside0.mk H
 clear H
 go_enter Tryd.func24, Tryd.ntmps24
 go_wp2
 go_loopg [3, 4] k (fun kq v3 v4 w' => ∃ (x3_1 : List Int) (x4_1 : Int), v4 = .int .i64 x4_1 ∧ Aside0 (flongref03_Text.l0 kq l0 x3_1 x4_1 = some r) ∧ Aside0 (kq ≤ k) ∧ Aside0 (Kd.R (Kd.int .u8) 5 w' w.heap.size (fun _ => True) v3 x3_1) ∧ Aside0 (Below w.heap.size w w'))
 case atStart => exact ⟨(([] : List Int)), (0), (by first | rfl | (simp; done) | (simp [*]; done)), H', ⟨Nat.le_refl _⟩, ⟨by first | exact Kd.R_nil _ _ _ _ _ | exact Kd.N_nil _ _ _ _ _ | exact Kd.V_nil _ _ _ _ _ | exact Kd.Q_nil _ _ _ _ _ | exact Kd.S_nil _ _ _ _ _⟩, ⟨by repeat (first | (with_reducible first | exact HB.out | apply below_alloc | apply pw_below_drewN | apply below_drew1) | exact HB.out)⟩⟩
 case round =>
  clear H'
  obtain ⟨x3_1, x4_1, rfl, HA, HK1, HO_3, HB⟩ := hrel
  cases gk with
  | zero => exact absurd HA.out (by simp [flongref03_Text.l0])
  | succ k1 =>
   have H := HA.out
   clear HA
   simp only [flongref03_Text.l0] at H
   by_cases c2 : x4_1 < (l0.length : Int)
   ·rw [if_pos c2] at H
    have c2b0 : decide (x4_1 < (l0.length : Int)) = true := decide_eq_true c2
    clear c2
    by_cases c3 : 0 ≤ x4_1
    ·rw [if_pos c3] at H
     have c3b0 : decide (0 ≤ x4_1) = true := decide_eq_true c3
     clear c3
     replace H := Option.bind_eq_some_iff.mp H
     obtain ⟨t186, A40, H⟩ := H
     replace H : (if x3_1.length + t186.length < 140737488355328 then (flongref03_Text.l0 k1 l0 (x3_1 ++ t186) (wrap64 (x4_1 + 1))) else (none)) = some r := H
     have A4 := Aside0.mk A40
     clear A40
     by_cases c5 : x3_1.length + t186.length < 140737488355328
     ·rw [if_pos c5] at H
      have LMc5 := Aside0.mk c5
      clear c5
      obtain ⟨y189, hy189⟩ : ∃ y_ : List Int, y_ = (x3_1 ++ t186) := ⟨_, rfl⟩
      replace H : (flongref03_Text.l0 k1 l0 y189 (wrap64 (x4_1 + 1))) = some r := by first | (rw [hy189]; with_reducible exact H) | (have H2_ := (Option.bind_some _ _).symm.trans H; rw [hy189]; with_reducible exact H2_) | (have H2_ := (Option.bind_some _ _).symm.trans H; with_reducible exact H2_) | with_reducible exact H | (rw [hy189]; exact H) | exact H
      have Ny189 := Aside0.mk hy189
      clear hy189
      have H' := Aside0.mk H
      clear H
      have p185 : 0 ≤ (x4_1 : Int) := of_decide_eq_true (by first | (with_reducible assumption) | assumption)
      have q185 : x4_1 < (l0.length : Int) := of_decide_eq_true (by first | (with_reducible assumption) | assumption)
      obtain ⟨ad185, e185, hx185_0, hx185_1⟩ := at_T44 HR0.out x4_1 p185 q185
      cases e185
      replace hx185_0 := (HB.out.cell (World.block_lt_of_cell? w _ hx185_0)).trans hx185_0
      replace hx185_1 := (HB.out.cell (World.block_lt_of_cell? w _ hx185_1)).trans hx185_1
      replace p185 := eq_true p185
      replace q185 := eq_true q185
      go_wp2_with (first | ((with_reducible refine gate_callee (f := 40) rfl ?_); refine goesL_ (some 17) rfl rfl Tryd.func40 (by kernel_rfl) rfl #[.int .i32 ((rd_T44 l0 x4_1).f0)] rfl (by (try simp only [List.map_toArray, List.map_cons, List.map_nil]); first | done | rfl | (simp only [List.length_drop, List.length_take]; rfl)) ?_; (with_reducible refine (flongref02_One.calls k1 ((rd_T44 l0 x4_1).f0) t186 _ A4.out).mono ?_); rintro e w6 ⟨v187, rfl, ho0, hb⟩; refine ⟨_, rfl, ?_⟩; have n0_ := Aside0.mk (Kd.R_elder' (by (with_reducible repeat (first | apply Kd.R_alloc | apply Kd.R_drewN | apply Kd.R_drew)); exact HO_3.out) (Kd.R_base ho0) hb); have n1_ := Aside0.mk (Kd.R_lower (Kd.R_new' ho0 (Kd.R_lt (by (with_reducible repeat (first | apply Kd.R_alloc | apply Kd.R_drewN | apply Kd.R_drew)); exact HO_3.out))) (below_size (by repeat (first | (with_reducible first | exact HB.out | apply below_alloc | apply pw_below_drewN | apply below_drew1) | exact HB.out)))); have n2_ := Aside0.mk (below_step (by repeat (first | (with_reducible first | exact HB.out | apply below_alloc | apply pw_below_drewN | apply below_drew1) | exact HB.out)) hb); clear HO_3; clear HB; have HO_3 := n0_; have HO188 := n1_; have HB := n2_; clear n0_ n1_ n2_; (try clear hb); (try clear hb2); (try clear hk); (try clear hi); (try clear ho0); obtain ⟨Ao8, co8, eo8⟩ := Kd.R_slice HO188.out; subst eo8) | ((with_reducible refine gate_builtin (b := .append) (xs := #[.tmp 11, .tmp 17]) rfl ?_); at_builtin; refine Kd.R_append_rows (Kd.int .u8) (w0 := w) w.heap.size rfl (.tmp 11) (.tmp 17) 22 5 (.int .u8 0) 1 rfl Tryd.underlying22 info5 rfl (by decide) (by omega) u3 x3_1 t186 _ _ _ (fun k_ => some k_ ≠ (.slice Ao8 t186.length co8 : Value).ownBlock) (fun _ => False) rfl rfl ?aO ?aR (fun _ _ h => h) (fun _ h => h.elim) ?aF ?aB ?aS ?aL ?_; (case aR => repeat (first | exact (Kd.R_reads' HO188.out).2.2 | (with_reducible refine Kd.C_alloc ?_ _) | (with_reducible refine Kd.C_drewN ?_ _) | (with_reducible refine Kd.C_drew ?_))); (case aB => exact (by repeat (first | (with_reducible first | exact HB.out | apply below_alloc | apply pw_below_drewN | apply below_drew1) | exact HB.out))); (case aF => exact (fun k_ hk => Kd.fresh' (Kd.R_lt (by (with_reducible repeat (first | apply Kd.R_alloc | apply Kd.R_drewN | apply Kd.R_drew)); exact HO188.out)) k_ hk)); (case aO => exact (by (with_reducible repeat (first | apply Kd.R_alloc | apply Kd.R_drewN | apply Kd.R_drew)); exact Kd.R_mono HO_3.out (fun _ hk => hk.2))); (case aS => exact (below_size (by repeat (first | (with_reducible first | exact HB.out | apply below_alloc | apply pw_below_drewN | apply below_drew1) | exact HB.out)))); (case aL => have := LMc5.out; omega); intro v190 w7 ho hb hg hat; rw [← Ny189.out] at ho; have n0_ := Aside0.mk (Kd.R_after (ok := (fun _ => True)) (by (with_reducible repeat (first | apply Kd.R_alloc | apply Kd.R_drewN | apply Kd.R_drew)); exact HO188.out) hg hat); have n1_ := Aside0.mk (hb); have n2_ := Aside0.mk (ho); clear HO188; clear HB; clear HO_3; have HO188 := n0_; have HB := n1_; have HO191 := n2_; clear n0_ n1_ n2_; clear ho hb hg hat))
      go_roundg k1
      case measure => have := HK1.out; omega
      case rel => exact ⟨(y189), (wrap64 (x4_1 + 1)), (by first | rfl | (simp; done) | (simp [*]; done)), H', ⟨by have := HK1.out; omega⟩, ⟨by (with_reducible repeat (first | apply Kd.R_alloc | apply Kd.R_drewN | apply Kd.R_drew)); exact Kd.R_mono HO191.out (fun _ hk => trivial)⟩, ⟨by repeat (first | (with_reducible first | exact HB.out | apply below_alloc | apply pw_below_drewN | apply below_drew1) | exact HB.out)⟩⟩
     ·rw [if_neg c5] at H
      exact absurd H (by simp)
    ·rw [if_neg c3] at H
     exact absurd H (by simp)
   ·rw [if_neg c2] at H
    have c2b0 : decide (x4_1 < (l0.length : Int)) = false := decide_eq_false c2
    clear c2
    obtain rfl := Option.some.inj H
    have hcv9 := own_string (P := Tryd.prog) Tryd.underlying22 Tryd.underlying5 Tryd.underlying9 (Kd.own_of_R HO_3.out)
    go_wp2
    go_ret
    exact ⟨by first | rfl | (simp [errW_none, errW_some] <;> rfl) | (simp [*, errW_none, errW_some] <;> rfl), by repeat (first | (with_reducible first | exact HB.out | apply below_alloc | apply pw_below_drewN | apply below_drew1) | exact HB.out)⟩

/-! ### flongref03_Trim: function 41 -/
def flongref03_Trim.l0 : Nat → List (S44) → Int → Option ((List (S44)))
 | 0, _, _ => none
 | k + 1, x0, x3 => if x3 > 0 then (if 0 ≤ (wrap64 (x3 - 1)) then (if (wrap64 (x3 - 1)) < (x0.length : Int) then (if ((rd_T44 x0 (wrap64 (x3 - 1))).f0) = 32 then (flongref03_Trim.l0 k x0 (wrap64 (x3 - 1))) else (if 0 ≤ x3 then (if x3 ≤ (x0.length : Int) then (some (x0.take (x3 : Int).toNat)) else (none)) else (none))) else (none)) else (none)) else (if 0 ≤ x3 then (if x3 ≤ (x0.length : Int) then (some (x0.take (x3 : Int).toNat)) else (none)) else (none))
def flongref03_Trim.f (k : Nat) (l0 : List (S44)) : Option ((List (S44))) := flongref03_Trim.l0 k l0 (l0.length : Int)
theorem flongref03_Trim.mono_l : ∀ k, (∀ y0 y1, LeO (flongref03_Trim.l0 k y0 y1) (flongref03_Trim.l0 (k + 1) y0 y1))
 | 0 => fun _ _ r h => by simp [flongref03_Trim.l0] at h
 | k + 1 => by
  have ih0 := flongref03_Trim.mono_l k
  ·intro y0 y1
   unfold flongref03_Trim.l0
   repeat' first
   | (with_reducible exact ih0 _ _)
   | (with_reducible exact LeO.refl _)
   | (with_reducible exact LeO.none _)
   | (with_reducible refine LeO.ite ?_ ?_)
   | (with_reducible refine LeO.bind ?_ (fun _ => ?_))
theorem flongref03_Trim.mono : ∀ a0 k, LeO (flongref03_Trim.f k a0) (flongref03_Trim.f (k + 1) a0) := by
 intro a0 k
 have ih0 := flongref03_Trim.mono_l k
 unfold flongref03_Trim.f
 repeat' first
   | (with_reducible exact ih0 _ _)
   | (with_reducible exact LeO.refl _)
   | (with_reducible exact LeO.none _)
   | (with_reducible refine LeO.ite ?_ ?_)
   | (with_reducible refine LeO.bind ?_ (fun _ => ?_))
theorem flongref03_Trim.calls (k : Nat) (P0_ : Nat → Prop) (A0 : Option Addr) (c0 : Nat) (l0 : List (S44)) (r : List (S44)) (w : World) (hs0 : Kd.V k44 44 w w.heap.size (fun k_ => P0_ k_) (.slice A0 l0.length c0) l0) (h : flongref03_Trim.f k l0 = some r) :
  Calls Tryd.prog 41 #[.slice A0 l0.length c0] w fun e w' => ∃ v0_ : Value, e = .returned (v0_) ∧ Kd.V k44 44 w' w.heap.size (fun k_ => (P0_ k_ ∨ w.heap.size ≤ k_)) v0_ r ∧ Below w.heap.size w w' := by
 have HO0 := Aside0.mk (show Kd.V k44 44 w w.heap.size (fun k_ => (P0_ k_ ∨ w.heap.size ≤ k_)) (.slice A0 l0.length c0) l0 from Kd.V_mono hs0 (fun k_ hk => .inl hk))
 have HB := Aside0.mk (Below.refl w.heap.size w)
 have H : (flongref03_Trim.l0 k l0 (l0.length : Int)) = some r := h
 clear h
 have H' := Aside0.mk H
 clear H
 go_enter Tryd.func41, Tryd.ntmps41
 go_wp2
 go_loopg [3] k (fun kq v3 w' => ∃ (x3_1 : Int), v3 = .int .i64 x3_1 ∧ Aside0 (flongref03_Trim.l0 kq l0 x3_1 = some r) ∧ Aside0 (kq ≤ k) ∧ Aside0 (Kd.V k44 44 w' w.heap.size (fun k_ => (P0_ k_ ∨ w.heap.size ≤ k_)) (.slice A0 l0.length c0) l0) ∧ Aside0 (Below w.heap.size w w'))
 case atStart => exact ⟨((l0.length : Int)), (by first | rfl | (simp; done) | (simp [*]; done)), H', ⟨Nat.le_refl _⟩, ⟨by (with_reducible repeat (first | apply Kd.V_alloc | apply Kd.V_drewN | apply Kd.V_drew)); exact HO0.out⟩, ⟨by repeat (first | (with_reducible first | exact HB.out | apply below_alloc | apply pw_below_drewN | apply below_drew1) | exact HB.out)⟩⟩
 case round =>
  clear H'
  obtain ⟨x3_1, rfl, HA, HK1, HO_0, HB⟩ := hrel
  cases gk with
  | zero => exact absurd HA.out (by simp [flongref03_Trim.l0])
  | succ k1 =>
   have H := HA.out
   clear HA
   simp only [flongref03_Trim.l0] at H
   by_cases c2 : x3_1 > 0
   ·rw [if_pos c2] at H
    have c2b0 : decide (0 < x3_1) = true := decide_eq_true c2
    clear c2
    obtain ⟨ji3, hji3⟩ : ∃ j_ : Int, (wrap64 (x3_1 - 1)) = j_ := ⟨_, rfl⟩
    replace H : (if 0 ≤ (ji3) then (if (ji3) < (l0.length : Int) then (if ((rd_T44 l0 (ji3)).f0) = 32 then (flongref03_Trim.l0 k1 l0 ji3) else (if 0 ≤ x3_1 then (if x3_1 ≤ (l0.length : Int) then (some (l0.take (x3_1 : Int).toNat)) else (none)) else (none))) else (none)) else (none)) = some r := by first | (rw [hji3] at H; exact H) | (simp only [hji3] at H ⊢; exact H)
    have hji3w : (IntKind.i64.wrap (x3_1 - 1)) = ji3 := (i64_w _).trans hji3
    by_cases c4 : 0 ≤ (ji3)
    ·rw [if_pos c4] at H
     have c4b0 : decide (0 ≤ (ji3)) = true := decide_eq_true c4
     clear c4
     by_cases c5 : (ji3) < (l0.length : Int)
     ·rw [if_pos c5] at H
      have c5b0 : decide ((ji3) < (l0.length : Int)) = true := decide_eq_true c5
      clear c5
      by_cases c6 : ((rd_T44 l0 (ji3)).f0) = 32
      ·rw [if_pos c6] at H
       have c6b0 : (((rd_T44 l0 (ji3)).f0) == 32) = true := beq_iff_eq.mpr c6
       have c6b1 : (((rd_T44 l0 (ji3)).f0) != 32) = false := bne_eq_false_iff_eq.mpr c6
       clear c6
       have H' := Aside0.mk H
       clear H
       have p192 : 0 ≤ ((ji3) : Int) := of_decide_eq_true (by first | (with_reducible assumption) | assumption)
       have q192 : (ji3) < (l0.length : Int) := of_decide_eq_true (by first | (with_reducible assumption) | assumption)
       obtain ⟨ad192, e192, hx192_0, hx192_1⟩ := at_T44 (Kd.V_reads' HO_0.out).2.2 (ji3) p192 q192
       cases e192
       replace p192 := eq_true p192
       replace q192 := eq_true q192
       go_wp2
       go_roundg k1
       case measure => have := HK1.out; omega
       case rel => exact ⟨(ji3), (by first | rfl | (simp; done) | (simp only [← hji3] <;> (first | rfl | simp)) | (simp [*]; done)), H', ⟨by have := HK1.out; omega⟩, ⟨by (with_reducible repeat (first | apply Kd.V_alloc | apply Kd.V_drewN | apply Kd.V_drew)); exact HO_0.out⟩, ⟨by repeat (first | (with_reducible first | exact HB.out | apply below_alloc | apply pw_below_drewN | apply below_drew1) | exact HB.out)⟩⟩
      ·rw [if_neg c6] at H
       have c6b0 : (((rd_T44 l0 (ji3)).f0) == 32) = false := beq_eq_false_iff_ne.mpr c6
       have c6b1 : (((rd_T44 l0 (ji3)).f0) != 32) = true := bne_iff_ne.mpr c6
       by_cases c7 : 0 ≤ x3_1
       ·rw [if_pos c7] at H
        have c7b0 := eq_true c7
        have c7b1 : decide (0 ≤ x3_1) = true := decide_eq_true c7
        clear c7
        by_cases c8 : x3_1 ≤ (l0.length : Int)
        ·rw [if_pos c8] at H
         have c8b0 := eq_true c8
         have c8b1 : decide (x3_1 ≤ (l0.length : Int)) = true := decide_eq_true c8
         clear c8
         obtain ⟨y193, hy193⟩ : ∃ y_ : List (S44), y_ = (l0.take (x3_1 : Int).toNat) := ⟨_, rfl⟩
         replace H : (some y193) = some r := by first | (rw [hy193]; with_reducible exact H) | (have H2_ := (Option.bind_some _ _).symm.trans H; rw [hy193]; with_reducible exact H2_) | (have H2_ := (Option.bind_some _ _).symm.trans H; with_reducible exact H2_) | with_reducible exact H | (rw [hy193]; exact H) | exact H
         have Ny193 := Aside0.mk hy193
         clear hy193
         obtain rfl := Option.some.inj H
         have p192 : 0 ≤ ((ji3) : Int) := of_decide_eq_true (by first | (with_reducible assumption) | assumption)
         have q192 : (ji3) < (l0.length : Int) := of_decide_eq_true (by first | (with_reducible assumption) | assumption)
         obtain ⟨ad192, e192, hx192_0, hx192_1⟩ := at_T44 (Kd.V_reads' HO_0.out).2.2 (ji3) p192 q192
         cases e192
         replace p192 := eq_true p192
         replace q192 := eq_true q192
         have q9 : (x3_1 : Int) ≤ ((l0.length : Int) : Int) := of_decide_eq_true (by first | (with_reducible assumption) | assumption)
         obtain ⟨i09, hi09, _, hsz9, _⟩ := info_parts info44
         have hroom9 : l0.length ≤ c0 := (Kd.V_reads' HO_0.out).2.1
         have hC9 : Kd.F k44 _ _ (some ad192) l0.length l0 := (Kd.V_at (base := w.heap.size) HO_0.out).2.2
         have hcut9 := cut_to (P := Tryd.prog) 33 44 .i64 Tryd.underlying33 hi09 (some ad192) l0.length c0 x3_1 (of_decide_eq_true (by first | (with_reducible assumption) | assumption)) q9 hroom9
         have hr9 := Kd.F_take (m := (x3_1 : Int).toNat) hC9 (by omega)
         have hy9 : y193.length = (x3_1 : Int).toNat := (by rw [Ny193.out, List.length_take]; omega)
         rw [← Ny193.out] at hr9
         rw [← hy9] at hcut9
         have HO197 := Aside0.mk (show Kd.V k44 44 _ w.heap.size _ (.slice (some ad192) y193.length c0) y193 from Kd.V_mk (by omega) hr9)
         have HC197 := Aside0.mk (show y193.length ≤ c0 from by omega)
         clear hr9 hC9 hroom9 hi09 hsz9
         have KY9 := Aside0.mk hy9
         clear hy9
         replace q9 := eq_true q9
         go_wp2
         go_ret
         exact ⟨_, by first | rfl | (simp [errW_none, errW_some] <;> rfl) | (simp only [← hji3]; first | rfl | (simp [errW_none, errW_some] <;> rfl)) | (simp [*, errW_none, errW_some] <;> rfl), by (with_reducible repeat (first | apply Kd.V_alloc | apply Kd.V_drewN | apply Kd.V_drew)); exact HO197.out, by repeat (first | (with_reducible first | exact HB.out | apply below_alloc | apply pw_below_drewN | apply below_drew1) | exact HB.out)⟩
        ·rw [if_neg c8] at H
         exact absurd H (by simp)
       ·rw [if_neg c7] at H
        exact absurd H (by simp)
     ·rw [if_neg c5] at H
      exact absurd H (by simp)
    ·rw [if_neg c4] at H
     exact absurd H (by simp)
   ·rw [if_neg c2] at H
    have c2b0 : decide (0 < x3_1) = false := decide_eq_false c2
    clear c2
    by_cases c10 : 0 ≤ x3_1
    ·rw [if_pos c10] at H
     have c10b0 := eq_true c10
     have c10b1 : decide (0 ≤ x3_1) = true := decide_eq_true c10
     clear c10
     by_cases c11 : x3_1 ≤ (l0.length : Int)
     ·rw [if_pos c11] at H
      have c11b0 := eq_true c11
      have c11b1 : decide (x3_1 ≤ (l0.length : Int)) = true := decide_eq_true c11
      clear c11
      obtain ⟨y198, hy198⟩ : ∃ y_ : List (S44), y_ = (l0.take (x3_1 : Int).toNat) := ⟨_, rfl⟩
      replace H : (some y198) = some r := by first | (rw [hy198]; with_reducible exact H) | (have H2_ := (Option.bind_some _ _).symm.trans H; rw [hy198]; with_reducible exact H2_) | (have H2_ := (Option.bind_some _ _).symm.trans H; with_reducible exact H2_) | with_reducible exact H | (rw [hy198]; exact H) | exact H
      have Ny198 := Aside0.mk hy198
      clear hy198
      obtain rfl := Option.some.inj H
      have q12 : (x3_1 : Int) ≤ ((l0.length : Int) : Int) := of_decide_eq_true (by first | (with_reducible assumption) | assumption)
      obtain ⟨i012, hi012, _, hsz12, _⟩ := info_parts info44
      have hroom12 : l0.length ≤ c0 := (Kd.V_reads' HO_0.out).2.1
      have hC12 : Kd.F k44 _ _ A0 l0.length l0 := (Kd.V_at (base := w.heap.size) HO_0.out).2.2
      have hcut12 := cut_to (P := Tryd.prog) 33 44 .i64 Tryd.underlying33 hi012 A0 l0.length c0 x3_1 (of_decide_eq_true (by first | (with_reducible assumption) | assumption)) q12 hroom12
      have hr12 := Kd.F_take (m := (x3_1 : Int).toNat) hC12 (by omega)
      have hy12 : y198.length = (x3_1 : Int).toNat := (by rw [Ny198.out, List.length_take]; omega)
      rw [← Ny198.out] at hr12
      rw [← hy12] at hcut12
      have HO202 := Aside0.mk (show Kd.V k44 44 _ w.heap.size _ (.slice A0 y198.length c0) y198 from Kd.V_mk (by omega) hr12)
      have HC202 := Aside0.mk (show y198.length ≤ c0 from by omega)
      clear hr12 hC12 hroom12 hi012 hsz12
      have KY12 := Aside0.mk hy12
      clear hy12
      replace q12 := eq_true q12
      go_wp2
      go_ret
      exact ⟨_, by first | rfl | (simp [errW_none, errW_some] <;> rfl) | (simp [*, errW_none, errW_some] <;> rfl), by (with_reducible repeat (first | apply Kd.V_alloc | apply Kd.V_drewN | apply Kd.V_drew)); exact HO202.out, by repeat (first | (with_reducible first | exact HB.out | apply below_alloc | apply pw_below_drewN | apply below_drew1) | exact HB.out)⟩
     ·rw [if_neg c11] at H
      exact absurd H (by simp)
    ·rw [if_neg c10] at H
     exact absurd H (by simp)

end Go.Proofs.YtdjepocklmlnbaaDoor.X
