-- Written by this session's xprint.py (a variant of the kit's printer). Not trusted: Lean checks it.
import Derived.Test.YtdcbaefcgghbmaaDoorX0
import Derived.Test.YtdcbaefcgghbmaaDoorX4
import Derived.Test.YtdcbaefcgghbmaaDoorX14
import Derived.Test.YtdcbaefcgghbmaaDoorHandA
namespace Go.Proofs.YtdcbaefcgghbmaaDoor.X
open Go.Proofs.YtdcbaefcgghbmaaDoor.Hand
open Go.RowKit Go.Proofs.YtdcbaefcgghbmaaDoorW.PrintWords Go.Proofs.YtdcbaefcgghbmaaDoorW.PrintLast Go.Proofs.YtdcbaefcgghbmaaDoorW.PrintMore
attribute [local go_sem] max2_int min2_int max_two min_two max_three min_three max_four min_four   -- for this text's walks alone
set_option linter.unusedVariables false
set_option linter.unusedSimpArgs false

/-! ### cells_Of: function 23 -/
def cells_Of.l0 : Nat → Int → List (S28) → List Int → Int → Int → Option ((List (S28)))
  | 0, _, _, _, _, _ => none
  | k + 1, x1, x5, x10, x11, x12 => if x12 < x11 then (if 0 ≤ x12 then (if x12 < (x10.length : Int) then (if x5.length < 17592186044416 then (cells_Of.l0 k x1 (x5 ++ [(⟨rd x10 x12, x1⟩ : S28)]) x10 x11 (wrap64 (x12 + 1))) else (none)) else (none)) else (none)) else (some x5)
def cells_Of.f (k : Nat) (a0 : ByteArray) (a1 : Int) : Option ((List (S28))) := (conv_bytes.f a0).bind fun t346 => ((runes_Decode.f k t346).bind fun t349 => (cells_Of.l0 k a1 ([] : List (S28)) t349 (t349.length : Int) 0))
theorem cells_Of.mono_l : ∀ k, (∀ y0 y1 y2 y3 y4, LeO (cells_Of.l0 k y0 y1 y2 y3 y4) (cells_Of.l0 (k + 1) y0 y1 y2 y3 y4))
  | 0 => fun _ _ _ _ _ r h => by simp [cells_Of.l0] at h
  | k + 1 => by
    have ih0 := cells_Of.mono_l k
    · intro y0 y1 y2 y3 y4
      unfold cells_Of.l0
      repeat' first
      | (with_reducible exact ih0 _ _ _ _ _)
      | (with_reducible exact runes_Decode.mono _ _)
      | (with_reducible exact LeO.refl _)
      | (with_reducible exact LeO.none _)
      | (with_reducible refine LeO.ite ?_ ?_)
      | (with_reducible refine LeO.bind ?_ (fun _ => ?_))
      | exact ih0 _ _ _ _ _
      | exact runes_Decode.mono _ _
      | exact LeO.none _
      | refine LeO.ite ?_ ?_
      | refine LeO.bind ?_ (fun _ => ?_)
theorem cells_Of.mono : ∀ a0 a1 k, LeO (cells_Of.f k a0 a1) (cells_Of.f (k + 1) a0 a1) := by
  intro a0 a1 k
  have ih0 := cells_Of.mono_l k
  unfold cells_Of.f
  repeat' first
      | (with_reducible exact ih0 _ _ _ _ _)
      | (with_reducible exact runes_Decode.mono _ _)
      | (with_reducible exact LeO.refl _)
      | (with_reducible exact LeO.none _)
      | (with_reducible refine LeO.ite ?_ ?_)
      | (with_reducible refine LeO.bind ?_ (fun _ => ?_))
      | exact ih0 _ _ _ _ _
      | exact runes_Decode.mono _ _
      | exact LeO.none _
      | refine LeO.ite ?_ ?_
      | refine LeO.bind ?_ (fun _ => ?_)
set_option maxHeartbeats 8000000 in
set_option maxRecDepth 100000 in
theorem cells_Of.calls (k : Nat) (a0 : ByteArray) (a1 : Int) (r : List (S28)) (w : World) (h : cells_Of.f k a0 a1 = some r) :
    Calls Tryd.prog 23 #[.string a0, .int .u8 a1] w fun e w' => ∃ v0_ : Value, e = .returned (v0_) ∧ Kd.R k28 28 w' w.heap.size (fun _ => True) v0_ r ∧ Below w.heap.size w w' := by
  have hu28 := Tryd.underlying28
  have HB := Aside0.mk (Below.refl w.heap.size w)
  have H : ((conv_bytes.f a0).bind fun t346 => ((runes_Decode.f k t346).bind fun t349 => (cells_Of.l0 k a1 ([] : List (S28)) t349 (t349.length : Int) 0))) = some r := h
  clear h
  replace H := Option.bind_eq_some_iff.mp H
  obtain ⟨t346, A30, H⟩ := H
  replace H : ((runes_Decode.f k t346).bind fun t349 => (cells_Of.l0 k a1 ([] : List (S28)) t349 (t349.length : Int) 0)) = some r := H
  have A3 := Aside0.mk A30
  clear A30
  replace H := Option.bind_eq_some_iff.mp H
  obtain ⟨t349, A40, H⟩ := H
  replace H : (cells_Of.l0 k a1 ([] : List (S28)) t349 (t349.length : Int) 0) = some r := H
  have A4 := Aside0.mk A40
  clear A40
  have H' := Aside0.mk H
  clear H
  go_enter Tryd.func23, Tryd.ntmps23
  go_wp2_with (first | ((with_reducible refine gate_convert (src := 9) (dst := 43) rfl ?_); refine convL_ _ rfl rfl a0 rfl rfl ?_; (with_reducible refine (conv_bytes.calls a0 t346 _ A3.out).mono ?_); rintro e w5 ⟨v347, rfl, ho0, hb⟩; refine ⟨_, rfl, ?_⟩; have n0_ := Aside0.mk (Kd.V_lower (Kd.V_mono (ok' := fun k_ => True) ho0 (fun k_ hk_ => trivial)) (below_size (by repeat (first | (with_reducible first | exact HB.out | apply below_alloc | apply pw_below_drewN | apply below_drew1) | exact HB.out)))); have n1_ := Aside0.mk (below_step (by repeat (first | (with_reducible first | exact HB.out | apply below_alloc | apply pw_below_drewN | apply below_drew1) | exact HB.out)) hb); clear HB; have HO348 := n0_; have HB := n1_; clear n0_ n1_; (try clear hb); (try clear hb2); (try clear hk); (try clear hi); (try clear ho0); obtain ⟨Ao6, co6, eo6⟩ := Kd.V_slice HO348.out; subst eo6) | ((with_reducible refine gate_callee (f := 44) rfl ?_); refine goesL_ (some 10) rfl rfl Tryd.func44 (by kernel_rfl) rfl #[.slice Ao6 t346.length co6] rfl (by (try simp only [List.map_toArray, List.map_cons, List.map_nil]); first | done | rfl | (simp only [List.length_drop, List.length_take]; rfl)) ?_; (with_reducible refine (runes_Decode.calls k (fun k_ => True) _ _ t346 t349 _ ?side1 A4.out).mono ?_); (case side1 => exact HO348.out); rintro e w7 ⟨v350, rfl, ho0, hb⟩; refine ⟨_, rfl, ?_⟩; have n0_ := Aside0.mk (Kd.V_elder' (by (with_reducible repeat (first | apply Kd.V_alloc | apply Kd.V_drewN | apply Kd.V_drew)); exact HO348.out) (Kd.R_base ho0) hb); have n1_ := Aside0.mk (Kd.R_lower (Kd.R_mono (ok' := fun k_ => True) ho0 (fun _ hk_ => trivial)) (below_size (by repeat (first | (with_reducible first | exact HB.out | apply below_alloc | apply pw_below_drewN | apply below_drew1) | exact HB.out)))); have n2_ := Aside0.mk (below_step (by repeat (first | (with_reducible first | exact HB.out | apply below_alloc | apply pw_below_drewN | apply below_drew1) | exact HB.out)) hb); clear HO348; clear HB; have HO348 := n0_; have HO351 := n1_; have HB := n2_; clear n0_ n1_ n2_; (try clear hb); (try clear hb2); (try clear hk); (try clear hi); (try clear ho0); obtain ⟨Ao8, co8, eo8⟩ := Kd.R_slice HO351.out; subst eo8))
  go_loopg [5, 12] k (fun kq v5 v12 w' => ∃ (x5_1 : List (S28)) (x12_1 : Int), v12 = .int .i64 x12_1 ∧ Aside0 (cells_Of.l0 kq a1 x5_1 t349 (t349.length : Int) x12_1 = some r) ∧ Aside0 (kq ≤ k) ∧ Aside0 (Kd.R k28 28 w' w.heap.size (fun _ => True) v5 x5_1) ∧ Aside0 (Kd.R (Kd.int .i32) 21 w' w.heap.size (fun _ => True) (.slice Ao8 t349.length co8) t349) ∧ Aside0 (Below w.heap.size w w'))
  case atStart => exact ⟨(([] : List (S28))), (0), (by first | rfl | (simp; done) | (simp [*]; done)), H', ⟨Nat.le_refl _⟩, ⟨by first | exact Kd.R_nil _ _ _ _ _ | exact Kd.N_nil _ _ _ _ _ | exact Kd.V_nil _ _ _ _ _ | exact Kd.Q_nil _ _ _ _ _ | exact Kd.S_nil _ _ _ _ _⟩, ⟨by (with_reducible repeat (first | apply Kd.R_alloc | apply Kd.R_drewN | apply Kd.R_drew)); exact HO351.out⟩, ⟨by repeat (first | (with_reducible first | exact HB.out | apply below_alloc | apply pw_below_drewN | apply below_drew1) | exact HB.out)⟩⟩
  case round =>
    clear H'
    try clear c2
    try clear p2
    try clear c4
    obtain ⟨x5_1, x12_1, rfl, HA, HK1, HO_5, HO_10, HB⟩ := hrel
    cases gk with
    | zero => exact absurd HA.out (by simp [cells_Of.l0])
    | succ k1 =>
      have H := HA.out
      clear HA
      simp only [cells_Of.l0] at H
      by_cases c9 : x12_1 < (t349.length : Int)
      · rw [if_pos c9] at H
        have c9b0 : decide (x12_1 < (t349.length : Int)) = true := decide_eq_true c9
        clear c9
        by_cases c10 : 0 ≤ x12_1
        · rw [if_pos c10] at H
          have c10b0 : decide (0 ≤ x12_1) = true := decide_eq_true c10
          clear c10
          by_cases c11 : x12_1 < (t349.length : Int)
          · rw [if_pos c11] at H
            have c11b0 : decide (x12_1 < (t349.length : Int)) = true := decide_eq_true c11
            clear c11
            by_cases c12 : x5_1.length < 17592186044416
            · rw [if_pos c12] at H
              have LMc12 := Aside0.mk c12
              clear c12
              obtain ⟨y353, hy353⟩ : ∃ y_ : List (S28), y_ = (x5_1 ++ [(⟨rd t349 x12_1, a1⟩ : S28)]) := ⟨_, rfl⟩
              replace H : (cells_Of.l0 k1 a1 y353 t349 (t349.length : Int) (wrap64 (x12_1 + 1))) = some r := by first | (rw [hy353]; with_reducible exact H) | (have H2_ := (Option.bind_some _ _).symm.trans H; rw [hy353]; with_reducible exact H2_) | (have H2_ := (Option.bind_some _ _).symm.trans H; with_reducible exact H2_) | with_reducible exact H | (rw [hy353]; exact H) | exact H
              have Ny353 := Aside0.mk hy353
              clear hy353
              have H' := Aside0.mk H
              clear H
              have p352 : 0 ≤ (x12_1 : Int) := of_decide_eq_true (by first | (with_reducible assumption) | assumption)
              have q352 : x12_1 < (t349.length : Int) := of_decide_eq_true (by first | (with_reducible assumption) | assumption)
              obtain ⟨ad352, e352, hx352_0⟩ := Kd.at_int (Kd.R_reads' HO_10.out).2.2 x12_1 p352 q352
              cases e352
              replace p352 := eq_true p352
              replace q352 := eq_true q352
              go_wp2_with (first | ((with_reducible refine gate_builtin (b := .append) (xs := #[.tmp 16, .tmp 20]) rfl ?_); at_builtin; refine Kd.R_append k28 (w0 := w) w.heap.size rfl (.tmp 16) (.tmp 20) 22 28 (.agg #[(.int .i32 0), (.int .u8 0)]) 8 rfl Tryd.underlying22 info28 rfl (by decide) (by omega) u5 x5_1 (⟨rd t349 x12_1, a1⟩ : S28) [.int .i32 (rd t349 x12_1), .int .u8 a1] (fun _ => True) (fun _ => False) rfl rfl ?aP (fun _ hk => hk.elim) ?aF ?aO ?aB ?aS ?aL ?_; (case aP => exact k28_mkM _ _ _ (⟨rd t349 x12_1, a1⟩ : S28)); (case aB => exact (by repeat (first | (with_reducible first | exact HB.out | apply below_alloc | apply pw_below_drewN | apply below_drew1) | exact HB.out))); (case aF => exact (fun _ _ => trivial)); (case aO => exact (by (with_reducible repeat (first | apply Kd.R_alloc | apply Kd.R_drewN | apply Kd.R_drew)); exact HO_5.out)); (case aS => exact (below_size (by repeat (first | (with_reducible first | exact HB.out | apply below_alloc | apply pw_below_drewN | apply below_drew1) | exact HB.out)))); (case aL => have := LMc12.out; omega); intro v354 w13 ho hb hg hat; rw [← Ny353.out] at ho; have n0_ := Aside0.mk (Kd.R_over' (by (with_reducible repeat (first | apply Kd.R_alloc | apply Kd.R_drewN | apply Kd.R_drew)); exact HO_10.out) (Kd.R_typed (by (with_reducible repeat (first | apply Kd.R_alloc | apply Kd.R_drewN | apply Kd.R_drew)); exact HO_5.out)) (by decide) hg); have n1_ := Aside0.mk (hb); have n2_ := Aside0.mk (ho); clear HO_10; clear HB; clear HO_5; have HO_10 := n0_; have HB := n1_; have HO355 := n2_; clear n0_ n1_ n2_; clear ho hb hg hat))
              go_roundg k1
              case measure => have := HK1.out; omega
              case rel => exact ⟨(y353), (wrap64 (x12_1 + 1)), (by first | rfl | (simp; done) | (simp [*]; done)), H', ⟨by have := HK1.out; omega⟩, ⟨by (with_reducible repeat (first | apply Kd.R_alloc | apply Kd.R_drewN | apply Kd.R_drew)); exact HO355.out⟩, ⟨by (with_reducible repeat (first | apply Kd.R_alloc | apply Kd.R_drewN | apply Kd.R_drew)); exact HO_10.out⟩, ⟨by repeat (first | (with_reducible first | exact HB.out | apply below_alloc | apply pw_below_drewN | apply below_drew1) | exact HB.out)⟩⟩
            · rw [if_neg c12] at H
              exact absurd H (by simp)
          · rw [if_neg c11] at H
            exact absurd H (by simp)
        · rw [if_neg c10] at H
          exact absurd H (by simp)
      · rw [if_neg c9] at H
        have c9b0 : decide (x12_1 < (t349.length : Int)) = false := decide_eq_false c9
        clear c9
        obtain rfl := Option.some.inj H
        go_wp2
        go_ret
        exact ⟨_, by first | rfl | (simp [errW_none, errW_some] <;> rfl) | (simp [*, errW_none, errW_some] <;> rfl), by (with_reducible repeat (first | apply Kd.R_alloc | apply Kd.R_drewN | apply Kd.R_drew)); exact HO_5.out, by repeat (first | (with_reducible first | exact HB.out | apply below_alloc | apply pw_below_drewN | apply below_drew1) | exact HB.out)⟩

/-! ### flongref02_One: function 45 -/
def flongref02_One.j0 : Nat → Int → Option (List Int)
  | 0, _ => none
  | k + 1, x3 => if x3 < 128 then (some (([(x3) % 256] : List Int))) else (if x3 < 2048 then (some (([(wrap64 (192 + (wrap64 (Int.tdiv x3 64)))) % 256, (wrap64 (128 + (Int.tmod x3 64))) % 256] : List Int))) else (if x3 < 65536 then (some (([(wrap64 (224 + (wrap64 (Int.tdiv x3 4096)))) % 256, (wrap64 (128 + (Int.tmod (wrap64 (Int.tdiv x3 64)) 64))) % 256, (wrap64 (128 + (Int.tmod x3 64))) % 256] : List Int))) else (some (([(wrap64 (240 + (wrap64 (Int.tdiv x3 262144)))) % 256, (wrap64 (128 + (Int.tmod (wrap64 (Int.tdiv x3 4096)) 64))) % 256, (wrap64 (128 + (Int.tmod (wrap64 (Int.tdiv x3 64)) 64))) % 256, (wrap64 (128 + (Int.tmod x3 64))) % 256] : List Int)))))
def flongref02_One.f (k : Nat) (a0 : Int) : Option (List Int) := (flongref02_Valid.f a0).bind fun t356 => (if t356 = true then (flongref02_One.j0 k (wrap64 (a0))) else (flongref02_One.j0 k 65533))
theorem flongref02_One.mono_l : ∀ k, (∀ y0, LeO (flongref02_One.j0 k y0) (flongref02_One.j0 (k + 1) y0))
  | 0 => fun _ r h => by simp [flongref02_One.j0] at h
  | k + 1 => by
    have ih0 := flongref02_One.mono_l k
    · intro y0
      unfold flongref02_One.j0
      repeat' first
      | (with_reducible exact ih0 _)
      | (with_reducible exact LeO.refl _)
      | (with_reducible exact LeO.none _)
      | (with_reducible refine LeO.ite ?_ ?_)
      | (with_reducible refine LeO.bind ?_ (fun _ => ?_))
      | exact ih0 _
      | exact LeO.none _
      | refine LeO.ite ?_ ?_
      | refine LeO.bind ?_ (fun _ => ?_)
theorem flongref02_One.mono : ∀ a0 k, LeO (flongref02_One.f k a0) (flongref02_One.f (k + 1) a0) := by
  intro a0 k
  have ih0 := flongref02_One.mono_l k
  unfold flongref02_One.f
  repeat' first
      | (with_reducible exact ih0 _)
      | (with_reducible exact LeO.refl _)
      | (with_reducible exact LeO.none _)
      | (with_reducible refine LeO.ite ?_ ?_)
      | (with_reducible refine LeO.bind ?_ (fun _ => ?_))
      | exact ih0 _
      | exact LeO.none _
      | refine LeO.ite ?_ ?_
      | refine LeO.bind ?_ (fun _ => ?_)
set_option maxHeartbeats 8000000 in
set_option maxRecDepth 100000 in
theorem flongref02_One.calls (k : Nat) (a0 : Int) (r : List Int) (w : World) (h : flongref02_One.f k a0 = some r) :
    Calls Tryd.prog 45 #[.int .i32 a0] w fun e w' => ∃ v0_ : Value, e = .returned (v0_) ∧ Kd.R (Kd.int .u8) 5 w' w.heap.size (fun _ => True) v0_ r ∧ Below w.heap.size w w' := by
  have HB := Aside0.mk (Below.refl w.heap.size w)
  have H : ((flongref02_Valid.f a0).bind fun t356 => (if t356 = true then (flongref02_One.j0 k (wrap64 (a0))) else (flongref02_One.j0 k 65533))) = some r := h
  clear h
  replace H := Option.bind_eq_some_iff.mp H
  obtain ⟨t356, A20, H⟩ := H
  replace H : (if t356 = true then (flongref02_One.j0 k (wrap64 (a0))) else (flongref02_One.j0 k 65533)) = some r := H
  have A2 := Aside0.mk A20
  clear A20
  have HC3 := Aside0.mk H
  clear H
  go_enter Tryd.func45, Tryd.ntmps45
  go_upto_if 8 with (first | ((with_reducible refine gate_callee (f := 36) rfl ?_); refine goesL_ (some 7) rfl rfl Tryd.func36 (by kernel_rfl) rfl #[.int .i32 a0] rfl (by (try simp only [List.map_toArray, List.map_cons, List.map_nil]); first | done | rfl | (simp only [List.length_drop, List.length_take]; rfl)) ?_; (with_reducible refine (flongref02_Valid.calls a0 t356 _ A2.out).mono ?_); rintro e w' ⟨rfl, ⟨nd, rfl⟩⟩; refine ⟨_, rfl, ?_⟩))
  (try simp only [Act.put, List.setIfInBounds_toArray, List.set_cons_zero, List.set_cons_succ])
  go_cut [3] (fun v3 wc => ∃ (kq : Nat) (x3_2 : Int), v3 = .int .i64 x3_2 ∧ Aside0 (flongref02_One.j0 kq x3_2 = some r) ∧ Aside0 (kq ≤ k) ∧ Aside0 (Below w.heap.size w wc))
  case first =>
    have H := HC3.out
    clear HC3
    by_cases c4 : t356 = true
    · subst c4
      have H1 : (flongref02_One.j0 k (wrap64 (a0))) = some r := by rw [if_pos rfl] at H; exact H
      clear H
      have H := H1
      clear H1
      have H' := Aside0.mk H
      clear H
      go_wp2
      go_meet
      case rel => exact ⟨_, (wrap64 (a0)), (by first | rfl | (simp; done) | (simp [*]; done)), H', ⟨by first | omega | exact Nat.le_refl _⟩, ⟨by repeat (first | (with_reducible first | exact HB.out | apply below_alloc | apply pw_below_drewN | apply below_drew1) | exact HB.out)⟩⟩
    · replace c4 := Bool.eq_false_iff.mpr c4
      subst c4
      have H1 : (flongref02_One.j0 k 65533) = some r := by rw [if_neg (show ¬ (false = true) by decide)] at H; exact H
      clear H
      have H := H1
      clear H1
      have H' := Aside0.mk H
      clear H
      go_wp2
      go_meet
      case rel => exact ⟨_, (65533), (by first | rfl | (simp; done) | (simp [*]; done)), H', ⟨by first | omega | exact Nat.le_refl _⟩, ⟨by repeat (first | (with_reducible first | exact HB.out | apply below_alloc | apply pw_below_drewN | apply below_drew1) | exact HB.out)⟩⟩
  case rest =>
    clear HC3
    try clear p2
    try clear c3
    try clear c4
    obtain ⟨kq, x3_2, rfl, HA, HJ2, HB⟩ := hcut
    cases kq with
    | zero => exact absurd HA.out (by simp [flongref02_One.j0])
    | succ kj2 =>
      have H := HA.out
      clear HA
      simp only [flongref02_One.j0] at H
      by_cases c5 : x3_2 < 128
      · rw [if_pos c5] at H
        have c5b0 : decide (x3_2 < 128) = true := decide_eq_true c5
        clear c5
        obtain ⟨y357, hy357⟩ : ∃ y_ : List Int, y_ = (([(x3_2) % 256] : List Int)) := ⟨_, rfl⟩
        replace H : (some y357) = some r := by first | (rw [hy357]; with_reducible exact H) | (have H2_ := (Option.bind_some _ _).symm.trans H; rw [hy357]; with_reducible exact H2_) | (have H2_ := (Option.bind_some _ _).symm.trans H; with_reducible exact H2_) | with_reducible exact H | (rw [hy357]; exact H) | exact H
        have Ny357 := Aside0.mk hy357
        clear hy357
        obtain rfl := Option.some.inj H
        go_wp2_with (first | ((with_reducible refine gate_dst (N := 13) rfl ?_); refine Kd.R_lit (Kd.int .u8) _ 5 ?hg (N := 13) ?hd (xs := ([(x3_2) % 256] : List Int)) (inner := [.int .u8 ((x3_2) % 256)]) (ok := fun _ => True) (okp := fun _ => True) ?hr ?hp (fun _ hk => hk) trivial (Below.refl _ _) (Nat.le_refl _) (by simp) ?_; (case hd => rfl); (case hg => rfl); (case hr => first | (go_simp; done) | (go_simp; rfl)); (case hp => exact (Reps.one (show Kd.M (Kd.int .u8) _ _ _ ((x3_2) % 256) [.int .u8 ((x3_2) % 256)] from rfl) (Reps.none _ _))); intro v358 w6 ho7 hb hg_ hnew_; clear hg_ hnew_; (first | rw [← Ny357.out] at ho7 | (simp only [Int.reduceToNat] at ho7; rw [← Ny357.out] at ho7)); have n0_ := Aside0.mk (Kd.R_lower ho7 (below_size (by repeat (first | (with_reducible first | exact HB.out | apply below_alloc | apply pw_below_drewN | apply below_drew1) | exact HB.out)))); have n1_ := Aside0.mk (below_step (by repeat (first | (with_reducible first | exact HB.out | apply below_alloc | apply pw_below_drewN | apply below_drew1) | exact HB.out)) hb); clear HB; have HO359 := n0_; have HB := n1_; clear n0_ n1_; clear hb ho7))
        go_ret
        exact ⟨_, by first | rfl | (simp [errW_none, errW_some] <;> rfl) | (simp [*, errW_none, errW_some] <;> rfl), by (with_reducible repeat (first | apply Kd.R_alloc | apply Kd.R_drewN | apply Kd.R_drew)); exact HO359.out, by repeat (first | (with_reducible first | exact HB.out | apply below_alloc | apply pw_below_drewN | apply below_drew1) | exact HB.out)⟩
      · rw [if_neg c5] at H
        have c5b0 : decide (x3_2 < 128) = false := decide_eq_false c5
        clear c5
        by_cases c8 : x3_2 < 2048
        · rw [if_pos c8] at H
          have c8b0 : decide (x3_2 < 2048) = true := decide_eq_true c8
          clear c8
          obtain ⟨y360, hy360⟩ : ∃ y_ : List Int, y_ = (([(wrap64 (192 + (wrap64 (Int.tdiv x3_2 64)))) % 256, (wrap64 (128 + (Int.tmod x3_2 64))) % 256] : List Int)) := ⟨_, rfl⟩
          replace H : (some y360) = some r := by first | (rw [hy360]; with_reducible exact H) | (have H2_ := (Option.bind_some _ _).symm.trans H; rw [hy360]; with_reducible exact H2_) | (have H2_ := (Option.bind_some _ _).symm.trans H; with_reducible exact H2_) | with_reducible exact H | (rw [hy360]; exact H) | exact H
          have Ny360 := Aside0.mk hy360
          clear hy360
          obtain rfl := Option.some.inj H
          go_wp2_with (first | ((with_reducible refine gate_dst (N := 24) rfl ?_); refine Kd.R_lit (Kd.int .u8) _ 5 ?hg (N := 24) ?hd (xs := ([(wrap64 (192 + (wrap64 (Int.tdiv x3_2 64)))) % 256, (wrap64 (128 + (Int.tmod x3_2 64))) % 256] : List Int)) (inner := [.int .u8 ((wrap64 (192 + (wrap64 (Int.tdiv x3_2 64)))) % 256), .int .u8 ((wrap64 (128 + (Int.tmod x3_2 64))) % 256)]) (ok := fun _ => True) (okp := fun _ => True) ?hr ?hp (fun _ hk => hk) trivial (Below.refl _ _) (Nat.le_refl _) (by simp) ?_; (case hd => rfl); (case hg => rfl); (case hr => first | (go_simp; done) | (go_simp; rfl)); (case hp => exact (Reps.one (show Kd.M (Kd.int .u8) _ _ _ ((wrap64 (192 + (wrap64 (Int.tdiv x3_2 64)))) % 256) [.int .u8 ((wrap64 (192 + (wrap64 (Int.tdiv x3_2 64)))) % 256)] from rfl) (Reps.one (show Kd.M (Kd.int .u8) _ _ _ ((wrap64 (128 + (Int.tmod x3_2 64))) % 256) [.int .u8 ((wrap64 (128 + (Int.tmod x3_2 64))) % 256)] from rfl) (Reps.none _ _)))); intro v361 w9 ho10 hb hg_ hnew_; clear hg_ hnew_; (first | rw [← Ny360.out] at ho10 | (simp only [Int.reduceToNat] at ho10; rw [← Ny360.out] at ho10)); have n0_ := Aside0.mk (Kd.R_lower ho10 (below_size (by repeat (first | (with_reducible first | exact HB.out | apply below_alloc | apply pw_below_drewN | apply below_drew1) | exact HB.out)))); have n1_ := Aside0.mk (below_step (by repeat (first | (with_reducible first | exact HB.out | apply below_alloc | apply pw_below_drewN | apply below_drew1) | exact HB.out)) hb); clear HB; have HO362 := n0_; have HB := n1_; clear n0_ n1_; clear hb ho10))
          go_ret
          exact ⟨_, by first | rfl | (simp [errW_none, errW_some] <;> rfl) | (simp [*, errW_none, errW_some] <;> rfl), by (with_reducible repeat (first | apply Kd.R_alloc | apply Kd.R_drewN | apply Kd.R_drew)); exact HO362.out, by repeat (first | (with_reducible first | exact HB.out | apply below_alloc | apply pw_below_drewN | apply below_drew1) | exact HB.out)⟩
        · rw [if_neg c8] at H
          have c8b0 : decide (x3_2 < 2048) = false := decide_eq_false c8
          clear c8
          by_cases c11 : x3_2 < 65536
          · rw [if_pos c11] at H
            have c11b0 : decide (x3_2 < 65536) = true := decide_eq_true c11
            clear c11
            obtain ⟨y363, hy363⟩ : ∃ y_ : List Int, y_ = (([(wrap64 (224 + (wrap64 (Int.tdiv x3_2 4096)))) % 256, (wrap64 (128 + (Int.tmod (wrap64 (Int.tdiv x3_2 64)) 64))) % 256, (wrap64 (128 + (Int.tmod x3_2 64))) % 256] : List Int)) := ⟨_, rfl⟩
            replace H : (some y363) = some r := by first | (rw [hy363]; with_reducible exact H) | (have H2_ := (Option.bind_some _ _).symm.trans H; rw [hy363]; with_reducible exact H2_) | (have H2_ := (Option.bind_some _ _).symm.trans H; with_reducible exact H2_) | with_reducible exact H | (rw [hy363]; exact H) | exact H
            have Ny363 := Aside0.mk hy363
            clear hy363
            obtain rfl := Option.some.inj H
            go_wp2_with (first | ((with_reducible refine gate_dst (N := 40) rfl ?_); refine Kd.R_lit (Kd.int .u8) _ 5 ?hg (N := 40) ?hd (xs := ([(wrap64 (224 + (wrap64 (Int.tdiv x3_2 4096)))) % 256, (wrap64 (128 + (Int.tmod (wrap64 (Int.tdiv x3_2 64)) 64))) % 256, (wrap64 (128 + (Int.tmod x3_2 64))) % 256] : List Int)) (inner := [.int .u8 ((wrap64 (224 + (wrap64 (Int.tdiv x3_2 4096)))) % 256), .int .u8 ((wrap64 (128 + (Int.tmod (wrap64 (Int.tdiv x3_2 64)) 64))) % 256), .int .u8 ((wrap64 (128 + (Int.tmod x3_2 64))) % 256)]) (ok := fun _ => True) (okp := fun _ => True) ?hr ?hp (fun _ hk => hk) trivial (Below.refl _ _) (Nat.le_refl _) (by simp) ?_; (case hd => rfl); (case hg => rfl); (case hr => first | (go_simp; done) | (go_simp; rfl)); (case hp => exact (Reps.one (show Kd.M (Kd.int .u8) _ _ _ ((wrap64 (224 + (wrap64 (Int.tdiv x3_2 4096)))) % 256) [.int .u8 ((wrap64 (224 + (wrap64 (Int.tdiv x3_2 4096)))) % 256)] from rfl) (Reps.one (show Kd.M (Kd.int .u8) _ _ _ ((wrap64 (128 + (Int.tmod (wrap64 (Int.tdiv x3_2 64)) 64))) % 256) [.int .u8 ((wrap64 (128 + (Int.tmod (wrap64 (Int.tdiv x3_2 64)) 64))) % 256)] from rfl) (Reps.one (show Kd.M (Kd.int .u8) _ _ _ ((wrap64 (128 + (Int.tmod x3_2 64))) % 256) [.int .u8 ((wrap64 (128 + (Int.tmod x3_2 64))) % 256)] from rfl) (Reps.none _ _))))); intro v364 w12 ho13 hb hg_ hnew_; clear hg_ hnew_; (first | rw [← Ny363.out] at ho13 | (simp only [Int.reduceToNat] at ho13; rw [← Ny363.out] at ho13)); have n0_ := Aside0.mk (Kd.R_lower ho13 (below_size (by repeat (first | (with_reducible first | exact HB.out | apply below_alloc | apply pw_below_drewN | apply below_drew1) | exact HB.out)))); have n1_ := Aside0.mk (below_step (by repeat (first | (with_reducible first | exact HB.out | apply below_alloc | apply pw_below_drewN | apply below_drew1) | exact HB.out)) hb); clear HB; have HO365 := n0_; have HB := n1_; clear n0_ n1_; clear hb ho13))
            go_ret
            exact ⟨_, by first | rfl | (simp [errW_none, errW_some] <;> rfl) | (simp [*, errW_none, errW_some] <;> rfl), by (with_reducible repeat (first | apply Kd.R_alloc | apply Kd.R_drewN | apply Kd.R_drew)); exact HO365.out, by repeat (first | (with_reducible first | exact HB.out | apply below_alloc | apply pw_below_drewN | apply below_drew1) | exact HB.out)⟩
          · rw [if_neg c11] at H
            have c11b0 : decide (x3_2 < 65536) = false := decide_eq_false c11
            clear c11
            obtain ⟨y366, hy366⟩ : ∃ y_ : List Int, y_ = (([(wrap64 (240 + (wrap64 (Int.tdiv x3_2 262144)))) % 256, (wrap64 (128 + (Int.tmod (wrap64 (Int.tdiv x3_2 4096)) 64))) % 256, (wrap64 (128 + (Int.tmod (wrap64 (Int.tdiv x3_2 64)) 64))) % 256, (wrap64 (128 + (Int.tmod x3_2 64))) % 256] : List Int)) := ⟨_, rfl⟩
            replace H : (some y366) = some r := by first | (rw [hy366]; with_reducible exact H) | (have H2_ := (Option.bind_some _ _).symm.trans H; rw [hy366]; with_reducible exact H2_) | (have H2_ := (Option.bind_some _ _).symm.trans H; with_reducible exact H2_) | with_reducible exact H | (rw [hy366]; exact H) | exact H
            have Ny366 := Aside0.mk hy366
            clear hy366
            obtain rfl := Option.some.inj H
            go_wp2_with (first | ((with_reducible refine gate_dst (N := 59) rfl ?_); refine Kd.R_lit (Kd.int .u8) _ 5 ?hg (N := 59) ?hd (xs := ([(wrap64 (240 + (wrap64 (Int.tdiv x3_2 262144)))) % 256, (wrap64 (128 + (Int.tmod (wrap64 (Int.tdiv x3_2 4096)) 64))) % 256, (wrap64 (128 + (Int.tmod (wrap64 (Int.tdiv x3_2 64)) 64))) % 256, (wrap64 (128 + (Int.tmod x3_2 64))) % 256] : List Int)) (inner := [.int .u8 ((wrap64 (240 + (wrap64 (Int.tdiv x3_2 262144)))) % 256), .int .u8 ((wrap64 (128 + (Int.tmod (wrap64 (Int.tdiv x3_2 4096)) 64))) % 256), .int .u8 ((wrap64 (128 + (Int.tmod (wrap64 (Int.tdiv x3_2 64)) 64))) % 256), .int .u8 ((wrap64 (128 + (Int.tmod x3_2 64))) % 256)]) (ok := fun _ => True) (okp := fun _ => True) ?hr ?hp (fun _ hk => hk) trivial (Below.refl _ _) (Nat.le_refl _) (by simp) ?_; (case hd => rfl); (case hg => rfl); (case hr => first | (go_simp; done) | (go_simp; rfl)); (case hp => exact (Reps.one (show Kd.M (Kd.int .u8) _ _ _ ((wrap64 (240 + (wrap64 (Int.tdiv x3_2 262144)))) % 256) [.int .u8 ((wrap64 (240 + (wrap64 (Int.tdiv x3_2 262144)))) % 256)] from rfl) (Reps.one (show Kd.M (Kd.int .u8) _ _ _ ((wrap64 (128 + (Int.tmod (wrap64 (Int.tdiv x3_2 4096)) 64))) % 256) [.int .u8 ((wrap64 (128 + (Int.tmod (wrap64 (Int.tdiv x3_2 4096)) 64))) % 256)] from rfl) (Reps.one (show Kd.M (Kd.int .u8) _ _ _ ((wrap64 (128 + (Int.tmod (wrap64 (Int.tdiv x3_2 64)) 64))) % 256) [.int .u8 ((wrap64 (128 + (Int.tmod (wrap64 (Int.tdiv x3_2 64)) 64))) % 256)] from rfl) (Reps.one (show Kd.M (Kd.int .u8) _ _ _ ((wrap64 (128 + (Int.tmod x3_2 64))) % 256) [.int .u8 ((wrap64 (128 + (Int.tmod x3_2 64))) % 256)] from rfl) (Reps.none _ _)))))); intro v367 w14 ho15 hb hg_ hnew_; clear hg_ hnew_; (first | rw [← Ny366.out] at ho15 | (simp only [Int.reduceToNat] at ho15; rw [← Ny366.out] at ho15)); have n0_ := Aside0.mk (Kd.R_lower ho15 (below_size (by repeat (first | (with_reducible first | exact HB.out | apply below_alloc | apply pw_below_drewN | apply below_drew1) | exact HB.out)))); have n1_ := Aside0.mk (below_step (by repeat (first | (with_reducible first | exact HB.out | apply below_alloc | apply pw_below_drewN | apply below_drew1) | exact HB.out)) hb); clear HB; have HO368 := n0_; have HB := n1_; clear n0_ n1_; clear hb ho15))
            go_ret
            exact ⟨_, by first | rfl | (simp [errW_none, errW_some] <;> rfl) | (simp [*, errW_none, errW_some] <;> rfl), by (with_reducible repeat (first | apply Kd.R_alloc | apply Kd.R_drewN | apply Kd.R_drew)); exact HO368.out, by repeat (first | (with_reducible first | exact HB.out | apply below_alloc | apply pw_below_drewN | apply below_drew1) | exact HB.out)⟩

/-! ### flongref02_Encode: function 24 -/
def flongref02_Encode.l0 : Nat → List Int → List Int → Int → Option (List Int)
  | 0, _, _, _ => none
  | k + 1, x0, x3, x4 => if x4 < (x0.length : Int) then (if 0 ≤ x4 then ((flongref02_One.f k (rd x0 x4)).bind fun t370 => (if x3.length + t370.length < 140737488355328 then (flongref02_Encode.l0 k x0 (x3 ++ t370) (wrap64 (x4 + 1))) else (none))) else (none)) else (some x3)
def flongref02_Encode.f (k : Nat) (l0 : List Int) : Option (List Int) := flongref02_Encode.l0 k l0 ([] : List Int) 0
theorem flongref02_Encode.mono_l : ∀ k, (∀ y0 y1 y2, LeO (flongref02_Encode.l0 k y0 y1 y2) (flongref02_Encode.l0 (k + 1) y0 y1 y2))
  | 0 => fun _ _ _ r h => by simp [flongref02_Encode.l0] at h
  | k + 1 => by
    have ih0 := flongref02_Encode.mono_l k
    · intro y0 y1 y2
      unfold flongref02_Encode.l0
      repeat' first
      | (with_reducible exact ih0 _ _ _)
      | (with_reducible exact flongref02_One.mono _ _)
      | (with_reducible exact LeO.refl _)
      | (with_reducible exact LeO.none _)
      | (with_reducible refine LeO.ite ?_ ?_)
      | (with_reducible refine LeO.bind ?_ (fun _ => ?_))
      | exact ih0 _ _ _
      | exact flongref02_One.mono _ _
      | exact LeO.none _
      | refine LeO.ite ?_ ?_
      | refine LeO.bind ?_ (fun _ => ?_)
theorem flongref02_Encode.mono : ∀ a0 k, LeO (flongref02_Encode.f k a0) (flongref02_Encode.f (k + 1) a0) := by
  intro a0 k
  have ih0 := flongref02_Encode.mono_l k
  unfold flongref02_Encode.f
  repeat' first
      | (with_reducible exact ih0 _ _ _)
      | (with_reducible exact flongref02_One.mono _ _)
      | (with_reducible exact LeO.refl _)
      | (with_reducible exact LeO.none _)
      | (with_reducible refine LeO.ite ?_ ?_)
      | (with_reducible refine LeO.bind ?_ (fun _ => ?_))
      | exact ih0 _ _ _
      | exact flongref02_One.mono _ _
      | exact LeO.none _
      | refine LeO.ite ?_ ?_
      | refine LeO.bind ?_ (fun _ => ?_)
set_option maxHeartbeats 8000000 in
set_option maxRecDepth 100000 in
theorem flongref02_Encode.calls (k : Nat) (A0 : Option Addr) (c0 : Nat) (l0 : List Int) (r : List Int) (w : World) (hr0 : Kd.C (Kd.int .i32) w A0 l0.length l0) (hc0 : l0.length ≤ c0) (h : flongref02_Encode.f k l0 = some r) :
    Calls Tryd.prog 24 #[.slice A0 l0.length c0] w fun e w' => ∃ v0_ : Value, e = .returned (v0_) ∧ Kd.R (Kd.int .u8) 5 w' w.heap.size (fun _ => True) v0_ r ∧ Below w.heap.size w w' := by
  have HR0 := Aside0.mk hr0
  have HC0 := Aside0.mk hc0
  clear hr0 hc0
  have HB := Aside0.mk (Below.refl w.heap.size w)
  have H : (flongref02_Encode.l0 k l0 ([] : List Int) 0) = some r := h
  clear h
  have H' := Aside0.mk H
  clear H
  go_enter Tryd.func24, Tryd.ntmps24
  go_wp2
  go_loopg [3, 4] k (fun kq v3 v4 w' => ∃ (x3_1 : List Int) (x4_1 : Int), v4 = .int .i64 x4_1 ∧ Aside0 (flongref02_Encode.l0 kq l0 x3_1 x4_1 = some r) ∧ Aside0 (kq ≤ k) ∧ Aside0 (Kd.R (Kd.int .u8) 5 w' w.heap.size (fun _ => True) v3 x3_1) ∧ Aside0 (Below w.heap.size w w'))
  case atStart => exact ⟨(([] : List Int)), (0), (by first | rfl | (simp; done) | (simp [*]; done)), H', ⟨Nat.le_refl _⟩, ⟨by first | exact Kd.R_nil _ _ _ _ _ | exact Kd.N_nil _ _ _ _ _ | exact Kd.V_nil _ _ _ _ _ | exact Kd.Q_nil _ _ _ _ _ | exact Kd.S_nil _ _ _ _ _⟩, ⟨by repeat (first | (with_reducible first | exact HB.out | apply below_alloc | apply pw_below_drewN | apply below_drew1) | exact HB.out)⟩⟩
  case round =>
    clear H'
    obtain ⟨x3_1, x4_1, rfl, HA, HK1, HO_3, HB⟩ := hrel
    cases gk with
    | zero => exact absurd HA.out (by simp [flongref02_Encode.l0])
    | succ k1 =>
      have H := HA.out
      clear HA
      simp only [flongref02_Encode.l0] at H
      by_cases c2 : x4_1 < (l0.length : Int)
      · rw [if_pos c2] at H
        have c2b0 : decide (x4_1 < (l0.length : Int)) = true := decide_eq_true c2
        clear c2
        by_cases c3 : 0 ≤ x4_1
        · rw [if_pos c3] at H
          have c3b0 : decide (0 ≤ x4_1) = true := decide_eq_true c3
          clear c3
          replace H := Option.bind_eq_some_iff.mp H
          obtain ⟨t370, A40, H⟩ := H
          replace H : (if x3_1.length + t370.length < 140737488355328 then (flongref02_Encode.l0 k1 l0 (x3_1 ++ t370) (wrap64 (x4_1 + 1))) else (none)) = some r := H
          have A4 := Aside0.mk A40
          clear A40
          by_cases c5 : x3_1.length + t370.length < 140737488355328
          · rw [if_pos c5] at H
            have LMc5 := Aside0.mk c5
            clear c5
            obtain ⟨y373, hy373⟩ : ∃ y_ : List Int, y_ = (x3_1 ++ t370) := ⟨_, rfl⟩
            replace H : (flongref02_Encode.l0 k1 l0 y373 (wrap64 (x4_1 + 1))) = some r := by first | (rw [hy373]; with_reducible exact H) | (have H2_ := (Option.bind_some _ _).symm.trans H; rw [hy373]; with_reducible exact H2_) | (have H2_ := (Option.bind_some _ _).symm.trans H; with_reducible exact H2_) | with_reducible exact H | (rw [hy373]; exact H) | exact H
            have Ny373 := Aside0.mk hy373
            clear hy373
            have H' := Aside0.mk H
            clear H
            have p369 : 0 ≤ (x4_1 : Int) := of_decide_eq_true (by first | (with_reducible assumption) | assumption)
            have q369 : x4_1 < (l0.length : Int) := of_decide_eq_true (by first | (with_reducible assumption) | assumption)
            obtain ⟨ad369, e369, hx369_0⟩ := Kd.at_int HR0.out x4_1 p369 q369
            cases e369
            replace hx369_0 := (HB.out.cell (World.block_lt_of_cell? w _ hx369_0)).trans hx369_0
            replace p369 := eq_true p369
            replace q369 := eq_true q369
            go_wp2_with (first | ((with_reducible refine gate_callee (f := 45) rfl ?_); refine goesL_ (some 16) rfl rfl Tryd.func45 (by kernel_rfl) rfl #[.int .i32 (rd l0 x4_1)] rfl (by (try simp only [List.map_toArray, List.map_cons, List.map_nil]); first | done | rfl | (simp only [List.length_drop, List.length_take]; rfl)) ?_; (with_reducible refine (flongref02_One.calls k1 (rd l0 x4_1) t370 _ A4.out).mono ?_); rintro e w6 ⟨v371, rfl, ho0, hb⟩; refine ⟨_, rfl, ?_⟩; have n0_ := Aside0.mk (Kd.R_elder' (by (with_reducible repeat (first | apply Kd.R_alloc | apply Kd.R_drewN | apply Kd.R_drew)); exact HO_3.out) (Kd.R_base ho0) hb); have n1_ := Aside0.mk (Kd.R_lower (Kd.R_new' ho0 (Kd.R_lt (by (with_reducible repeat (first | apply Kd.R_alloc | apply Kd.R_drewN | apply Kd.R_drew)); exact HO_3.out))) (below_size (by repeat (first | (with_reducible first | exact HB.out | apply below_alloc | apply pw_below_drewN | apply below_drew1) | exact HB.out)))); have n2_ := Aside0.mk (below_step (by repeat (first | (with_reducible first | exact HB.out | apply below_alloc | apply pw_below_drewN | apply below_drew1) | exact HB.out)) hb); clear HO_3; clear HB; have HO_3 := n0_; have HO372 := n1_; have HB := n2_; clear n0_ n1_ n2_; (try clear hb); (try clear hb2); (try clear hk); (try clear hi); (try clear ho0); obtain ⟨Ao8, co8, eo8⟩ := Kd.R_slice HO372.out; subst eo8) | ((with_reducible refine gate_builtin (b := .append) (xs := #[.tmp 11, .tmp 16]) rfl ?_); at_builtin; refine Kd.R_append_rows (Kd.int .u8) (w0 := w) w.heap.size rfl (.tmp 11) (.tmp 16) 43 5 (.int .u8 0) 1 rfl Tryd.underlying43 info5 rfl (by decide) (by omega) u3 x3_1 t370 _ _ _ (fun k_ => some k_ ≠ (.slice Ao8 t370.length co8 : Value).ownBlock) (fun _ => False) rfl rfl ?aO ?aR (fun _ _ h => h) (fun _ h => h.elim) ?aF ?aB ?aS ?aL ?_; (case aR => repeat (first | exact (Kd.R_reads' HO372.out).2.2 | (with_reducible refine Kd.C_alloc ?_ _) | (with_reducible refine Kd.C_drewN ?_ _) | (with_reducible refine Kd.C_drew ?_))); (case aB => exact (by repeat (first | (with_reducible first | exact HB.out | apply below_alloc | apply pw_below_drewN | apply below_drew1) | exact HB.out))); (case aF => exact (fun k_ hk => Kd.fresh' (Kd.R_lt (by (with_reducible repeat (first | apply Kd.R_alloc | apply Kd.R_drewN | apply Kd.R_drew)); exact HO372.out)) k_ hk)); (case aO => exact (by (with_reducible repeat (first | apply Kd.R_alloc | apply Kd.R_drewN | apply Kd.R_drew)); exact Kd.R_mono HO_3.out (fun _ hk => hk.2))); (case aS => exact (below_size (by repeat (first | (with_reducible first | exact HB.out | apply below_alloc | apply pw_below_drewN | apply below_drew1) | exact HB.out)))); (case aL => have := LMc5.out; omega); intro v374 w7 ho hb hg hat; rw [← Ny373.out] at ho; have n0_ := Aside0.mk (Kd.R_after (ok := (fun _ => True)) (by (with_reducible repeat (first | apply Kd.R_alloc | apply Kd.R_drewN | apply Kd.R_drew)); exact HO372.out) hg hat); have n1_ := Aside0.mk (hb); have n2_ := Aside0.mk (ho); clear HO372; clear HB; clear HO_3; have HO372 := n0_; have HB := n1_; have HO375 := n2_; clear n0_ n1_ n2_; clear ho hb hg hat))
            go_roundg k1
            case measure => have := HK1.out; omega
            case rel => exact ⟨(y373), (wrap64 (x4_1 + 1)), (by first | rfl | (simp; done) | (simp [*]; done)), H', ⟨by have := HK1.out; omega⟩, ⟨by (with_reducible repeat (first | apply Kd.R_alloc | apply Kd.R_drewN | apply Kd.R_drew)); exact Kd.R_mono HO375.out (fun _ hk => trivial)⟩, ⟨by repeat (first | (with_reducible first | exact HB.out | apply below_alloc | apply pw_below_drewN | apply below_drew1) | exact HB.out)⟩⟩
          · rw [if_neg c5] at H
            exact absurd H (by simp)
        · rw [if_neg c3] at H
          exact absurd H (by simp)
      · rw [if_neg c2] at H
        have c2b0 : decide (x4_1 < (l0.length : Int)) = false := decide_eq_false c2
        clear c2
        obtain rfl := Option.some.inj H
        go_wp2
        go_ret
        exact ⟨_, by first | rfl | (simp [errW_none, errW_some] <;> rfl) | (simp [*, errW_none, errW_some] <;> rfl), by (with_reducible repeat (first | apply Kd.R_alloc | apply Kd.R_drewN | apply Kd.R_drew)); exact HO_3.out, by repeat (first | (with_reducible first | exact HB.out | apply below_alloc | apply pw_below_drewN | apply below_drew1) | exact HB.out)⟩

/-! ### flongref02_value: function 47 -/
mutual
def flongref02_value.j0 : Nat → List Int → Int → Option (Int)
  | 0, _, _ => none
  | k + 1, x0, x3 => flongref02_value.l0 k x0 x3 1
def flongref02_value.l0 : Nat → List Int → Int → Int → Option (Int)
  | 0, _, _, _ => none
  | k + 1, x0, x3, x4 => if x4 < (x0.length : Int) then (if 0 ≤ x4 then (flongref02_value.l0 k x0 (wrap64 ((wrap64 ((wrap64 (x3 * 64)) + (wrap64 (rd x0 x4)))) - 128)) (wrap64 (x4 + 1))) else (none)) else (some x3)
end
def flongref02_value.f (k : Nat) (l0 : List Int) : Option (Int) := if 0 < (l0.length : Int) then (if (l0.length : Int) = 2 then (flongref02_value.j0 k l0 (wrap64 ((wrap64 (rd l0 0)) - 192))) else (if (l0.length : Int) = 3 then (flongref02_value.j0 k l0 (wrap64 ((wrap64 (rd l0 0)) - 224))) else (if (l0.length : Int) = 4 then (flongref02_value.j0 k l0 (wrap64 ((wrap64 (rd l0 0)) - 240))) else (flongref02_value.j0 k l0 (wrap64 (rd l0 0)))))) else (none)
theorem flongref02_value.mono_l : ∀ k, (∀ y0 y1, LeO (flongref02_value.j0 k y0 y1) (flongref02_value.j0 (k + 1) y0 y1)) ∧ (∀ y0 y1 y2, LeO (flongref02_value.l0 k y0 y1 y2) (flongref02_value.l0 (k + 1) y0 y1 y2))
  | 0 => ⟨fun _ _ r h => by simp [flongref02_value.j0] at h, fun _ _ _ r h => by simp [flongref02_value.l0] at h⟩
  | k + 1 => by
    obtain ⟨ih0, ih1⟩ := flongref02_value.mono_l k
    refine ⟨?_, ?_⟩
    · intro y0 y1
      unfold flongref02_value.j0
      repeat' first
      | (with_reducible exact ih0 _ _)
      | (with_reducible exact ih1 _ _ _)
      | (with_reducible exact LeO.refl _)
      | (with_reducible exact LeO.none _)
      | (with_reducible refine LeO.ite ?_ ?_)
      | (with_reducible refine LeO.bind ?_ (fun _ => ?_))
      | exact ih0 _ _
      | exact ih1 _ _ _
      | exact LeO.none _
      | refine LeO.ite ?_ ?_
      | refine LeO.bind ?_ (fun _ => ?_)
    · intro y0 y1 y2
      unfold flongref02_value.l0
      repeat' first
      | (with_reducible exact ih0 _ _)
      | (with_reducible exact ih1 _ _ _)
      | (with_reducible exact LeO.refl _)
      | (with_reducible exact LeO.none _)
      | (with_reducible refine LeO.ite ?_ ?_)
      | (with_reducible refine LeO.bind ?_ (fun _ => ?_))
      | exact ih0 _ _
      | exact ih1 _ _ _
      | exact LeO.none _
      | refine LeO.ite ?_ ?_
      | refine LeO.bind ?_ (fun _ => ?_)
theorem flongref02_value.mono : ∀ a0 k, LeO (flongref02_value.f k a0) (flongref02_value.f (k + 1) a0) := by
  intro a0 k
  obtain ⟨ih0, ih1⟩ := flongref02_value.mono_l k
  unfold flongref02_value.f
  repeat' first
      | (with_reducible exact ih0 _ _)
      | (with_reducible exact ih1 _ _ _)
      | (with_reducible exact LeO.refl _)
      | (with_reducible exact LeO.none _)
      | (with_reducible refine LeO.ite ?_ ?_)
      | (with_reducible refine LeO.bind ?_ (fun _ => ?_))
      | exact ih0 _ _
      | exact ih1 _ _ _
      | exact LeO.none _
      | refine LeO.ite ?_ ?_
      | refine LeO.bind ?_ (fun _ => ?_)
set_option maxHeartbeats 8000000 in
set_option maxRecDepth 100000 in
theorem flongref02_value.calls (k : Nat) (A0 : Option Addr) (c0 : Nat) (l0 : List Int) (r : Int) (w : World) (hr0 : Kd.C (Kd.int .u8) w A0 l0.length l0) (hc0 : l0.length ≤ c0) (h : flongref02_value.f k l0 = some r) :
    Calls Tryd.prog 47 #[.slice A0 l0.length c0] w fun e w' => e = .returned (.int .i64 r) ∧ Drawn0 w w' := by
  have HR0 := Aside0.mk hr0
  have HC0 := Aside0.mk hc0
  clear hr0 hc0
  have H : (if 0 < (l0.length : Int) then (if (l0.length : Int) = 2 then (flongref02_value.j0 k l0 (wrap64 ((wrap64 (rd l0 0)) - 192))) else (if (l0.length : Int) = 3 then (flongref02_value.j0 k l0 (wrap64 ((wrap64 (rd l0 0)) - 224))) else (if (l0.length : Int) = 4 then (flongref02_value.j0 k l0 (wrap64 ((wrap64 (rd l0 0)) - 240))) else (flongref02_value.j0 k l0 (wrap64 (rd l0 0)))))) else (none)) = some r := h
  clear h
  by_cases c2 : 0 < (l0.length : Int)
  · rw [if_pos c2] at H
    have c2b0 : decide (0 < (l0.length : Int)) = true := decide_eq_true c2
    have c2b1 : decide (0 < l0.length) = true := decide_eq_true (by omega)
    clear c2
    have HC3 := Aside0.mk H
    clear H
    have p376 : 0 ≤ (0 : Int) := (by omega)
    have q376 : 0 < (l0.length : Int) := of_decide_eq_true (by first | (with_reducible assumption) | assumption)
    obtain ⟨ad376, e376, hx376_0⟩ := Kd.at_int HR0.out 0 p376 q376
    cases e376
    have qi376 : (0 < l0.length) = True := eq_true (by omega)
    (try rw [show ((0 : Int)).toNat = 0 from rfl] at hx376_0)
    (try rw [Addr.add_zero'] at hx376_0)
    replace p376 := eq_true p376
    replace q376 := eq_true q376
    go_enter Tryd.func47, Tryd.ntmps47
    go_upto_block 0 with (fail)
    go_cut [3] (fun v3 wc => ∃ (kq : Nat) (x3_2 : Int), v3 = .int .i64 x3_2 ∧ Aside0 (flongref02_value.j0 kq l0 x3_2 = some r) ∧ Aside0 (kq ≤ k) ∧ Drawn0 w wc)
    case first =>
      have H := HC3.out
      clear HC3
      by_cases c4 : (l0.length : Int) = 2
      · rw [if_pos c4] at H
        have c4b0 : ((l0.length : Int) == 2) = true := beq_iff_eq.mpr c4
        have c4b1 : ((l0.length : Int) != 2) = false := bne_eq_false_iff_eq.mpr c4
        clear c4
        (first | rw [c4b0] | (simp only [i64_w, i32_w]; rw [c4b0]) | skip)
        have H' := Aside0.mk H
        clear H
        go_wp2
        go_meet
        case rel => exact ⟨_, (wrap64 ((wrap64 (rd l0 0)) - 192)), (by first | rfl | (simp; done) | (simp [*]; done)), H', ⟨by first | omega | exact Nat.le_refl _⟩, by repeat (first | exact Drawn0.refl _ | apply Drawn0.step)⟩
      · rw [if_neg c4] at H
        have c4b0 : ((l0.length : Int) == 2) = false := beq_eq_false_iff_ne.mpr c4
        have c4b1 : ((l0.length : Int) != 2) = true := bne_iff_ne.mpr c4
        (first | rw [c4b0] | (simp only [i64_w, i32_w]; rw [c4b0]) | skip)
        by_cases c5 : (l0.length : Int) = 3
        · rw [if_pos c5] at H
          have c5b0 : ((l0.length : Int) == 3) = true := beq_iff_eq.mpr c5
          have c5b1 : ((l0.length : Int) != 3) = false := bne_eq_false_iff_eq.mpr c5
          clear c5
          have H' := Aside0.mk H
          clear H
          go_wp2
          go_meet
          case rel => exact ⟨_, (wrap64 ((wrap64 (rd l0 0)) - 224)), (by first | rfl | (simp; done) | (simp [*]; done)), H', ⟨by first | omega | exact Nat.le_refl _⟩, by repeat (first | exact Drawn0.refl _ | apply Drawn0.step)⟩
        · rw [if_neg c5] at H
          have c5b0 : ((l0.length : Int) == 3) = false := beq_eq_false_iff_ne.mpr c5
          have c5b1 : ((l0.length : Int) != 3) = true := bne_iff_ne.mpr c5
          by_cases c6 : (l0.length : Int) = 4
          · rw [if_pos c6] at H
            have c6b0 : ((l0.length : Int) == 4) = true := beq_iff_eq.mpr c6
            have c6b1 : ((l0.length : Int) != 4) = false := bne_eq_false_iff_eq.mpr c6
            clear c6
            have H' := Aside0.mk H
            clear H
            go_wp2
            go_meet
            case rel => exact ⟨_, (wrap64 ((wrap64 (rd l0 0)) - 240)), (by first | rfl | (simp; done) | (simp [*]; done)), H', ⟨by first | omega | exact Nat.le_refl _⟩, by repeat (first | exact Drawn0.refl _ | apply Drawn0.step)⟩
          · rw [if_neg c6] at H
            have c6b0 : ((l0.length : Int) == 4) = false := beq_eq_false_iff_ne.mpr c6
            have c6b1 : ((l0.length : Int) != 4) = true := bne_iff_ne.mpr c6
            have H' := Aside0.mk H
            clear H
            go_wp2
            go_meet
            case rel => exact ⟨_, (wrap64 (rd l0 0)), (by first | rfl | (simp; done) | (simp [*]; done)), H', ⟨by first | omega | exact Nat.le_refl _⟩, by repeat (first | exact Drawn0.refl _ | apply Drawn0.step)⟩
    case rest =>
      clear HC3
      try clear c2
      try clear c2b0
      try clear c2b1
      try clear p2
      try clear p3
      try clear q3
      try clear hx3
      try clear qi3
      try clear c4
      try clear c4b0
      try clear c4b1
      try clear c5
      try clear c5b0
      try clear c5b1
      try clear c6
      try clear c6b0
      try clear c6b1
      try clear p6
      try clear hx376_0
      try clear p376
      try clear q376
      obtain ⟨kq, x3_2, rfl, HA, HJ2, ⟨mc2, rfl⟩⟩ := hcut
      cases kq with
      | zero => exact absurd HA.out (by simp [flongref02_value.j0])
      | succ kj2 =>
        have H := HA.out
        clear HA
        simp only [flongref02_value.j0] at H
        have H' := Aside0.mk H
        clear H
        go_wp2
        go_loopg [3, 4] kj2 (fun kq v3 v4 w' => ∃ (x3_2 : Int) (x4_2 : Int), v3 = .int .i64 x3_2 ∧ v4 = .int .i64 x4_2 ∧ Aside0 (flongref02_value.l0 kq l0 x3_2 x4_2 = some r) ∧ Aside0 (kq ≤ kj2) ∧ Drawn0 w w')
        case atStart => exact ⟨(x3_2), (1), (by first | rfl | (simp; done) | (simp [*]; done)), (by first | rfl | (simp; done) | (simp [*]; done)), H', ⟨Nat.le_refl _⟩, by repeat (first | exact Drawn0.refl _ | apply Drawn0.step)⟩
        case round =>
          clear H'
          try clear c2
          try clear c2b0
          try clear c2b1
          try clear p2
          try clear p3
          try clear q3
          try clear hx3
          try clear qi3
          try clear c4
          try clear c4b0
          try clear c4b1
          try clear c5
          try clear c5b0
          try clear c5b1
          try clear c6
          try clear c6b0
          try clear c6b1
          try clear p6
          try clear hx376_0
          try clear p2
          try clear p3
          try clear p376
          try clear p6
          try clear q3
          try clear q376
          obtain ⟨x3_2, x4_2, rfl, rfl, HA, HK2, ⟨m2, rfl⟩⟩ := hrel
          cases gk with
          | zero => exact absurd HA.out (by simp [flongref02_value.l0])
          | succ k2 =>
            have H := HA.out
            clear HA
            simp only [flongref02_value.l0] at H
            by_cases c7 : x4_2 < (l0.length : Int)
            · rw [if_pos c7] at H
              have c7b0 : decide (x4_2 < (l0.length : Int)) = true := decide_eq_true c7
              clear c7
              by_cases c8 : 0 ≤ x4_2
              · rw [if_pos c8] at H
                have c8b0 : decide (0 ≤ x4_2) = true := decide_eq_true c8
                clear c8
                have H' := Aside0.mk H
                clear H
                have p377 : 0 ≤ (x4_2 : Int) := of_decide_eq_true (by first | (with_reducible assumption) | assumption)
                have q377 : x4_2 < (l0.length : Int) := of_decide_eq_true (by first | (with_reducible assumption) | assumption)
                obtain ⟨ad377, e377, hx377_0⟩ := Kd.at_int HR0.out x4_2 p377 q377
                obtain rfl : ad376 = ad377 := (by injection e377)
                replace p377 := eq_true p377
                replace q377 := eq_true q377
                go_wp2
                go_roundg k2
                case measure => have := HJ2.out; have := HK2.out; omega
                case rel => exact ⟨(wrap64 ((wrap64 ((wrap64 (x3_2 * 64)) + (wrap64 (rd l0 x4_2)))) - 128)), (wrap64 (x4_2 + 1)), (by first | rfl | (simp; done) | (simp [*]; done)), (by first | rfl | (simp; done) | (simp [*]; done)), H', ⟨by have := HJ2.out; have := HK2.out; omega⟩, by repeat (first | exact Drawn0.refl _ | apply Drawn0.step)⟩
              · rw [if_neg c8] at H
                exact absurd H (by simp)
            · rw [if_neg c7] at H
              have c7b0 : decide (x4_2 < (l0.length : Int)) = false := decide_eq_false c7
              clear c7
              obtain rfl := Option.some.inj H
              go_wp2
              go_ret
              exact ⟨by first | rfl | (simp; done) | (simp [*]; done), by repeat (first | exact Drawn0.refl _ | apply Drawn0.step)⟩
  · rw [if_neg c2] at H
    exact absurd H (by simp)

end Go.Proofs.YtdcbaefcgghbmaaDoor.X
