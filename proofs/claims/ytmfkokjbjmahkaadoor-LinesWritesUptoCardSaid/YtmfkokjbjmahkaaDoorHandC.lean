/- HandC: several of this session's texts in one. -/
import Derived.Test.YtmfkokjbjmahkaaDoorHandS
import Derived.Test.YtmfkokjbjmahkaaDoorX3
/- lines.Same, walked by hand, where the rows are the same. -/
namespace Go.Proofs.YtmfkokjbjmahkaaDoor.Hand
open Go Go.RowKit Go.Proofs.YtmfkokjbjmahkaaDoorW.PrintWords Go.Proofs.YtmfkokjbjmahkaaDoorW.PrintLast Go.Proofs.YtmfkokjbjmahkaaDoorW.PrintMore Go.Proofs.YtmfkokjbjmahkaaDoor.X
set_option linter.unusedVariables false
set_option linter.unusedSimpArgs false
set_option maxHeartbeats 8000000
set_option maxRecDepth 100000
/-- The same texts. -/
def eqT (a b : List ByteArray) : Prop := a.length = b.length ∧ ∀ (i : Nat) (h : i < a.length) (h' : i < b.length), a[i].toList = b[i].toList
theorem eq_texts (A0 : Option Addr) (c0 : Nat) (l0 : List ByteArray) (A1 : Option Addr) (c1 : Nat) (l1 : List ByteArray) (w : World) (hr0 : Kd.C Kd.string w A0 l0.length l0) (hr1 : Kd.C Kd.string w A1 l1.length l1) (he : eqT l0 l1) :
    Calls Tryd.prog 46 #[.slice A0 l0.length c0, .slice A1 l1.length c1] w fun e w' => e = .returned (.bool true) ∧ Below w.heap.size w w' := by
  have HR0 := Aside0.mk hr0
  have HR1 := Aside0.mk hr1
  have HM := Aside0.mk hr0.2.1
  have HE := Aside0.mk he
  have hn : ((l0.length : Int) != (l1.length : Int)) = false := bne_eq_false_iff_eq.2 (by rw [he.1])
  clear hr0 hr1 he
  go_enter Tryd.func46, Tryd.ntmps46
  go_wp2
  go_loopg [5, 13] l0.length (fun kq v5 v13 w' => ∃ i : Nat, v13 = .int .i64 i ∧ Aside0 (i ≤ l0.length ∧ l0.length - i ≤ kq) ∧ Drawn0 w w')
  case atStart => exact ⟨0, rfl, ⟨by omega, by omega⟩, by repeat (first | exact Drawn0.refl _ | apply Drawn0.step)⟩
  case round =>
    obtain ⟨i, rfl, HI, ⟨m1, rfl⟩⟩ := hrel
    by_cases hlt : i < l0.length
    · have hlt' : i < l1.length := by have := HE.out.1; omega
      have d1 : decide ((i : Int) < (l0.length : Int)) = true := decide_eq_true (by omega)
      have d2 : (0 : Int) ≤ (i : Int) := by omega
      have d3 : (i : Int) < (l0.length : Int) := by omega
      have d4 : (i : Int) < (l1.length : Int) := by omega
      obtain ⟨ad0, e0, hx0⟩ := Kd.at_string HR0.out (i : Int) (by omega) (by omega)
      obtain ⟨ad1, e1, hx1⟩ := Kd.at_string HR1.out (i : Int) (by omega) (by omega)
      have hrd0 : rdOf ByteArray.empty l0 (i : Int) = l0[i] := by simp [rdOf, List.getD_eq_getElem?_getD, List.getElem?_eq_getElem hlt]
      have hrd1 : rdOf ByteArray.empty l1 (i : Int) = l1[i] := by simp [rdOf, List.getD_eq_getElem?_getD, List.getElem?_eq_getElem hlt']
      have heq := HE.out.2 i hlt hlt'
      rw [hrd0, Int.toNat_natCast] at hx0
      rw [hrd1, Int.toNat_natCast] at hx1
      generalize l0[i] = x0 at hx0 heq
      generalize l1[i] = x1 at hx1 heq
      have q0 : (x0.toList == x1.toList) = true := beq_iff_eq.2 heq
      have q1 : (x0.toList != x1.toList) = false := bne_eq_false_iff_eq.2 heq
      subst e0 e1
      have wi : IntKind.i64.wrap ((i : Int) + 1) = ((i + 1 : Nat) : Int) := by rw [IntKind.wrap_i64]; have := HM.out; omega
      clear hrd0 hrd1 heq
      obtain ⟨k1, rfl⟩ : ∃ k1, gk = k1 + 1 := ⟨gk - 1, by have := HI.out.2; omega⟩
      go_wp2
      repeat (go_quiet (fail); try go_wp2)
      go_roundg k1
      case measure => omega
      case rel => exact ⟨i + 1, by first | rfl | (simp; done), ⟨by omega, by have := HI.out.2; omega⟩, by repeat (first | exact Drawn0.refl _ | apply Drawn0.step)⟩
    · have d1 : decide ((i : Int) < (l0.length : Int)) = false := decide_eq_false (by omega)
      go_wp2
      go_ret
      exact ⟨rfl, Drawn0.below (by repeat (first | exact Drawn0.refl _ | apply Drawn0.step))⟩
/-- The same row. -/
def eqR (x y : S35) : Prop := x.f0 = y.f0 ∧ x.f1.toList = y.f1.toList ∧ eqT x.f2 y.f2 ∧ x.f3.toList = y.f3.toList
theorem same_row (x y : S35) (A0 : Option Addr) (c0 : Nat) (A1 : Option Addr) (c1 : Nat) (w : World) (hr0 : Kd.C Kd.string w A0 x.f2.length x.f2) (hr1 : Kd.C Kd.string w A1 y.f2.length y.f2) (he : eqR x y) :
    Calls Tryd.prog 45 #[.agg #[.int .i64 x.f0, .string x.f1, .slice A0 x.f2.length c0, .string x.f3], .agg #[.int .i64 y.f0, .string y.f1, .slice A1 y.f2.length c1, .string y.f3]] w fun e w' => e = .returned (.bool true) ∧ Below w.heap.size w w' := by
  obtain ⟨h0, h1, h2, h3⟩ := he
  have q0 : (x.f0 == y.f0) = true := beq_iff_eq.2 h0
  have q1 : (x.f1.toList == y.f1.toList) = true := beq_iff_eq.2 h1
  have q3 : (x.f3.toList == y.f3.toList) = true := beq_iff_eq.2 h3
  have HR0 := Aside0.mk hr0
  have HR1 := Aside0.mk hr1
  have HE := Aside0.mk h2
  clear hr0 hr1 h0 h1 h2 h3
  go_enter Tryd.func45, Tryd.ntmps45
  have HX0 := Aside0.mk (show ((w.alloc (.cells #[.int .i64 x.f0, .string x.f1, .slice A0 x.f2.length c0, .string x.f3] 35)).alloc (.cells #[.int .i64 y.f0, .string y.f1, .slice A1 y.f2.length c1, .string y.f3] 35)).heap[w.heap.size]? = some (.cells #[.int .i64 x.f0, .string x.f1, .slice A0 x.f2.length c0, .string x.f3] 35) from blk_below (blk_new w _) (below_alloc (Below.refl _ _) _))
  have HX1 := Aside0.mk (show ((w.alloc (.cells #[.int .i64 x.f0, .string x.f1, .slice A0 x.f2.length c0, .string x.f3] 35)).alloc (.cells #[.int .i64 y.f0, .string y.f1, .slice A1 y.f2.length c1, .string y.f3] 35)).heap[w.heap.size + 1]? = some (.cells #[.int .i64 y.f0, .string y.f1, .slice A1 y.f2.length c1, .string y.f3] 35) from by have h := blk_new (w.alloc (.cells #[.int .i64 x.f0, .string x.f1, .slice A0 x.f2.length c0, .string x.f3] 35)) (.cells #[.int .i64 y.f0, .string y.f1, .slice A1 y.f2.length c1, .string y.f3] 35); simpa using h)
  have HB0 := Aside0.mk (show Below w.heap.size w ((w.alloc (.cells #[.int .i64 x.f0, .string x.f1, .slice A0 x.f2.length c0, .string x.f3] 35)).alloc (.cells #[.int .i64 y.f0, .string y.f1, .slice A1 y.f2.length c1, .string y.f3] 35)) from below_alloc (below_alloc (Below.refl _ _) _) _)
  go_wp2_with (fail)
  refine (eq_texts A0 c0 x.f2 A1 c1 y.f2 _ (Kd.C_below HR0.out HB0.out) (Kd.C_below HR1.out HB0.out) HE.out).mono ?_
  rintro e w1 ⟨rfl, hb⟩
  have y0 : w1.cell? ⟨w.heap.size, 3, none⟩ = some (.string x.f3) := (blk_cell (blk_below HX0.out hb) 3).trans rfl
  have y1 : w1.cell? ⟨w.heap.size + 1, 3, none⟩ = some (.string y.f3) := (blk_cell (blk_below HX1.out hb) 3).trans rfl
  have HB1 := Aside0.mk (below_step HB0.out hb)
  clear hb HX0 HX1
  go_wp2
  go_ret
  exact ⟨rfl, HB1.out⟩
/-- The same rows. -/
def eqL (a b : List S35) : Prop := a.length = b.length ∧ ∀ (i : Nat) (h : i < a.length) (h' : i < b.length), eqR a[i] b[i]
theorem eq_rows (A0 : Option Addr) (c0 : Nat) (l0 : List S35) (A1 : Option Addr) (c1 : Nat) (l1 : List S35) (w : World) (hr0 : Kd.C k35 w A0 l0.length l0) (hr1 : Kd.C k35 w A1 l1.length l1) (he : eqL l0 l1) :
    Calls Tryd.prog 44 #[.slice A0 l0.length c0, .slice A1 l1.length c1, .func (.func 45) #[] #[]] w fun e w' => e = .returned (.bool true) ∧ Below w.heap.size w w' := by
  have eg : ∀ args w, (callFunc 45 args).run Tryd.prog w = .ok (.enter 45 args) w := enters_of Tryd.func45 (by kernel_rfl) rfl
  have HR0 := Aside0.mk hr0
  have HR1 := Aside0.mk hr1
  have HM := Aside0.mk hr0.2.1
  have HE := Aside0.mk he
  have hn : ((l0.length : Int) != (l1.length : Int)) = false := bne_eq_false_iff_eq.2 (by rw [he.1])
  clear hr0 hr1 he
  go_enter Tryd.func44, Tryd.ntmps44
  go_wp2
  go_loopg [7, 8, 9, 17] l0.length (fun kq v7 v8 v9 v17 w' => ∃ i : Nat, v17 = .int .i64 i ∧ Aside0 (i ≤ l0.length ∧ l0.length - i ≤ kq) ∧ Aside0 (Below w.heap.size w w'))
  case atStart => exact ⟨0, rfl, ⟨by omega, by omega⟩, ⟨Below.refl _ _⟩⟩
  case round =>
    obtain ⟨i, rfl, HI, HB⟩ := hrel
    by_cases hlt : i < l0.length
    · have hlt' : i < l1.length := by have := HE.out.1; omega
      have d1 : decide ((i : Int) < (l0.length : Int)) = true := decide_eq_true (by omega)
      have d2 : (0 : Int) ≤ (i : Int) := by omega
      have d3 : (i : Int) < (l0.length : Int) := by omega
      have d4 : (i : Int) < (l1.length : Int) := by omega
      obtain ⟨ad, A2, a2, e0, hx0, hx1, hx2, hx3, hlx, hix⟩ := at_T35 HR0.out (i : Int) (by omega) (by omega)
      obtain ⟨bd, B2, b2, e1, hy0, hy1, hy2, hy3, hly, hiy⟩ := at_T35 HR1.out (i : Int) (by omega) (by omega)
      have hrd0 : rd_T35 l0 (i : Int) = l0[i] := by simp [rd_T35, List.getD_eq_getElem?_getD, List.getElem?_eq_getElem hlt]
      have hrd1 : rd_T35 l1 (i : Int) = l1[i] := by simp [rd_T35, List.getD_eq_getElem?_getD, List.getElem?_eq_getElem hlt']
      have heq := HE.out.2 i hlt hlt'
      rw [hrd0] at hx0 hx1 hx2 hx3 hlx hix
      rw [hrd1] at hy0 hy1 hy2 hy3 hly hiy
      generalize l0[i] = x at hx0 hx1 hx2 hx3 hlx hix heq
      generalize l1[i] = y at hy0 hy1 hy2 hy3 hly hiy heq
      subst e0 e1
      replace hx0 := pw_cell_below HB.out hx0
      replace hx1 := pw_cell_below HB.out hx1
      replace hx2 := pw_cell_below HB.out hx2
      replace hx3 := pw_cell_below HB.out hx3
      replace hy0 := pw_cell_below (below_alloc HB.out (.cells #[.int .i64 x.f0, .string x.f1, .slice A2 x.f2.length a2, .string x.f3] 35)) hy0
      replace hy1 := pw_cell_below (below_alloc HB.out (.cells #[.int .i64 x.f0, .string x.f1, .slice A2 x.f2.length a2, .string x.f3] 35)) hy1
      replace hy2 := pw_cell_below (below_alloc HB.out (.cells #[.int .i64 x.f0, .string x.f1, .slice A2 x.f2.length a2, .string x.f3] 35)) hy2
      replace hy3 := pw_cell_below (below_alloc HB.out (.cells #[.int .i64 x.f0, .string x.f1, .slice A2 x.f2.length a2, .string x.f3] 35)) hy3
      rw [Int.toNat_natCast] at hx0 hx1 hx2 hx3 hy0 hy1 hy2 hy3
      have HIX := Aside0.mk hix
      have HIY := Aside0.mk hiy
      have HQ := Aside0.mk heq
      have wi : IntKind.i64.wrap ((i : Int) + 1) = ((i + 1 : Nat) : Int) := by rw [IntKind.wrap_i64]; have := HM.out; omega
      clear hrd0 hrd1 heq hix hiy hlx hly
      obtain ⟨k1, rfl⟩ : ∃ k1, gk = k1 + 1 := ⟨gk - 1, by have := HI.out.2; omega⟩
      go_wp2_with (fail)
      refine (same_row x y A2 a2 B2 b2 _ (Kd.C_below HIX.out (below_alloc (below_alloc HB.out _) _)) (Kd.C_below HIY.out (below_alloc (below_alloc HB.out _) _)) HQ.out).mono ?_
      rintro e w1 ⟨rfl, hb⟩
      have HB1 := Aside0.mk (below_step (below_alloc (below_alloc HB.out _) _) hb)
      clear hb
      go_wp2
      go_roundg k1
      case measure => omega
      case rel => exact ⟨i + 1, by first | rfl | (simp; done), ⟨by omega, by have := HI.out.2; omega⟩, HB1⟩
    · have d1 : decide ((i : Int) < (l0.length : Int)) = false := decide_eq_false (by omega)
      go_wp2
      go_ret
      exact ⟨rfl, HB.out⟩
instance (a b : List ByteArray) : Decidable (eqT a b) := inferInstanceAs (Decidable (_ ∧ _))
instance (x y : S35) : Decidable (eqR x y) := inferInstanceAs (Decidable (_ ∧ _ ∧ _ ∧ _))
instance (a b : List S35) : Decidable (eqL a b) := inferInstanceAs (Decidable (_ ∧ _))
def lines_Same.f (a b : List S35) : Option Bool := if eqL a b then some true else none
theorem lines_Same.calls (A0 : Option Addr) (c0 : Nat) (l0 : List S35) (A1 : Option Addr) (c1 : Nat) (l1 : List S35) (r : Bool) (w : World) (hr0 : Kd.C k35 w A0 l0.length l0) (hc0 : l0.length ≤ c0) (hr1 : Kd.C k35 w A1 l1.length l1) (hc1 : l1.length ≤ c1) (h : lines_Same.f l0 l1 = some r) :
    Calls Tryd.prog 24 #[.slice A0 l0.length c0, .slice A1 l1.length c1] w fun e w' => e = .returned (.bool r) ∧ Below w.heap.size w w' := by
  unfold lines_Same.f at h
  split at h
  · rename_i hh
    obtain rfl := Option.some.inj h
    have HC := Aside0.mk (eq_rows A0 c0 l0 A1 c1 l1 w hr0 hr1 hh)
    clear hr0 hr1 hh
    go_enter Tryd.func24, Tryd.ntmps24
    go_wp2_with (fail)
    refine HC.out.mono ?_
    rintro e w' ⟨rfl, hb⟩
    have HB := Aside0.mk hb
    clear hb
    go_wp2
    go_ret
    exact ⟨rfl, HB.out⟩
  · cases h
end Go.Proofs.YtmfkokjbjmahkaaDoor.Hand
