/- HandD: several of this session's texts in one. -/
import Derived.Test.YtmfkokjbjmahkaaDoorHandS
import Derived.Shelf.Abstract
import Derived.Lib.SliceRun
import Derived.RangeFuncCalls
import Derived.Test.YtmfkokjbjmahkaaDoorX2
/- What the reader's methods leave as it was. -/
namespace Go.Proofs.YtmfkokjbjmahkaaDoor.Hand
open Go Go.RowKit Go.Proofs.YtmfkokjbjmahkaaDoorW.PrintWords Go.Proofs.YtmfkokjbjmahkaaDoorW.PrintLast Go.Proofs.YtmfkokjbjmahkaaDoorW.PrintMore Go.Proofs.YtmfkokjbjmahkaaDoor.X
set_option linter.unusedVariables false
/-- The reader's cells. -/
def RdAt (p : Nat) (vo vb : Value) (line : Int) (whole : ByteArray) (frm : Int) (W : World) : Prop :=
  W.heap[p]? = some (.cells #[vo, vb, .int .i64 line, .string whole, .int .i64 frm] 55 (0, 0))
abbrev Rw := S35
abbrev Dg := S37
theorem info_Dg : (Tryd.prog.info? 37).map (fun i => (i.zero, i.size, i.bytes)) = some (some (.agg #[(.int .i64 0), (.int .i64 0), (.int .i64 0)]), 3, 24) := by kernel_rfl
theorem ne_ok {ok : Nat → Prop} {p q : Nat} (h : ¬ ok p) (hq : ok q) : q ≠ p := fun e => h (e ▸ hq)
/-- Nothing is turned but block p, and blocks that are ok. -/
structure Fr (ok : Nat → Prop) (p : Nat) (W W' : World) : Prop where
  size : W.heap.size ≤ W'.heap.size
  keep : ∀ q, q < W.heap.size → q ≠ p → ¬ ok q → W'.heap[q]? = W.heap[q]?
  same : ∀ (q : Nat) (o : Obj), W.heap[q]? = some o → o.isCells = false → W'.heap[q]? = some o
theorem Fr.refl (ok : Nat → Prop) (p : Nat) (W : World) : Fr ok p W W := ⟨Nat.le_refl _, fun _ _ _ _ => rfl, fun _ _ h _ => h⟩
section
variable {ok : Nat → Prop} {p : Nat} {W A B : World}
theorem Fr.below (h : Fr ok p W A) (hb : Below A.heap.size A B) : Fr ok p W B :=
  ⟨Nat.le_trans h.size hb.size, fun q hq h1 h2 => (hb.block q (Nat.lt_of_lt_of_le hq h.size)).trans (h.keep q hq h1 h2), fun q o hq ho => (hb.block q (blk_lt (h.same q o hq ho))).trans (h.same q o hq ho)⟩
theorem Fr.set_new (h : Fr ok p W A) {g : Nat} (hg : W.heap.size ≤ g) (j : Nat) (u : Value) : Fr ok p W (A.setCell ⟨g, j, none⟩ u) :=
  ⟨by simpa using h.size, fun q hq h1 h2 => (Below.heap_setCell A ⟨g, j, none⟩ u q (by show q ≠ g; omega)).trans (h.keep q hq h1 h2),
    fun q o hq ho => (Below.heap_setCell A ⟨g, j, none⟩ u q (by have := blk_lt hq; show q ≠ g; omega)).trans (h.same q o hq ho)⟩
theorem Fr.set_p (h : Fr ok p W A) {cs : Array Value} {t : TypeId} {fz : Nat × Nat} (hp : A.heap[p]? = some (.cells cs t fz)) (j : Nat) (u : Value) : Fr ok p W (A.setCell ⟨p, j, none⟩ u) :=
  ⟨by simpa using h.size, fun q hq h1 h2 => (Below.heap_setCell A ⟨p, j, none⟩ u q h1).trans (h.keep q hq h1 h2), fun q o hq ho => by
    have h2 := h.same q o hq ho
    refine (Below.heap_setCell A ⟨p, j, none⟩ u q (fun e => ?_)).trans h2
    have e' : q = p := e
    rw [e', hp] at h2
    obtain rfl := Option.some.inj h2
    cases ho⟩
theorem Fr.grown (h : Fr ok p W A) {row : Option Nat} (hg : A.grownBy B row) (hrow : ∀ q, row = some q → ok q ∧ ∃ cs t fz, A.heap[q]? = some (.cells cs t fz)) : Fr ok p W B :=
  ⟨Nat.le_trans h.size hg.size, fun q hq h1 h2 => (hg.block q (Nat.lt_of_lt_of_le hq h.size) (fun e => h2 (hrow q e.symm).1)).trans (h.keep q hq h1 h2), fun q o hq ho => by
    have h2 := h.same q o hq ho
    refine (hg.block q (blk_lt h2) (fun e => ?_)).trans h2
    obtain ⟨_, cs, t, fz, hc⟩ := hrow q e.symm
    rw [hc] at h2
    obtain rfl := Option.some.inj h2
    cases ho⟩
theorem Fr.trans {C : World} (h : Fr ok p W A) (k : Fr ok p A C) : Fr ok p W C :=
  ⟨Nat.le_trans h.size k.size, fun q hq h1 h2 => (k.keep q (Nat.lt_of_lt_of_le hq h.size) h1 h2).trans (h.keep q hq h1 h2), fun q o hq ho => k.same q o (h.same q o hq ho) ho⟩
end
section
variable {w : World} {g : Nat} {a b c d a' b' c' d' : Value}
theorem blk_put4 {t : TypeId} (h : w.heap[g]? = some (.cells #[a, b, c, d] t (0, 0))) (a' b' c' d' : Value) :
    ((((w.setCell ⟨g, 0, none⟩ a').setCell ⟨g, 1, none⟩ b').setCell ⟨g, 2, none⟩ c').setCell ⟨g, 3, none⟩ d').heap[g]? = some (.cells #[a', b', c', d'] t (0, 0)) :=
  blk_put (blk_put (blk_put (blk_put h 0 _ rfl) 1 _ rfl) 2 _ rfl) 3 _ rfl
theorem blk_far4 {p : Nat} {cs : Array Value} {t : TypeId} (h : w.heap[p]? = some (.cells cs t (0, 0))) (hne : p ≠ g) (a' b' c' d' : Value) :
    ((((w.setCell ⟨g, 0, none⟩ a').setCell ⟨g, 1, none⟩ b').setCell ⟨g, 2, none⟩ c').setCell ⟨g, 3, none⟩ d').heap[p]? = some (.cells cs t (0, 0)) :=
  blk_far (blk_far (blk_far (blk_far h hne _) hne _) hne _) hne _
theorem S_far4 {α : Type} {d0 : Kd α} {e base : Nat} {ok : Nat → Prop} {v : Value} {xs : List α} (h : Kd.S d0 e w base ok v xs) (hne : ∀ q, ok q → q ≠ g) (a' b' c' d' : Value) :
    Kd.S d0 e ((((w.setCell ⟨g, 0, none⟩ a').setCell ⟨g, 1, none⟩ b').setCell ⟨g, 2, none⟩ c').setCell ⟨g, 3, none⟩ d') base ok v xs :=
  Kd.S_far (Kd.S_far (Kd.S_far (Kd.S_far h (p := ⟨g, 0, none⟩) hne a') (p := ⟨g, 1, none⟩) hne b') (p := ⟨g, 2, none⟩) hne c') (p := ⟨g, 3, none⟩) hne d'
end
end Go.Proofs.YtmfkokjbjmahkaaDoor.Hand

/- (*reader).done, walked by hand: a line that is whole. Printed by gen_done.py. -/
namespace Go.Proofs.YtmfkokjbjmahkaaDoor.Hand
open Go Go.RowKit Go.Proofs.YtmfkokjbjmahkaaDoorW.PrintWords Go.Proofs.YtmfkokjbjmahkaaDoorW.PrintLast Go.Proofs.YtmfkokjbjmahkaaDoorW.PrintMore Go.Proofs.YtmfkokjbjmahkaaDoor.X
set_option linter.unusedVariables false
set_option linter.unusedSimpArgs false

def lines_done.T0 : Bool × List (List Nat × List Nat) := (true, [([], []), ([0], [0]), ([1], [1]), ([2], [2]), ([], []), ([4], [4]), ([5], [5]), ([6], [6]), ([3, 7], [3, 7]), ([], []), ([9, 8, 0, 1, 2, 3, 4, 5, 6, 7, 8, 9], [8, 9])])
def lines_done.B0 : List Nat := [0, 1, 3, 7, 0, 16, 48, 112, 255, 0, 1023]
theorem lines_done.tab0 : rtab .any (opsOf Tryd.f34 0) = lines_done.T0 := by kernel_rfl
theorem lines_done.bits0 : waitsOk lines_done.T0.2 lines_done.B0 = true := by kernel_rfl
def lines_done.T4 : Bool × List (List Nat × List Nat) := (true, [([], []), ([], []), ([1], [1]), ([2], [2]), ([3], [3]), ([], []), ([5], [5]), ([4, 6], [4, 6]), ([0, 0, 1, 2, 3, 4, 5, 6, 7], [0]), ([8, 0, 1, 2, 3, 4, 5, 6, 7], [8]), ([9, 7, 7, 0, 1, 2, 3, 4, 5, 6, 7], [7, 9])])
def lines_done.B4 : List Nat := [0, 0, 2, 6, 14, 0, 32, 126, 255, 511, 1023]
theorem lines_done.tab4 : rtab .any (opsOf Tryd.f34 4) = lines_done.T4 := by kernel_rfl
theorem lines_done.bits4 : waitsOk lines_done.T4.2 lines_done.B4 = true := by kernel_rfl
def lines_done.T9 : Bool × List (List Nat × List Nat) := (true, [([], []), ([], []), ([1], [1]), ([2], [2]), ([3], [3]), ([], []), ([5], [5]), ([6], [6]), ([7], [7]), ([4, 8], [4, 8]), ([0, 0, 1, 2, 3, 4, 5, 6, 7, 8, 9], [0]), ([10, 0, 1, 2, 3, 4, 5, 6, 7, 8, 9], [10]), ([11, 9, 9, 0, 1, 2, 3, 4, 5, 6, 7, 8, 9], [9, 11])])
def lines_done.B9 : List Nat := [0, 0, 2, 6, 14, 0, 32, 96, 224, 510, 1023, 2047, 4095]
theorem lines_done.tab9 : rtab .any (opsOf Tryd.f34 9) = lines_done.T9 := by kernel_rfl
theorem lines_done.bits9 : waitsOk lines_done.T9.2 lines_done.B9 = true := by kernel_rfl
def lines_done.T12 : Bool × List (List Nat × List Nat) := (true, [([], []), ([], []), ([1], [1]), ([2], [2]), ([3], [3]), ([], []), ([5], [5]), ([6], [6]), ([7], [7]), ([4, 8], [4, 8]), ([0, 0, 1, 2, 3, 4, 5, 6, 7, 8, 9], [0]), ([10, 0, 1, 2, 3, 4, 5, 6, 7, 8, 9], [10]), ([11, 9, 9, 0, 1, 2, 3, 4, 5, 6, 7, 8, 9], [9, 11])])
def lines_done.B12 : List Nat := [0, 0, 2, 6, 14, 0, 32, 96, 224, 510, 1023, 2047, 4095]
theorem lines_done.tab12 : rtab .any (opsOf Tryd.f34 12) = lines_done.T12 := by kernel_rfl
theorem lines_done.bits12 : waitsOk lines_done.T12.2 lines_done.B12 = true := by kernel_rfl
def lines_done.T13 : Bool × List (List Nat × List Nat) := (true, [([], []), ([], []), ([0, 1], [0, 1]), ([], []), ([], []), ([4], [4]), ([0, 1, 2, 4, 5], []), ([6, 2, 5, 0, 1, 2, 4, 5], [2, 6]), ([0, 1, 2, 3, 4, 5, 6, 7], []), ([8, 3, 7, 0, 1, 2, 3, 4, 5, 6, 7], [3, 8])])
def lines_done.B13 : List Nat := [0, 0, 3, 0, 0, 16, 55, 119, 255, 511]
theorem lines_done.tab13 : rtab .any (opsOf Tryd.f34 13) = lines_done.T13 := by kernel_rfl
theorem lines_done.bits13 : waitsOk lines_done.T13.2 lines_done.B13 = true := by kernel_rfl
def lines_done.T14 : Bool × List (List Nat × List Nat) := (true, [([], []), ([], []), ([1], [1]), ([2], [2]), ([3], [3]), ([], []), ([5], [5]), ([4, 6], [4, 6]), ([0, 0, 1, 2, 3, 4, 5, 6, 7], [0]), ([8, 0, 1, 2, 3, 4, 5, 6, 7], [8]), ([9, 7, 7, 0, 1, 2, 3, 4, 5, 6, 7], [7, 9])])
def lines_done.B14 : List Nat := [0, 0, 2, 6, 14, 0, 32, 126, 255, 511, 1023]
theorem lines_done.tab14 : rtab .any (opsOf Tryd.f34 14) = lines_done.T14 := by kernel_rfl
theorem lines_done.bits14 : waitsOk lines_done.T14.2 lines_done.B14 = true := by kernel_rfl

set_option maxHeartbeats 8000000 in
set_option maxRecDepth 100000 in
theorem done_text (k : Nat) (w0 W : World) (p : Nat) (ok : Nat → Prop) (vo vb : Value) (out : List Rw) (bad : List Dg) (line : Int) (whole : ByteArray) (frm : Int) (rest : ByteArray)
    (hB : Below w0.heap.size w0 W) (hX : RdAt p vo vb line whole frm W) (hp : w0.heap.size ≤ p) (hok : ∀ q, W.heap.size ≤ q → ok q) (hpk : ¬ ok p)
    (hS : Kd.S k35 35 W w0.heap.size ok vo out) (hD : Kd.S k37 37 W w0.heap.size ok vb bad) (hl : out.length ≤ 1000000000 ∧ bad.length ≤ 1000000000) (hc : lines_control.f whole = some (rest, false)) :
    Calls Tryd.prog 34 #[.pointer (some ⟨p, 0, none⟩)] W fun e w' => e = .returned (.tuple #[]) ∧ ∃ vo' vb', RdAt p vo' vb' line ⟨#[]⟩ 0 w' ∧ Kd.S k35 35 w' w0.heap.size ok vo' (out ++ [⟨frm, ⟨#[]⟩, [], whole⟩]) ∧ Kd.S k37 37 w' w0.heap.size ok vb' (bad) ∧ Below w0.heap.size w0 w' ∧ Fr ok p W w' := by
  have hu35 := Tryd.underlying35
  have hu55 := Tryd.underlying55
  have HB := Aside0.mk hB
  have HX := Aside0.mk hX
  have HS := Aside0.mk hS
  have HD := Aside0.mk hD
  have HP := Aside0.mk hp
  have HOK := Aside0.mk hok
  have HPK := Aside0.mk hpk
  have HL := Aside0.mk hl
  have HC := Aside0.mk hc
  have HN0 : Aside0 (w0.heap.size ≤ W.heap.size) := ⟨hB.size⟩
  have hx3 : W.cell? ⟨p, 3, none⟩ = some (.string whole) := (blk_cell HX.out 3).trans rfl
  have hx4 : W.cell? ⟨p, 4, none⟩ = some (.int .i64 frm) := (blk_cell HX.out 4).trans rfl
  clear hB hX hS hD hp hok hpk hl hc
  go_enter Tryd.func34, Tryd.ntmps34
  go_wp2
  refine start_ (n := 11) (S := fun w' => w'.cell? ⟨p, 3, none⟩ = some (.string whole) ∧ w'.cell? ⟨p, 4, none⟩ = some (.int .i64 frm)) (ds := []) #[false, false, false, false, false, false, false, false, false, false, false] (by kernel_rfl) rfl rfl ?_ (fun hHeld => ?_)
  · exact ⟨hx3, hx4⟩
  refine with_tabW lines_done.tab0 lines_done.bits0 (fun HT_ HW_ => ?_)
  have HB1 : Aside0 (Below w0.heap.size w0 W.drew) := ⟨below_drew HB.out⟩
  have HX1 : Aside0 (RdAt p vo vb line whole frm W.drew) := ⟨HX.out⟩
  have HS1 := Aside0.mk (Kd.S_mono (ok' := fun q => ok q ∧ q < W.drew.heap.size) (Kd.S_bound (Kd.S_drew HS.out)) (fun q hq => ⟨hq.1, hq.2.2.1⟩))
  have HD1 := Aside0.mk (Kd.S_mono (ok' := fun q => ok q ∧ q < W.drew.heap.size) (Kd.S_bound (Kd.S_drew HD.out)) (fun q hq => ⟨hq.1, hq.2.2.1⟩))
  have HOK1 : Aside0 (∀ q, W.drew.heap.size ≤ q → ok q) := ⟨HOK.out⟩
  have HF1 : Aside0 (Fr ok p W W.drew) := ⟨(Fr.refl ok p W).below (below_drew (Below.refl _ _))⟩
  have HWG : Aside0 (W.heap.size ≤ W.drew.heap.size) := ⟨Nat.le_refl _⟩
  clear HB HX HS HD HOK hx3 hx4
  generalize W.drew = w1 at HB1 HX1 HS1 HD1 HOK1 HF1 HWG hHeld ⊢
  refine pure_ (i := 0) (N := some 8) (v := ?_) (a' := ?_) #[true, false, false, false, false, false, false, false, false, false, false] rfl rfl (any_of HT_.out (by kernel_rfl)) (fun _ _ _ h => h) (Or.inl ⟨by rfl, ?_⟩) ?_ ?_
  rotate_left
  · intro w'
    go_simp
    with_reducible rfl
  rotate_left
  · simp only [Act.put, List.setIfInBounds_toArray, List.set_cons_zero, List.set_cons_succ, i64_w, i32_w]
    rfl
  refine pure_ (i := 1) (N := some 9) (v := ?_) (a' := ?_) #[true, true, false, false, false, false, false, false, false, false, false] rfl rfl (any_of HT_.out (by kernel_rfl)) (fun _ _ _ h => h) (Or.inl ⟨by rfl, ?_⟩) ?_ ?_
  rotate_left
  · intro w'
    go_simp
    with_reducible rfl
  rotate_left
  · simp only [Act.put, List.setIfInBounds_toArray, List.set_cons_zero, List.set_cons_succ, i64_w, i32_w]
    rfl
  refine pure_ (i := 2) (N := some 10) (v := ?_) (a' := ?_) #[true, true, true, false, false, false, false, false, false, false, false] rfl rfl (any_of HT_.out (by kernel_rfl)) (fun _ _ _ h => h) (Or.inl ⟨by rfl, ?_⟩) ?_ ?_
  rotate_left
  · intro w'
    go_simp
    with_reducible rfl
  rotate_left
  · simp only [Act.put, List.setIfInBounds_toArray, List.set_cons_zero, List.set_cons_succ, i64_w, i32_w]
    rfl
  refine take_ (i := 3) (N := some 11) (v := ?_) (a' := ?_) #[true, true, true, true, false, false, false, false, false, false, false] rfl rfl (take_ofW HT_.out HW_.out (by kernel_rfl)) (fun _ _ _ h => h) (Or.inl ⟨by rfl, ?_⟩) hHeld ?_ ?_
  rotate_left
  · rintro w' ⟨s0, s1⟩
    go_simp
    with_reducible rfl
  rotate_left
  · simp only [Act.put, List.setIfInBounds_toArray, List.set_cons_zero, List.set_cons_succ, i64_w, i32_w]
    rfl
  refine pure_ (i := 4) (N := some 12) (v := ?_) (a' := ?_) #[true, true, true, true, true, false, false, false, false, false, false] rfl rfl (any_of HT_.out (by kernel_rfl)) (fun _ _ _ h => h) (Or.inl ⟨by rfl, ?_⟩) ?_ ?_
  rotate_left
  · intro w'
    go_simp
    with_reducible rfl
  rotate_left
  · simp only [Act.put, List.setIfInBounds_toArray, List.set_cons_zero, List.set_cons_succ, i64_w, i32_w]
    rfl
  refine pure_ (i := 5) (N := some 13) (v := ?_) (a' := ?_) #[true, true, true, true, true, true, false, false, false, false, false] rfl rfl (any_of HT_.out (by kernel_rfl)) (fun _ _ _ h => h) (Or.inl ⟨by rfl, ?_⟩) ?_ ?_
  rotate_left
  · intro w'
    go_simp
    with_reducible rfl
  rotate_left
  · simp only [Act.put, List.setIfInBounds_toArray, List.set_cons_zero, List.set_cons_succ, i64_w, i32_w]
    rfl
  refine pure_ (i := 6) (N := some 14) (v := ?_) (a' := ?_) #[true, true, true, true, true, true, true, false, false, false, false] rfl rfl (any_of HT_.out (by kernel_rfl)) (fun _ _ _ h => h) (Or.inl ⟨by rfl, ?_⟩) ?_ ?_
  rotate_left
  · intro w'
    go_simp
    with_reducible rfl
  rotate_left
  · simp only [Act.put, List.setIfInBounds_toArray, List.set_cons_zero, List.set_cons_succ, i64_w, i32_w]
    rfl
  refine take_ (i := 7) (N := some 15) (v := ?_) (a' := ?_) #[true, true, true, true, true, true, true, true, false, false, false] rfl rfl (take_ofW HT_.out HW_.out (by kernel_rfl)) (fun _ _ _ h => h) (Or.inl ⟨by rfl, ?_⟩) hHeld ?_ ?_
  rotate_left
  · rintro w' ⟨s0, s1⟩
    go_simp
    with_reducible rfl
  rotate_left
  · simp only [Act.put, List.setIfInBounds_toArray, List.set_cons_zero, List.set_cons_succ, i64_w, i32_w]
    rfl
  refine pure_ (i := 8) (N := some 16) (v := ?_) (a' := ?_) #[true, true, true, true, true, true, true, true, true, false, false] rfl rfl (any_of HT_.out (by kernel_rfl)) (fun _ _ _ h => h) (Or.inl ⟨by rfl, ?_⟩) ?_ ?_
  rotate_left
  · intro w'
    go_simp
    with_reducible rfl
  rotate_left
  · simp only [Act.put, List.setIfInBounds_toArray, List.set_cons_zero, List.set_cons_succ, i64_w, i32_w]
    rfl
  refine one_ (i := 9) (N := some 2) #[true, true, true, true, true, true, true, true, true, true, false] rfl rfl (one_of HT_.out (by kernel_rfl)) (by decide) (fun K hK => ?_)
  refine value_ (w1 := ?_) (v := ?_) (by rfl) rfl ?_ ?_
  rotate_left 2
  · go_simp
    constructor
    · rfl
    · rfl
  refine hK.out _ _ ⟨Lib.cell?_alloc_some _ hHeld.1, Lib.cell?_alloc_some _ hHeld.2⟩ (fun hHeld => ?_)
  clear hK K
  refine norm_ (a' := ?_) ?_ ?_
  rotate_left
  · show Act.put _ (some 2) _ = _
    simp only [Act.put, List.setIfInBounds_toArray, List.set_cons_zero, List.set_cons_succ, i64_w, i32_w]
    rfl
  have hgb := blk_new w1 (.cells #[.int .i64 0, .string ⟨#[]⟩, .slice none 0 0, .string ⟨#[]⟩] 35)
  have HX2 : Aside0 (RdAt p vo vb line whole frm (w1.alloc (.cells #[.int .i64 0, .string ⟨#[]⟩, .slice none 0 0, .string ⟨#[]⟩] 35))) := ⟨blk_alloc HX1.out _⟩
  have HB2 := Aside0.mk (below_alloc HB1.out (.cells #[.int .i64 0, .string ⟨#[]⟩, .slice none 0 0, .string ⟨#[]⟩] 35))
  have HS2 := Aside0.mk (Kd.S_alloc HS1.out (.cells #[.int .i64 0, .string ⟨#[]⟩, .slice none 0 0, .string ⟨#[]⟩] 35))
  have HD2 := Aside0.mk (Kd.S_alloc HD1.out (.cells #[.int .i64 0, .string ⟨#[]⟩, .slice none 0 0, .string ⟨#[]⟩] 35))
  have HF2 : Aside0 (Fr ok p W (w1.alloc (.cells #[.int .i64 0, .string ⟨#[]⟩, .slice none 0 0, .string ⟨#[]⟩] 35))) := ⟨HF1.out.below (below_alloc (Below.refl _ _) _)⟩
  have hsz : (w1.alloc (.cells #[.int .i64 0, .string ⟨#[]⟩, .slice none 0 0, .string ⟨#[]⟩] 35)).heap.size = w1.heap.size + 1 := by simp
  have HPL : Aside0 (p < w1.heap.size) := ⟨blk_lt HX1.out⟩
  generalize w1.alloc (.cells #[.int .i64 0, .string ⟨#[]⟩, .slice none 0 0, .string ⟨#[]⟩] 35) = w2 at HX2 HB2 HS2 HD2 HF2 hgb hsz hHeld ⊢
  clear HX1 HB1 HS1 HD1 HF1
  generalize w1.heap.size = g at hgb hsz HPL HOK1 HS2 HD2 HWG ⊢
  have HG := Aside0.mk hgb
  have h0 : w2.cell? ⟨g, 0, none⟩ = some (.int .i64 0) := (blk_cell hgb 0).trans rfl
  have h1 : w2.cell? ⟨g, 1, none⟩ = some (.string ⟨#[]⟩) := (blk_cell hgb 1).trans rfl
  have h2 : w2.cell? ⟨g, 2, none⟩ = some (.slice none 0 0) := (blk_cell hgb 2).trans rfl
  have h3 : w2.cell? ⟨g, 3, none⟩ = some (.string ⟨#[]⟩) := (blk_cell hgb 3).trans rfl
  have f0 := blk_frozen hgb 0
  have f1 := blk_frozen hgb 1
  have f2 := blk_frozen hgb 2
  have f3 := blk_frozen hgb 3
  refine one_ (i := 10) (N := none) #[true, true, true, true, true, true, true, true, true, true, true] rfl rfl (one_of HT_.out (by kernel_rfl)) (by decide) (fun K hK => ?_)
  refine skip_ (w1 := ?_) (by rfl) rfl ?_ ?_
  rotate_left
  · go_simp
    rfl
  have hgp : w0.heap.size ≤ g := by have := HPL.out; have := HP.out; omega
  have hpg : p ≠ g := by have := HPL.out; omega
  have HG3 := Aside0.mk (blk_put4 HG.out (.int .i64 frm) (.string ⟨#[]⟩) (.slice none 0 0) (.string whole))
  have HX3 : Aside0 (RdAt p vo vb line whole frm ((((w2.setCell ⟨g, 0, none⟩ (.int .i64 frm)).setCell ⟨g, 1, none⟩ (.string ⟨#[]⟩)).setCell ⟨g, 2, none⟩ (.slice none 0 0)).setCell ⟨g, 3, none⟩ (.string whole))) := ⟨blk_far4 HX2.out hpg (.int .i64 frm) (.string ⟨#[]⟩) (.slice none 0 0) (.string whole)⟩
  have HS3 := Aside0.mk (S_far4 HS2.out (g := g) (fun q hq => by omega) (.int .i64 frm) (.string ⟨#[]⟩) (.slice none 0 0) (.string whole))
  have HD3 := Aside0.mk (S_far4 HD2.out (g := g) (fun q hq => by omega) (.int .i64 frm) (.string ⟨#[]⟩) (.slice none 0 0) (.string whole))
  have HB3 := Aside0.mk (below_set (j := 3) (v := .string whole) (below_set (j := 2) (v := .slice none 0 0) (below_set (j := 1) (v := .string ⟨#[]⟩) (below_set (j := 0) (v := .int .i64 frm) HB2.out hgp) hgp) hgp) hgp)
  have HF3 := Aside0.mk ((((HF2.out.set_new HWG.out 0 (.int .i64 frm)).set_new HWG.out 1 (.string ⟨#[]⟩)).set_new HWG.out 2 (.slice none 0 0)).set_new HWG.out 3 (.string whole))
  have HZ : Aside0 (g < ((((w2.setCell ⟨g, 0, none⟩ (.int .i64 frm)).setCell ⟨g, 1, none⟩ (.string ⟨#[]⟩)).setCell ⟨g, 2, none⟩ (.slice none 0 0)).setCell ⟨g, 3, none⟩ (.string whole)).heap.size) := ⟨by have : w2.heap.size = g + 1 := hsz; simp; omega⟩
  refine hK.out _ _ ⟨(blk_cell HX3.out 3).trans rfl, (blk_cell HX3.out 4).trans rfl⟩ (fun hHeld => ?_)
  clear hK K HX2 HB2 HS2 HD2 HF2 HG h0 h1 h2 h3 f0 f1 f2 f3 hgb hsz
  generalize (((w2.setCell ⟨g, 0, none⟩ (.int .i64 frm)).setCell ⟨g, 1, none⟩ (.string ⟨#[]⟩)).setCell ⟨g, 2, none⟩ (.slice none 0 0)).setCell ⟨g, 3, none⟩ (.string whole) = w3 at HG3 HX3 HS3 HD3 HB3 HF3 HZ hHeld ⊢
  refine done_ (done_of HT_.out (by kernel_rfl)) ?_
  have hx3 := hHeld.1
  clear hHeld
  have HG := HG3
  have HX := HX3
  have HS := Aside0.mk (Kd.S_mono (ok' := fun q => ok q ∧ q ≠ g) HS3.out (fun q hq => ⟨hq.1, by omega⟩))
  have HD := Aside0.mk (Kd.S_mono (ok' := fun q => ok q ∧ q ≠ g) HD3.out (fun q hq => ⟨hq.1, by omega⟩))
  have HB := HB3
  have HF := HF3
  have HPG := Aside0.mk hpg
  have HGB := Aside0.mk hgp
  have HGW := HWG
  have HOK : Aside0 (∀ q, g < q → ok q ∧ q ≠ g) := ⟨fun q hq => ⟨HOK1.out q (by omega), by omega⟩⟩
  clear HG3 HX3 HS3 HD3 HB3 HF3 hpg hgp HWG HOK1
  go_wp2_with (go_at_call 52; refine (lines_control.calls whole rest false _ HC.out).mono ?_; rintro e w4 ⟨rfl, hb⟩; have mX := Aside0.mk (blk_below HX.out hb); have mG := Aside0.mk (blk_below HG.out hb); have mS := Aside0.mk (Kd.S_below HS.out hb); have mD := Aside0.mk (Kd.S_below HD.out hb); have mB := Aside0.mk (below_step HB.out hb); have mF := Aside0.mk (HF.out.below hb); have mZ := Aside0.mk (Nat.lt_of_lt_of_le HZ.out hb.size); clear HX HG HS HD HB HF HZ; have HX := mX; have HG := mG; have HS := mS; have HD := mD; have HB := mB; have HF := mF; have HZ := mZ; clear mX mG mS mD mB mF mZ; have hx3 : w4.cell? ⟨p, 3, none⟩ = some (.string whole) := (blk_cell HX.out 3).trans rfl; have hx4 : w4.cell? ⟨p, 4, none⟩ = some (.int .i64 frm) := (blk_cell HX.out 4).trans rfl; have hf3 := blk_frozen HX.out 3; have hf4 := blk_frozen HX.out 4; clear hb)
  have mX : Aside0 (RdAt p vo vb line ⟨#[]⟩ 0 ((w4.setCell ⟨p, 3, none⟩ (.string ⟨#[]⟩)).setCell ⟨p, 4, none⟩ (.int .i64 0))) := ⟨blk_put (blk_put HX.out 3 _ rfl) 4 _ rfl⟩
  have mG : Aside0 (((w4.setCell ⟨p, 3, none⟩ (.string ⟨#[]⟩)).setCell ⟨p, 4, none⟩ (.int .i64 0)).heap[g]? = some (.cells #[.int .i64 frm, .string ⟨#[]⟩, .slice none 0 0, .string whole] 35 (0, 0))) := ⟨blk_far (blk_far HG.out (Ne.symm HPG.out) _) (Ne.symm HPG.out) _⟩
  have mS := Aside0.mk (Kd.S_far (p := ⟨p, 4, none⟩) (Kd.S_far (p := ⟨p, 3, none⟩) HS.out (fun q hq => ne_ok HPK.out (hq.1)) (.string ⟨#[]⟩)) (fun q hq => ne_ok HPK.out (hq.1)) (.int .i64 0))
  have mD := Aside0.mk (Kd.S_far (p := ⟨p, 4, none⟩) (Kd.S_far (p := ⟨p, 3, none⟩) HD.out (fun q hq => ne_ok HPK.out (hq.1)) (.string ⟨#[]⟩)) (fun q hq => ne_ok HPK.out (hq.1)) (.int .i64 0))
  have mB := Aside0.mk (below_set (j := 4) (v := .int .i64 0) (below_set (j := 3) (v := .string ⟨#[]⟩) HB.out HP.out) HP.out)
  have mF := Aside0.mk ((HF.out.set_p HX.out 3 (.string ⟨#[]⟩)).set_p (blk_put HX.out 3 _ rfl) 4 (.int .i64 0))
  have mZ : Aside0 (g < ((w4.setCell ⟨p, 3, none⟩ (.string ⟨#[]⟩)).setCell ⟨p, 4, none⟩ (.int .i64 0)).heap.size) := ⟨by simpa using HZ.out⟩
  clear HX HG HS HD HB HF HZ
  have HX := mX
  have HG := mG
  have HS := mS
  have HD := mD
  have HB := mB
  have HF := mF
  have HZ := mZ
  clear mX mG mS mD mB mF mZ
  clear hx3 hx4 hf3 hf4
  generalize ((w4.setCell ⟨p, 3, none⟩ (.string ⟨#[]⟩)).setCell ⟨p, 4, none⟩ (.int .i64 0)) = w5 at HX HG HS HD HB HF HZ ⊢
  obtain ⟨Av, cv, rfl⟩ := Kd.S_slice HS.out
  refine start_ (n := 11) (S := fun w' => w'.cell? ⟨p, 0, none⟩ = some (.slice Av out.length cv) ∧ w'.cell? ⟨g, 0, none⟩ = some (.int .i64 frm) ∧ w'.cell? ⟨g, 1, none⟩ = some (.string ⟨#[]⟩) ∧ w'.cell? ⟨g, 2, none⟩ = some (.slice none 0 0) ∧ w'.cell? ⟨g, 3, none⟩ = some (.string whole)) (ds := [10]) #[false, false, false, false, false, false, false, false, false, false, false] (by kernel_rfl) rfl rfl ?_ (fun hHeld => ?_)
  · exact ⟨(blk_cell HX.out 0).trans rfl, (blk_cell HG.out 0).trans rfl, (blk_cell HG.out 1).trans rfl, (blk_cell HG.out 2).trans rfl, (blk_cell HG.out 3).trans rfl⟩
  refine with_tabW lines_done.tab4 lines_done.bits4 (fun HT_ HW_ => ?_)
  have mHX : Aside0 (RdAt p (.slice Av out.length cv) vb line ⟨#[]⟩ 0 (w5.drew)) := ⟨HX.out⟩
  have mHG : Aside0 ((w5.drew).heap[g]? = some (.cells #[.int .i64 frm, .string ⟨#[]⟩, .slice none 0 0, .string whole] 35 (0, 0))) := ⟨HG.out⟩
  have mHS : Aside0 (Kd.S k35 35 (w5.drew) w0.heap.size (fun q => ok q ∧ q ≠ g) (.slice Av out.length cv) out) := ⟨Kd.S_drew HS.out⟩
  have mHD : Aside0 (Kd.S k37 37 (w5.drew) w0.heap.size (fun q => ok q ∧ q ≠ g) vb bad) := ⟨Kd.S_drew HD.out⟩
  have mHB : Aside0 (Below w0.heap.size w0 (w5.drew)) := ⟨below_drew HB.out⟩
  have mHF : Aside0 (Fr ok p W (w5.drew)) := ⟨HF.out.below (below_drew (Below.refl _ _))⟩
  have mHZ : Aside0 (g < (w5.drew).heap.size) := ⟨HZ.out⟩
  clear HX HG HS HD HB HF HZ
  have HX := mHX
  have HG := mHG
  have HS := mHS
  have HD := mHD
  have HB := mHB
  have HF := mHF
  have HZ := mHZ
  clear mHX mHG mHS mHD mHB mHF mHZ
  generalize w5.drew = w6 at HX HG HS HD HB HF HZ hHeld ⊢
  refine pure_ (i := 0) (N := some 33) (v := ?_) (a' := ?_) #[true, false, false, false, false, false, false, false, false, false, false] rfl rfl (any_of HT_.out (by kernel_rfl)) (fun _ _ _ h => h) (Or.inl ⟨by rfl, ?_⟩) ?_ ?_
  rotate_left
  · intro w'
    go_simp
    with_reducible rfl
  rotate_left
  · simp only [Act.put, List.setIfInBounds_toArray, List.set_cons_zero, List.set_cons_succ, i64_w, i32_w]
    rfl
  refine pure_ (i := 1) (N := some 34) (v := ?_) (a' := ?_) #[true, true, false, false, false, false, false, false, false, false, false] rfl rfl (any_of HT_.out (by kernel_rfl)) (fun _ _ _ h => h) (Or.inl ⟨by rfl, ?_⟩) ?_ ?_
  rotate_left
  · intro w'
    go_simp
    with_reducible rfl
  rotate_left
  · simp only [Act.put, List.setIfInBounds_toArray, List.set_cons_zero, List.set_cons_succ, i64_w, i32_w]
    rfl
  refine pure_ (i := 2) (N := some 35) (v := ?_) (a' := ?_) #[true, true, true, false, false, false, false, false, false, false, false] rfl rfl (any_of HT_.out (by kernel_rfl)) (fun _ _ _ h => h) (Or.inl ⟨by rfl, ?_⟩) ?_ ?_
  rotate_left
  · intro w'
    go_simp
    with_reducible rfl
  rotate_left
  · simp only [Act.put, List.setIfInBounds_toArray, List.set_cons_zero, List.set_cons_succ, i64_w, i32_w]
    rfl
  refine pure_ (i := 3) (N := some 36) (v := ?_) (a' := ?_) #[true, true, true, true, false, false, false, false, false, false, false] rfl rfl (any_of HT_.out (by kernel_rfl)) (fun _ _ _ h => h) (Or.inl ⟨by rfl, ?_⟩) ?_ ?_
  rotate_left
  · intro w'
    go_simp
    with_reducible rfl
  rotate_left
  · simp only [Act.put, List.setIfInBounds_toArray, List.set_cons_zero, List.set_cons_succ, i64_w, i32_w]
    rfl
  refine take_ (i := 4) (N := some 37) (v := ?_) (a' := ?_) #[true, true, true, true, true, false, false, false, false, false, false] rfl rfl (take_ofW HT_.out HW_.out (by kernel_rfl)) (fun _ _ _ h => h) (Or.inl ⟨by rfl, ?_⟩) hHeld ?_ ?_
  rotate_left
  · rintro w' ⟨s0, s1, s2, s3, s4⟩
    go_simp
    with_reducible rfl
  rotate_left
  · simp only [Act.put, List.setIfInBounds_toArray, List.set_cons_zero, List.set_cons_succ, i64_w, i32_w]
    rfl
  refine take_ (i := 5) (N := some 38) (v := ?_) (a' := ?_) #[true, true, true, true, true, true, false, false, false, false, false] rfl rfl (take_ofW HT_.out HW_.out (by kernel_rfl)) (fun _ _ _ h => h) (Or.inl ⟨by rfl, ?_⟩) hHeld ?_ ?_
  rotate_left
  · rintro w' ⟨s0, s1, s2, s3, s4⟩
    go_simp
    with_reducible rfl
  rotate_left
  · simp only [Act.put, List.setIfInBounds_toArray, List.set_cons_zero, List.set_cons_succ, i64_w, i32_w]
    rfl
  refine one_ (i := 6) (N := some 39) #[true, true, true, true, true, true, true, false, false, false, false] rfl rfl (one_of HT_.out (by kernel_rfl)) (by decide) (fun K hK => ?_)
  refine value_ (w1 := ?_) (v := ?_) (by rfl) rfl ?_ ?_
  rotate_left 2
  · go_simp
    constructor
    · rfl
    · rfl
  refine hK.out _ _ ⟨Lib.cell?_alloc_some _ hHeld.1, Lib.cell?_alloc_some _ hHeld.2.1, Lib.cell?_alloc_some _ hHeld.2.2.1, Lib.cell?_alloc_some _ hHeld.2.2.2.1, Lib.cell?_alloc_some _ hHeld.2.2.2.2⟩ (fun hHeld => ?_)
  clear hK K
  refine norm_ (a' := ?_) ?_ ?_
  rotate_left
  · show Act.put _ (some 39) _ = _
    simp only [Act.put, List.setIfInBounds_toArray, List.set_cons_zero, List.set_cons_succ, i64_w, i32_w]
    rfl
  refine one_ (i := 7) (N := some 40) #[true, true, true, true, true, true, true, true, false, false, false] rfl rfl (one_of HT_.out (by kernel_rfl)) (by decide) (fun K hK => ?_)
  refine Kd.S_append_step k35 (w0 := w0) w0.heap.size (by rfl) (.tmp 37) (.tmp 39) 30 35 (.agg #[(.int .i64 0), (.string ⟨#[]⟩), (.slice none 0 0), (.string ⟨#[]⟩)]) 64 rfl Tryd.underlying30 info35 rfl (by decide) (by omega) (.slice Av out.length cv) out ⟨frm, ⟨#[]⟩, [], whole⟩ [.int .i64 frm, .string ⟨#[]⟩, .slice none 0 0, .string whole] (fun q => ok q ∧ q ≠ g) (fun _ => False) rfl rfl ?aP ?aK ?aF ?aO ?aB ?aS ?aL ?_
  case aP => exact k35_mkM _ _ _ _ (Kd.R_nil _ _ _ _ _)
  case aK => exact fun q hq => hq.elim
  case aF => exact fun q hq => HOK.out q (by have := HZ.out; omega)
  case aO => exact Kd.S_mono HS.out (fun q hq => ⟨hq, fun e => e⟩)
  case aB => exact HB.out
  case aS => exact HB.out.size
  case aL => have := HL.out.1; omega
  intro v7 w7 hs7 hb7 hg7 hat7
  have hrow : ∀ q, ((.slice Av out.length cv) : Value).ownBlock = some q → ok q ∧ q ≠ p ∧ q ≠ g := fun q hq => by
    have h1 := (Kd.S_R HS.out).1 q hq
    exact ⟨h1.1, fun e => HPK.out (e ▸ h1.1), h1.2⟩
  obtain ⟨O7, hO7⟩ : ∃ O7, O7 = out ++ [⟨frm, ⟨#[]⟩, [], whole⟩] := ⟨_, rfl⟩
  rw [← hO7] at hs7
  obtain ⟨A7, c7, rfl⟩ := Kd.S_slice hs7
  have mX : Aside0 (RdAt p (.slice Av out.length cv) vb line ⟨#[]⟩ 0 w7) := ⟨blk_grown HX.out hg7 (fun e => (hrow p e.symm).2.1 rfl)⟩
  have mG : Aside0 (w7.heap[g]? = some (.cells #[.int .i64 frm, .string ⟨#[]⟩, .slice none 0 0, .string whole] 35 (0, 0))) := ⟨blk_grown HG.out hg7 (fun e => (hrow g e.symm).2.2 rfl)⟩
  have mD : Aside0 (Kd.S k37 37 w7 w0.heap.size (fun q => ok q ∧ q ≠ g) vb bad) := ⟨Kd.S_over' HD.out (Kd.S_typed HS.out) (by decide) hg7⟩
  have mF : Aside0 (Fr ok p W w7) := ⟨HF.out.grown hg7 (fun q hq => ⟨(hrow q hq).1, by obtain ⟨cells, hc⟩ := Kd.S_typed HS.out q hq; exact ⟨_, _, _, hc⟩⟩)⟩
  have mS := Aside0.mk hs7
  have mB := Aside0.mk hb7
  have HO7 := Aside0.mk hO7
  clear HX HG HS HD HB HF HZ hs7 hb7 hg7 hat7 hrow hO7
  refine hK.out _ _ ⟨(blk_cell mX.out 0).trans rfl, (blk_cell mG.out 0).trans rfl, (blk_cell mG.out 1).trans rfl, (blk_cell mG.out 2).trans rfl, (blk_cell mG.out 3).trans rfl⟩ (fun hHeld => ?_)
  clear hK K hHeld
  refine norm_ (a' := ?_) ?_ ?_
  rotate_left
  · show Act.put _ (some 40) _ = _
    simp only [Act.put, List.setIfInBounds_toArray, List.set_cons_zero, List.set_cons_succ, i64_w, i32_w]
    rfl
  have hx0 : w7.cell? ⟨p, 0, none⟩ = some (.slice Av out.length cv) := (blk_cell mX.out 0).trans rfl
  have hf0 := blk_frozen mX.out 0
  refine pure_ (i := 8) (N := some 41) (v := ?_) (a' := ?_) #[true, true, true, true, true, true, true, true, true, false, false] rfl rfl (any_of HT_.out (by kernel_rfl)) (fun _ _ _ h => h) (Or.inl ⟨by rfl, ?_⟩) ?_ ?_
  rotate_left
  · intro w'
    go_simp
    with_reducible rfl
  rotate_left
  · simp only [Act.put, List.setIfInBounds_toArray, List.set_cons_zero, List.set_cons_succ, i64_w, i32_w]
    rfl
  refine pure_ (i := 9) (N := some 42) (v := ?_) (a' := ?_) #[true, true, true, true, true, true, true, true, true, true, false] rfl rfl (any_of HT_.out (by kernel_rfl)) (fun _ _ _ h => h) (Or.inl ⟨by rfl, ?_⟩) ?_ ?_
  rotate_left
  · intro w'
    go_simp
    with_reducible rfl
  rotate_left
  · simp only [Act.put, List.setIfInBounds_toArray, List.set_cons_zero, List.set_cons_succ, i64_w, i32_w]
    rfl
  refine last_ (i := 10) (N := none) #[true, true, true, true, true, true, true, true, true, true, true] rfl rfl (one_of HT_.out (by kernel_rfl)) (by decide) (fun K hK => ?_)
  refine skip_ (w1 := ?_) (by rfl) rfl ?_ ?_
  rotate_left
  · go_simp
    rfl
  refine hK.out _ _ ?_
  clear hK K hx0 hf0
  refine done_ (done_of HT_.out (by kernel_rfl)) ?_
  go_wp2
  first | go_end0 | ((try simp only [Exit.inBlock, Exit.then]); refine bodyPost_ret (results_none rfl _ _ _) rfl ?_)
  have e_ := HO7.out
  clear HO7
  subst e_
  exact ⟨rfl, _, _, blk_put mX.out 0 _ rfl, Kd.S_mono (Kd.S_far (p := ⟨p, 0, none⟩) mS.out (fun q hq => ne_ok HPK.out (hq.1)) _) (fun q hq => hq.1), Kd.S_mono (Kd.S_far (p := ⟨p, 0, none⟩) mD.out (fun q hq => ne_ok HPK.out (hq.1)) _) (fun q hq => hq.1), below_set mB.out HP.out, mF.out.set_p mX.out 0 _⟩
set_option maxHeartbeats 8000000 in
set_option maxRecDepth 100000 in
theorem done_bare (k : Nat) (w0 W : World) (p : Nat) (ok : Nat → Prop) (vo vb : Value) (out : List Rw) (bad : List Dg) (line : Int) (whole : ByteArray) (frm : Int) (rest : ByteArray)
    (hB : Below w0.heap.size w0 W) (hX : RdAt p vo vb line whole frm W) (hp : w0.heap.size ≤ p) (hok : ∀ q, W.heap.size ≤ q → ok q) (hpk : ¬ ok p)
    (hS : Kd.S k35 35 W w0.heap.size ok vo out) (hD : Kd.S k37 37 W w0.heap.size ok vb bad) (hl : out.length ≤ 1000000000 ∧ bad.length ≤ 1000000000)
    (hc : lines_control.f whole = some (rest, true)) (hrs : rest.size ≤ 4294960000) (hi : strings_IndexAny.f (rest ++ ⟨#[32]⟩) ⟨#[32, 9]⟩ = some 0) :
    Calls Tryd.prog 34 #[.pointer (some ⟨p, 0, none⟩)] W fun e w' => e = .returned (.tuple #[]) ∧ ∃ vo' vb', RdAt p vo' vb' line ⟨#[]⟩ 0 w' ∧ Kd.S k35 35 w' w0.heap.size ok vo' (out) ∧ Kd.S k37 37 w' w0.heap.size ok vb' (bad) ∧ Below w0.heap.size w0 w' ∧ Fr ok p W w' := by
  have hu35 := Tryd.underlying35
  have hu55 := Tryd.underlying55
  have HB := Aside0.mk hB
  have HX := Aside0.mk hX
  have HS := Aside0.mk hS
  have HD := Aside0.mk hD
  have HP := Aside0.mk hp
  have HOK := Aside0.mk hok
  have HPK := Aside0.mk hpk
  have HL := Aside0.mk hl
  have HC := Aside0.mk hc
  have HN0 : Aside0 (w0.heap.size ≤ W.heap.size) := ⟨hB.size⟩
  have hx3 : W.cell? ⟨p, 3, none⟩ = some (.string whole) := (blk_cell HX.out 3).trans rfl
  have hx4 : W.cell? ⟨p, 4, none⟩ = some (.int .i64 frm) := (blk_cell HX.out 4).trans rfl
  clear hB hX hS hD hp hok hpk hl hc
  go_enter Tryd.func34, Tryd.ntmps34
  go_wp2
  refine start_ (n := 11) (S := fun w' => w'.cell? ⟨p, 3, none⟩ = some (.string whole) ∧ w'.cell? ⟨p, 4, none⟩ = some (.int .i64 frm)) (ds := []) #[false, false, false, false, false, false, false, false, false, false, false] (by kernel_rfl) rfl rfl ?_ (fun hHeld => ?_)
  · exact ⟨hx3, hx4⟩
  refine with_tabW lines_done.tab0 lines_done.bits0 (fun HT_ HW_ => ?_)
  have HB1 : Aside0 (Below w0.heap.size w0 W.drew) := ⟨below_drew HB.out⟩
  have HX1 : Aside0 (RdAt p vo vb line whole frm W.drew) := ⟨HX.out⟩
  have HS1 := Aside0.mk (Kd.S_mono (ok' := fun q => ok q ∧ q < W.drew.heap.size) (Kd.S_bound (Kd.S_drew HS.out)) (fun q hq => ⟨hq.1, hq.2.2.1⟩))
  have HD1 := Aside0.mk (Kd.S_mono (ok' := fun q => ok q ∧ q < W.drew.heap.size) (Kd.S_bound (Kd.S_drew HD.out)) (fun q hq => ⟨hq.1, hq.2.2.1⟩))
  have HOK1 : Aside0 (∀ q, W.drew.heap.size ≤ q → ok q) := ⟨HOK.out⟩
  have HF1 : Aside0 (Fr ok p W W.drew) := ⟨(Fr.refl ok p W).below (below_drew (Below.refl _ _))⟩
  have HWG : Aside0 (W.heap.size ≤ W.drew.heap.size) := ⟨Nat.le_refl _⟩
  clear HB HX HS HD HOK hx3 hx4
  generalize W.drew = w1 at HB1 HX1 HS1 HD1 HOK1 HF1 HWG hHeld ⊢
  refine pure_ (i := 0) (N := some 8) (v := ?_) (a' := ?_) #[true, false, false, false, false, false, false, false, false, false, false] rfl rfl (any_of HT_.out (by kernel_rfl)) (fun _ _ _ h => h) (Or.inl ⟨by rfl, ?_⟩) ?_ ?_
  rotate_left
  · intro w'
    go_simp
    with_reducible rfl
  rotate_left
  · simp only [Act.put, List.setIfInBounds_toArray, List.set_cons_zero, List.set_cons_succ, i64_w, i32_w]
    rfl
  refine pure_ (i := 1) (N := some 9) (v := ?_) (a' := ?_) #[true, true, false, false, false, false, false, false, false, false, false] rfl rfl (any_of HT_.out (by kernel_rfl)) (fun _ _ _ h => h) (Or.inl ⟨by rfl, ?_⟩) ?_ ?_
  rotate_left
  · intro w'
    go_simp
    with_reducible rfl
  rotate_left
  · simp only [Act.put, List.setIfInBounds_toArray, List.set_cons_zero, List.set_cons_succ, i64_w, i32_w]
    rfl
  refine pure_ (i := 2) (N := some 10) (v := ?_) (a' := ?_) #[true, true, true, false, false, false, false, false, false, false, false] rfl rfl (any_of HT_.out (by kernel_rfl)) (fun _ _ _ h => h) (Or.inl ⟨by rfl, ?_⟩) ?_ ?_
  rotate_left
  · intro w'
    go_simp
    with_reducible rfl
  rotate_left
  · simp only [Act.put, List.setIfInBounds_toArray, List.set_cons_zero, List.set_cons_succ, i64_w, i32_w]
    rfl
  refine take_ (i := 3) (N := some 11) (v := ?_) (a' := ?_) #[true, true, true, true, false, false, false, false, false, false, false] rfl rfl (take_ofW HT_.out HW_.out (by kernel_rfl)) (fun _ _ _ h => h) (Or.inl ⟨by rfl, ?_⟩) hHeld ?_ ?_
  rotate_left
  · rintro w' ⟨s0, s1⟩
    go_simp
    with_reducible rfl
  rotate_left
  · simp only [Act.put, List.setIfInBounds_toArray, List.set_cons_zero, List.set_cons_succ, i64_w, i32_w]
    rfl
  refine pure_ (i := 4) (N := some 12) (v := ?_) (a' := ?_) #[true, true, true, true, true, false, false, false, false, false, false] rfl rfl (any_of HT_.out (by kernel_rfl)) (fun _ _ _ h => h) (Or.inl ⟨by rfl, ?_⟩) ?_ ?_
  rotate_left
  · intro w'
    go_simp
    with_reducible rfl
  rotate_left
  · simp only [Act.put, List.setIfInBounds_toArray, List.set_cons_zero, List.set_cons_succ, i64_w, i32_w]
    rfl
  refine pure_ (i := 5) (N := some 13) (v := ?_) (a' := ?_) #[true, true, true, true, true, true, false, false, false, false, false] rfl rfl (any_of HT_.out (by kernel_rfl)) (fun _ _ _ h => h) (Or.inl ⟨by rfl, ?_⟩) ?_ ?_
  rotate_left
  · intro w'
    go_simp
    with_reducible rfl
  rotate_left
  · simp only [Act.put, List.setIfInBounds_toArray, List.set_cons_zero, List.set_cons_succ, i64_w, i32_w]
    rfl
  refine pure_ (i := 6) (N := some 14) (v := ?_) (a' := ?_) #[true, true, true, true, true, true, true, false, false, false, false] rfl rfl (any_of HT_.out (by kernel_rfl)) (fun _ _ _ h => h) (Or.inl ⟨by rfl, ?_⟩) ?_ ?_
  rotate_left
  · intro w'
    go_simp
    with_reducible rfl
  rotate_left
  · simp only [Act.put, List.setIfInBounds_toArray, List.set_cons_zero, List.set_cons_succ, i64_w, i32_w]
    rfl
  refine take_ (i := 7) (N := some 15) (v := ?_) (a' := ?_) #[true, true, true, true, true, true, true, true, false, false, false] rfl rfl (take_ofW HT_.out HW_.out (by kernel_rfl)) (fun _ _ _ h => h) (Or.inl ⟨by rfl, ?_⟩) hHeld ?_ ?_
  rotate_left
  · rintro w' ⟨s0, s1⟩
    go_simp
    with_reducible rfl
  rotate_left
  · simp only [Act.put, List.setIfInBounds_toArray, List.set_cons_zero, List.set_cons_succ, i64_w, i32_w]
    rfl
  refine pure_ (i := 8) (N := some 16) (v := ?_) (a' := ?_) #[true, true, true, true, true, true, true, true, true, false, false] rfl rfl (any_of HT_.out (by kernel_rfl)) (fun _ _ _ h => h) (Or.inl ⟨by rfl, ?_⟩) ?_ ?_
  rotate_left
  · intro w'
    go_simp
    with_reducible rfl
  rotate_left
  · simp only [Act.put, List.setIfInBounds_toArray, List.set_cons_zero, List.set_cons_succ, i64_w, i32_w]
    rfl
  refine one_ (i := 9) (N := some 2) #[true, true, true, true, true, true, true, true, true, true, false] rfl rfl (one_of HT_.out (by kernel_rfl)) (by decide) (fun K hK => ?_)
  refine value_ (w1 := ?_) (v := ?_) (by rfl) rfl ?_ ?_
  rotate_left 2
  · go_simp
    constructor
    · rfl
    · rfl
  refine hK.out _ _ ⟨Lib.cell?_alloc_some _ hHeld.1, Lib.cell?_alloc_some _ hHeld.2⟩ (fun hHeld => ?_)
  clear hK K
  refine norm_ (a' := ?_) ?_ ?_
  rotate_left
  · show Act.put _ (some 2) _ = _
    simp only [Act.put, List.setIfInBounds_toArray, List.set_cons_zero, List.set_cons_succ, i64_w, i32_w]
    rfl
  have hgb := blk_new w1 (.cells #[.int .i64 0, .string ⟨#[]⟩, .slice none 0 0, .string ⟨#[]⟩] 35)
  have HX2 : Aside0 (RdAt p vo vb line whole frm (w1.alloc (.cells #[.int .i64 0, .string ⟨#[]⟩, .slice none 0 0, .string ⟨#[]⟩] 35))) := ⟨blk_alloc HX1.out _⟩
  have HB2 := Aside0.mk (below_alloc HB1.out (.cells #[.int .i64 0, .string ⟨#[]⟩, .slice none 0 0, .string ⟨#[]⟩] 35))
  have HS2 := Aside0.mk (Kd.S_alloc HS1.out (.cells #[.int .i64 0, .string ⟨#[]⟩, .slice none 0 0, .string ⟨#[]⟩] 35))
  have HD2 := Aside0.mk (Kd.S_alloc HD1.out (.cells #[.int .i64 0, .string ⟨#[]⟩, .slice none 0 0, .string ⟨#[]⟩] 35))
  have HF2 : Aside0 (Fr ok p W (w1.alloc (.cells #[.int .i64 0, .string ⟨#[]⟩, .slice none 0 0, .string ⟨#[]⟩] 35))) := ⟨HF1.out.below (below_alloc (Below.refl _ _) _)⟩
  have hsz : (w1.alloc (.cells #[.int .i64 0, .string ⟨#[]⟩, .slice none 0 0, .string ⟨#[]⟩] 35)).heap.size = w1.heap.size + 1 := by simp
  have HPL : Aside0 (p < w1.heap.size) := ⟨blk_lt HX1.out⟩
  generalize w1.alloc (.cells #[.int .i64 0, .string ⟨#[]⟩, .slice none 0 0, .string ⟨#[]⟩] 35) = w2 at HX2 HB2 HS2 HD2 HF2 hgb hsz hHeld ⊢
  clear HX1 HB1 HS1 HD1 HF1
  generalize w1.heap.size = g at hgb hsz HPL HOK1 HS2 HD2 HWG ⊢
  have HG := Aside0.mk hgb
  have h0 : w2.cell? ⟨g, 0, none⟩ = some (.int .i64 0) := (blk_cell hgb 0).trans rfl
  have h1 : w2.cell? ⟨g, 1, none⟩ = some (.string ⟨#[]⟩) := (blk_cell hgb 1).trans rfl
  have h2 : w2.cell? ⟨g, 2, none⟩ = some (.slice none 0 0) := (blk_cell hgb 2).trans rfl
  have h3 : w2.cell? ⟨g, 3, none⟩ = some (.string ⟨#[]⟩) := (blk_cell hgb 3).trans rfl
  have f0 := blk_frozen hgb 0
  have f1 := blk_frozen hgb 1
  have f2 := blk_frozen hgb 2
  have f3 := blk_frozen hgb 3
  refine one_ (i := 10) (N := none) #[true, true, true, true, true, true, true, true, true, true, true] rfl rfl (one_of HT_.out (by kernel_rfl)) (by decide) (fun K hK => ?_)
  refine skip_ (w1 := ?_) (by rfl) rfl ?_ ?_
  rotate_left
  · go_simp
    rfl
  have hgp : w0.heap.size ≤ g := by have := HPL.out; have := HP.out; omega
  have hpg : p ≠ g := by have := HPL.out; omega
  have HG3 := Aside0.mk (blk_put4 HG.out (.int .i64 frm) (.string ⟨#[]⟩) (.slice none 0 0) (.string whole))
  have HX3 : Aside0 (RdAt p vo vb line whole frm ((((w2.setCell ⟨g, 0, none⟩ (.int .i64 frm)).setCell ⟨g, 1, none⟩ (.string ⟨#[]⟩)).setCell ⟨g, 2, none⟩ (.slice none 0 0)).setCell ⟨g, 3, none⟩ (.string whole))) := ⟨blk_far4 HX2.out hpg (.int .i64 frm) (.string ⟨#[]⟩) (.slice none 0 0) (.string whole)⟩
  have HS3 := Aside0.mk (S_far4 HS2.out (g := g) (fun q hq => by omega) (.int .i64 frm) (.string ⟨#[]⟩) (.slice none 0 0) (.string whole))
  have HD3 := Aside0.mk (S_far4 HD2.out (g := g) (fun q hq => by omega) (.int .i64 frm) (.string ⟨#[]⟩) (.slice none 0 0) (.string whole))
  have HB3 := Aside0.mk (below_set (j := 3) (v := .string whole) (below_set (j := 2) (v := .slice none 0 0) (below_set (j := 1) (v := .string ⟨#[]⟩) (below_set (j := 0) (v := .int .i64 frm) HB2.out hgp) hgp) hgp) hgp)
  have HF3 := Aside0.mk ((((HF2.out.set_new HWG.out 0 (.int .i64 frm)).set_new HWG.out 1 (.string ⟨#[]⟩)).set_new HWG.out 2 (.slice none 0 0)).set_new HWG.out 3 (.string whole))
  have HZ : Aside0 (g < ((((w2.setCell ⟨g, 0, none⟩ (.int .i64 frm)).setCell ⟨g, 1, none⟩ (.string ⟨#[]⟩)).setCell ⟨g, 2, none⟩ (.slice none 0 0)).setCell ⟨g, 3, none⟩ (.string whole)).heap.size) := ⟨by have : w2.heap.size = g + 1 := hsz; simp; omega⟩
  refine hK.out _ _ ⟨(blk_cell HX3.out 3).trans rfl, (blk_cell HX3.out 4).trans rfl⟩ (fun hHeld => ?_)
  clear hK K HX2 HB2 HS2 HD2 HF2 HG h0 h1 h2 h3 f0 f1 f2 f3 hgb hsz
  generalize (((w2.setCell ⟨g, 0, none⟩ (.int .i64 frm)).setCell ⟨g, 1, none⟩ (.string ⟨#[]⟩)).setCell ⟨g, 2, none⟩ (.slice none 0 0)).setCell ⟨g, 3, none⟩ (.string whole) = w3 at HG3 HX3 HS3 HD3 HB3 HF3 HZ hHeld ⊢
  refine done_ (done_of HT_.out (by kernel_rfl)) ?_
  have hx3 := hHeld.1
  clear hHeld
  have HG := HG3
  have HX := HX3
  have HS := Aside0.mk (Kd.S_mono (ok' := fun q => ok q ∧ q ≠ g) HS3.out (fun q hq => ⟨hq.1, by omega⟩))
  have HD := Aside0.mk (Kd.S_mono (ok' := fun q => ok q ∧ q ≠ g) HD3.out (fun q hq => ⟨hq.1, by omega⟩))
  have HB := HB3
  have HF := HF3
  have HPG := Aside0.mk hpg
  have HGB := Aside0.mk hgp
  have HGW := HWG
  have HOK : Aside0 (∀ q, g < q → ok q ∧ q ≠ g) := ⟨fun q hq => ⟨HOK1.out q (by omega), by omega⟩⟩
  clear HG3 HX3 HS3 HD3 HB3 HF3 hpg hgp HWG HOK1
  have e1_ : rest.size + 1 ≤ 9223372036854775807 := by omega
  have e2_ := eq_true e1_
  have e3_ := eq_false (Nat.not_lt.2 e1_)
  have HI := Aside0.mk hi
  clear hi
  go_wp2_with (first | (go_at_call 52; refine (lines_control.calls whole rest true _ HC.out).mono ?_; rintro e w4 ⟨rfl, hb⟩; have mX := Aside0.mk (blk_below HX.out hb); have mG := Aside0.mk (blk_below HG.out hb); have mS := Aside0.mk (Kd.S_below HS.out hb); have mD := Aside0.mk (Kd.S_below HD.out hb); have mB := Aside0.mk (below_step HB.out hb); have mF := Aside0.mk (HF.out.below hb); have mZ := Aside0.mk (Nat.lt_of_lt_of_le HZ.out hb.size); clear HX HG HS HD HB HF HZ; have HX := mX; have HG := mG; have HS := mS; have HD := mD; have HB := mB; have HF := mF; have HZ := mZ; clear mX mG mS mD mB mF mZ; have hx3 : w4.cell? ⟨p, 3, none⟩ = some (.string whole) := (blk_cell HX.out 3).trans rfl; have hx4 : w4.cell? ⟨p, 4, none⟩ = some (.int .i64 frm) := (blk_cell HX.out 4).trans rfl; have hf3 := blk_frozen HX.out 3; have hf4 := blk_frozen HX.out 4; clear hb) | (go_at_call 54; refine (strings_IndexAny.calls _ _ 0 _ HI.out).mono ?_; rintro e w6 ⟨rfl, hb⟩; have mX : Aside0 (RdAt p vo vb line ⟨#[]⟩ 0 ((w4.setCell ⟨p, 3, none⟩ (.string ⟨#[]⟩)).setCell ⟨p, 4, none⟩ (.int .i64 0))) := ⟨blk_put (blk_put HX.out 3 _ rfl) 4 _ rfl⟩; have mG : Aside0 (((w4.setCell ⟨p, 3, none⟩ (.string ⟨#[]⟩)).setCell ⟨p, 4, none⟩ (.int .i64 0)).heap[g]? = some (.cells #[.int .i64 frm, .string ⟨#[]⟩, .slice none 0 0, .string whole] 35 (0, 0))) := ⟨blk_far (blk_far HG.out (Ne.symm HPG.out) _) (Ne.symm HPG.out) _⟩; have mS := Aside0.mk (Kd.S_far (p := ⟨p, 4, none⟩) (Kd.S_far (p := ⟨p, 3, none⟩) HS.out (fun q hq => ne_ok HPK.out (hq.1)) (.string ⟨#[]⟩)) (fun q hq => ne_ok HPK.out (hq.1)) (.int .i64 0)); have mD := Aside0.mk (Kd.S_far (p := ⟨p, 4, none⟩) (Kd.S_far (p := ⟨p, 3, none⟩) HD.out (fun q hq => ne_ok HPK.out (hq.1)) (.string ⟨#[]⟩)) (fun q hq => ne_ok HPK.out (hq.1)) (.int .i64 0)); have mB := Aside0.mk (below_set (j := 4) (v := .int .i64 0) (below_set (j := 3) (v := .string ⟨#[]⟩) HB.out HP.out) HP.out); have mF := Aside0.mk ((HF.out.set_p HX.out 3 (.string ⟨#[]⟩)).set_p (blk_put HX.out 3 _ rfl) 4 (.int .i64 0)); have mZ : Aside0 (g < ((w4.setCell ⟨p, 3, none⟩ (.string ⟨#[]⟩)).setCell ⟨p, 4, none⟩ (.int .i64 0)).heap.size) := ⟨by simpa using HZ.out⟩; clear HX HG HS HD HB HF HZ; have HX := mX; have HG := mG; have HS := mS; have HD := mD; have HB := mB; have HF := mF; have HZ := mZ; clear mX mG mS mD mB mF mZ; have mX := Aside0.mk (blk_below HX.out hb); have mG := Aside0.mk (blk_below HG.out hb); have mS := Aside0.mk (Kd.S_below HS.out hb); have mD := Aside0.mk (Kd.S_below HD.out hb); have mB := Aside0.mk (below_step HB.out hb); have mF := Aside0.mk (HF.out.below hb); have mZ := Aside0.mk (Nat.lt_of_lt_of_le HZ.out hb.size); clear HX HG HS HD HB HF HZ; have HX := mX; have HG := mG; have HS := mS; have HD := mD; have HB := mB; have HF := mF; have HZ := mZ; clear mX mG mS mD mB mF mZ; clear hx3 hx4 hf3 hf4 hb))
  first | go_end0 | ((try simp only [Exit.inBlock, Exit.then]); refine bodyPost_ret (results_none rfl _ _ _) rfl ?_)
  exact ⟨rfl, _, _, HX.out, Kd.S_mono HS.out (fun q hq => hq.1), Kd.S_mono HD.out (fun q hq => hq.1), HB.out, HF.out⟩
set_option maxHeartbeats 8000000 in
set_option maxRecDepth 100000 in
theorem done_macro00 (k : Nat) (w0 W : World) (p : Nat) (ok : Nat → Prop) (vo vb : Value) (out : List Rw) (bad : List Dg) (line : Int) (whole : ByteArray) (frm : Int) (rest : ByteArray) (n : Int) (l : List ByteArray)
    (hB : Below w0.heap.size w0 W) (hX : RdAt p vo vb line whole frm W) (hp : w0.heap.size ≤ p) (hok : ∀ q, W.heap.size ≤ q → ok q) (hpk : ¬ ok p)
    (hS : Kd.S k35 35 W w0.heap.size ok vo out) (hD : Kd.S k37 37 W w0.heap.size ok vb bad) (hl : out.length ≤ 1000000000 ∧ bad.length ≤ 1000000000)
    (hc : lines_control.f whole = some (rest, true)) (hrs : rest.size ≤ 4294960000) (hi : strings_IndexAny.f (rest ++ ⟨#[32]⟩) ⟨#[32, 9]⟩ = some n) (hn : n ≠ 0) (hn0 : 0 ≤ n) (hnr : n ≤ rest.size)
    (hr : lines_Args.f k (rest.extract n.toNat rest.size) = some (l, true)) (hbig : ¬ (200 : Int) < (l.length : Int)) :
    Calls Tryd.prog 34 #[.pointer (some ⟨p, 0, none⟩)] W fun e w' => e = .returned (.tuple #[]) ∧ ∃ vo' vb', RdAt p vo' vb' line ⟨#[]⟩ 0 w' ∧ Kd.S k35 35 w' w0.heap.size ok vo' (out ++ [⟨frm, rest.extract 0 n.toNat, l, ⟨#[]⟩⟩]) ∧ Kd.S k37 37 w' w0.heap.size ok vb' (bad) ∧ Below w0.heap.size w0 w' ∧ Fr ok p W w' := by
  have hu35 := Tryd.underlying35
  have hu55 := Tryd.underlying55
  have HB := Aside0.mk hB
  have HX := Aside0.mk hX
  have HS := Aside0.mk hS
  have HD := Aside0.mk hD
  have HP := Aside0.mk hp
  have HOK := Aside0.mk hok
  have HPK := Aside0.mk hpk
  have HL := Aside0.mk hl
  have HC := Aside0.mk hc
  have HN0 : Aside0 (w0.heap.size ≤ W.heap.size) := ⟨hB.size⟩
  have hx3 : W.cell? ⟨p, 3, none⟩ = some (.string whole) := (blk_cell HX.out 3).trans rfl
  have hx4 : W.cell? ⟨p, 4, none⟩ = some (.int .i64 frm) := (blk_cell HX.out 4).trans rfl
  clear hB hX hS hD hp hok hpk hl hc
  go_enter Tryd.func34, Tryd.ntmps34
  go_wp2
  refine start_ (n := 11) (S := fun w' => w'.cell? ⟨p, 3, none⟩ = some (.string whole) ∧ w'.cell? ⟨p, 4, none⟩ = some (.int .i64 frm)) (ds := []) #[false, false, false, false, false, false, false, false, false, false, false] (by kernel_rfl) rfl rfl ?_ (fun hHeld => ?_)
  · exact ⟨hx3, hx4⟩
  refine with_tabW lines_done.tab0 lines_done.bits0 (fun HT_ HW_ => ?_)
  have HB1 : Aside0 (Below w0.heap.size w0 W.drew) := ⟨below_drew HB.out⟩
  have HX1 : Aside0 (RdAt p vo vb line whole frm W.drew) := ⟨HX.out⟩
  have HS1 := Aside0.mk (Kd.S_mono (ok' := fun q => ok q ∧ q < W.drew.heap.size) (Kd.S_bound (Kd.S_drew HS.out)) (fun q hq => ⟨hq.1, hq.2.2.1⟩))
  have HD1 := Aside0.mk (Kd.S_mono (ok' := fun q => ok q ∧ q < W.drew.heap.size) (Kd.S_bound (Kd.S_drew HD.out)) (fun q hq => ⟨hq.1, hq.2.2.1⟩))
  have HOK1 : Aside0 (∀ q, W.drew.heap.size ≤ q → ok q) := ⟨HOK.out⟩
  have HF1 : Aside0 (Fr ok p W W.drew) := ⟨(Fr.refl ok p W).below (below_drew (Below.refl _ _))⟩
  have HWG : Aside0 (W.heap.size ≤ W.drew.heap.size) := ⟨Nat.le_refl _⟩
  clear HB HX HS HD HOK hx3 hx4
  generalize W.drew = w1 at HB1 HX1 HS1 HD1 HOK1 HF1 HWG hHeld ⊢
  refine pure_ (i := 0) (N := some 8) (v := ?_) (a' := ?_) #[true, false, false, false, false, false, false, false, false, false, false] rfl rfl (any_of HT_.out (by kernel_rfl)) (fun _ _ _ h => h) (Or.inl ⟨by rfl, ?_⟩) ?_ ?_
  rotate_left
  · intro w'
    go_simp
    with_reducible rfl
  rotate_left
  · simp only [Act.put, List.setIfInBounds_toArray, List.set_cons_zero, List.set_cons_succ, i64_w, i32_w]
    rfl
  refine pure_ (i := 1) (N := some 9) (v := ?_) (a' := ?_) #[true, true, false, false, false, false, false, false, false, false, false] rfl rfl (any_of HT_.out (by kernel_rfl)) (fun _ _ _ h => h) (Or.inl ⟨by rfl, ?_⟩) ?_ ?_
  rotate_left
  · intro w'
    go_simp
    with_reducible rfl
  rotate_left
  · simp only [Act.put, List.setIfInBounds_toArray, List.set_cons_zero, List.set_cons_succ, i64_w, i32_w]
    rfl
  refine pure_ (i := 2) (N := some 10) (v := ?_) (a' := ?_) #[true, true, true, false, false, false, false, false, false, false, false] rfl rfl (any_of HT_.out (by kernel_rfl)) (fun _ _ _ h => h) (Or.inl ⟨by rfl, ?_⟩) ?_ ?_
  rotate_left
  · intro w'
    go_simp
    with_reducible rfl
  rotate_left
  · simp only [Act.put, List.setIfInBounds_toArray, List.set_cons_zero, List.set_cons_succ, i64_w, i32_w]
    rfl
  refine take_ (i := 3) (N := some 11) (v := ?_) (a' := ?_) #[true, true, true, true, false, false, false, false, false, false, false] rfl rfl (take_ofW HT_.out HW_.out (by kernel_rfl)) (fun _ _ _ h => h) (Or.inl ⟨by rfl, ?_⟩) hHeld ?_ ?_
  rotate_left
  · rintro w' ⟨s0, s1⟩
    go_simp
    with_reducible rfl
  rotate_left
  · simp only [Act.put, List.setIfInBounds_toArray, List.set_cons_zero, List.set_cons_succ, i64_w, i32_w]
    rfl
  refine pure_ (i := 4) (N := some 12) (v := ?_) (a' := ?_) #[true, true, true, true, true, false, false, false, false, false, false] rfl rfl (any_of HT_.out (by kernel_rfl)) (fun _ _ _ h => h) (Or.inl ⟨by rfl, ?_⟩) ?_ ?_
  rotate_left
  · intro w'
    go_simp
    with_reducible rfl
  rotate_left
  · simp only [Act.put, List.setIfInBounds_toArray, List.set_cons_zero, List.set_cons_succ, i64_w, i32_w]
    rfl
  refine pure_ (i := 5) (N := some 13) (v := ?_) (a' := ?_) #[true, true, true, true, true, true, false, false, false, false, false] rfl rfl (any_of HT_.out (by kernel_rfl)) (fun _ _ _ h => h) (Or.inl ⟨by rfl, ?_⟩) ?_ ?_
  rotate_left
  · intro w'
    go_simp
    with_reducible rfl
  rotate_left
  · simp only [Act.put, List.setIfInBounds_toArray, List.set_cons_zero, List.set_cons_succ, i64_w, i32_w]
    rfl
  refine pure_ (i := 6) (N := some 14) (v := ?_) (a' := ?_) #[true, true, true, true, true, true, true, false, false, false, false] rfl rfl (any_of HT_.out (by kernel_rfl)) (fun _ _ _ h => h) (Or.inl ⟨by rfl, ?_⟩) ?_ ?_
  rotate_left
  · intro w'
    go_simp
    with_reducible rfl
  rotate_left
  · simp only [Act.put, List.setIfInBounds_toArray, List.set_cons_zero, List.set_cons_succ, i64_w, i32_w]
    rfl
  refine take_ (i := 7) (N := some 15) (v := ?_) (a' := ?_) #[true, true, true, true, true, true, true, true, false, false, false] rfl rfl (take_ofW HT_.out HW_.out (by kernel_rfl)) (fun _ _ _ h => h) (Or.inl ⟨by rfl, ?_⟩) hHeld ?_ ?_
  rotate_left
  · rintro w' ⟨s0, s1⟩
    go_simp
    with_reducible rfl
  rotate_left
  · simp only [Act.put, List.setIfInBounds_toArray, List.set_cons_zero, List.set_cons_succ, i64_w, i32_w]
    rfl
  refine pure_ (i := 8) (N := some 16) (v := ?_) (a' := ?_) #[true, true, true, true, true, true, true, true, true, false, false] rfl rfl (any_of HT_.out (by kernel_rfl)) (fun _ _ _ h => h) (Or.inl ⟨by rfl, ?_⟩) ?_ ?_
  rotate_left
  · intro w'
    go_simp
    with_reducible rfl
  rotate_left
  · simp only [Act.put, List.setIfInBounds_toArray, List.set_cons_zero, List.set_cons_succ, i64_w, i32_w]
    rfl
  refine one_ (i := 9) (N := some 2) #[true, true, true, true, true, true, true, true, true, true, false] rfl rfl (one_of HT_.out (by kernel_rfl)) (by decide) (fun K hK => ?_)
  refine value_ (w1 := ?_) (v := ?_) (by rfl) rfl ?_ ?_
  rotate_left 2
  · go_simp
    constructor
    · rfl
    · rfl
  refine hK.out _ _ ⟨Lib.cell?_alloc_some _ hHeld.1, Lib.cell?_alloc_some _ hHeld.2⟩ (fun hHeld => ?_)
  clear hK K
  refine norm_ (a' := ?_) ?_ ?_
  rotate_left
  · show Act.put _ (some 2) _ = _
    simp only [Act.put, List.setIfInBounds_toArray, List.set_cons_zero, List.set_cons_succ, i64_w, i32_w]
    rfl
  have hgb := blk_new w1 (.cells #[.int .i64 0, .string ⟨#[]⟩, .slice none 0 0, .string ⟨#[]⟩] 35)
  have HX2 : Aside0 (RdAt p vo vb line whole frm (w1.alloc (.cells #[.int .i64 0, .string ⟨#[]⟩, .slice none 0 0, .string ⟨#[]⟩] 35))) := ⟨blk_alloc HX1.out _⟩
  have HB2 := Aside0.mk (below_alloc HB1.out (.cells #[.int .i64 0, .string ⟨#[]⟩, .slice none 0 0, .string ⟨#[]⟩] 35))
  have HS2 := Aside0.mk (Kd.S_alloc HS1.out (.cells #[.int .i64 0, .string ⟨#[]⟩, .slice none 0 0, .string ⟨#[]⟩] 35))
  have HD2 := Aside0.mk (Kd.S_alloc HD1.out (.cells #[.int .i64 0, .string ⟨#[]⟩, .slice none 0 0, .string ⟨#[]⟩] 35))
  have HF2 : Aside0 (Fr ok p W (w1.alloc (.cells #[.int .i64 0, .string ⟨#[]⟩, .slice none 0 0, .string ⟨#[]⟩] 35))) := ⟨HF1.out.below (below_alloc (Below.refl _ _) _)⟩
  have hsz : (w1.alloc (.cells #[.int .i64 0, .string ⟨#[]⟩, .slice none 0 0, .string ⟨#[]⟩] 35)).heap.size = w1.heap.size + 1 := by simp
  have HPL : Aside0 (p < w1.heap.size) := ⟨blk_lt HX1.out⟩
  generalize w1.alloc (.cells #[.int .i64 0, .string ⟨#[]⟩, .slice none 0 0, .string ⟨#[]⟩] 35) = w2 at HX2 HB2 HS2 HD2 HF2 hgb hsz hHeld ⊢
  clear HX1 HB1 HS1 HD1 HF1
  generalize w1.heap.size = g at hgb hsz HPL HOK1 HS2 HD2 HWG ⊢
  have HG := Aside0.mk hgb
  have h0 : w2.cell? ⟨g, 0, none⟩ = some (.int .i64 0) := (blk_cell hgb 0).trans rfl
  have h1 : w2.cell? ⟨g, 1, none⟩ = some (.string ⟨#[]⟩) := (blk_cell hgb 1).trans rfl
  have h2 : w2.cell? ⟨g, 2, none⟩ = some (.slice none 0 0) := (blk_cell hgb 2).trans rfl
  have h3 : w2.cell? ⟨g, 3, none⟩ = some (.string ⟨#[]⟩) := (blk_cell hgb 3).trans rfl
  have f0 := blk_frozen hgb 0
  have f1 := blk_frozen hgb 1
  have f2 := blk_frozen hgb 2
  have f3 := blk_frozen hgb 3
  refine one_ (i := 10) (N := none) #[true, true, true, true, true, true, true, true, true, true, true] rfl rfl (one_of HT_.out (by kernel_rfl)) (by decide) (fun K hK => ?_)
  refine skip_ (w1 := ?_) (by rfl) rfl ?_ ?_
  rotate_left
  · go_simp
    rfl
  have hgp : w0.heap.size ≤ g := by have := HPL.out; have := HP.out; omega
  have hpg : p ≠ g := by have := HPL.out; omega
  have HG3 := Aside0.mk (blk_put4 HG.out (.int .i64 frm) (.string ⟨#[]⟩) (.slice none 0 0) (.string whole))
  have HX3 : Aside0 (RdAt p vo vb line whole frm ((((w2.setCell ⟨g, 0, none⟩ (.int .i64 frm)).setCell ⟨g, 1, none⟩ (.string ⟨#[]⟩)).setCell ⟨g, 2, none⟩ (.slice none 0 0)).setCell ⟨g, 3, none⟩ (.string whole))) := ⟨blk_far4 HX2.out hpg (.int .i64 frm) (.string ⟨#[]⟩) (.slice none 0 0) (.string whole)⟩
  have HS3 := Aside0.mk (S_far4 HS2.out (g := g) (fun q hq => by omega) (.int .i64 frm) (.string ⟨#[]⟩) (.slice none 0 0) (.string whole))
  have HD3 := Aside0.mk (S_far4 HD2.out (g := g) (fun q hq => by omega) (.int .i64 frm) (.string ⟨#[]⟩) (.slice none 0 0) (.string whole))
  have HB3 := Aside0.mk (below_set (j := 3) (v := .string whole) (below_set (j := 2) (v := .slice none 0 0) (below_set (j := 1) (v := .string ⟨#[]⟩) (below_set (j := 0) (v := .int .i64 frm) HB2.out hgp) hgp) hgp) hgp)
  have HF3 := Aside0.mk ((((HF2.out.set_new HWG.out 0 (.int .i64 frm)).set_new HWG.out 1 (.string ⟨#[]⟩)).set_new HWG.out 2 (.slice none 0 0)).set_new HWG.out 3 (.string whole))
  have HZ : Aside0 (g < ((((w2.setCell ⟨g, 0, none⟩ (.int .i64 frm)).setCell ⟨g, 1, none⟩ (.string ⟨#[]⟩)).setCell ⟨g, 2, none⟩ (.slice none 0 0)).setCell ⟨g, 3, none⟩ (.string whole)).heap.size) := ⟨by have : w2.heap.size = g + 1 := hsz; simp; omega⟩
  refine hK.out _ _ ⟨(blk_cell HX3.out 3).trans rfl, (blk_cell HX3.out 4).trans rfl⟩ (fun hHeld => ?_)
  clear hK K HX2 HB2 HS2 HD2 HF2 HG h0 h1 h2 h3 f0 f1 f2 f3 hgb hsz
  generalize (((w2.setCell ⟨g, 0, none⟩ (.int .i64 frm)).setCell ⟨g, 1, none⟩ (.string ⟨#[]⟩)).setCell ⟨g, 2, none⟩ (.slice none 0 0)).setCell ⟨g, 3, none⟩ (.string whole) = w3 at HG3 HX3 HS3 HD3 HB3 HF3 HZ hHeld ⊢
  refine done_ (done_of HT_.out (by kernel_rfl)) ?_
  have hx3 := hHeld.1
  clear hHeld
  have HG := HG3
  have HX := HX3
  have HS := Aside0.mk (Kd.S_mono (ok' := fun q => ok q ∧ q ≠ g) HS3.out (fun q hq => ⟨hq.1, by omega⟩))
  have HD := Aside0.mk (Kd.S_mono (ok' := fun q => ok q ∧ q ≠ g) HD3.out (fun q hq => ⟨hq.1, by omega⟩))
  have HB := HB3
  have HF := HF3
  have HPG := Aside0.mk hpg
  have HGB := Aside0.mk hgp
  have HGW := HWG
  have HOK : Aside0 (∀ q, g < q → ok q ∧ q ≠ g) := ⟨fun q hq => ⟨HOK1.out q (by omega), by omega⟩⟩
  clear HG3 HX3 HS3 HD3 HB3 HF3 hpg hgp HWG HOK1
  have e1_ : rest.size + 1 ≤ 9223372036854775807 := by omega
  have e2_ := eq_true e1_
  have e3_ := eq_false (Nat.not_lt.2 e1_)
  have HI := Aside0.mk hi
  clear hi
  have HR := Aside0.mk hr
  clear hr
  have n0_ : (n == 0) = false := beq_eq_false_iff_ne.2 hn
  have c1_ : (0 : Int) ≤ n := hn0
  have c2_ : n ≤ (rest.size : Int) := hnr
  go_wp2_with (first | (go_at_call 52; refine (lines_control.calls whole rest true _ HC.out).mono ?_; rintro e w4 ⟨rfl, hb⟩; have mX := Aside0.mk (blk_below HX.out hb); have mG := Aside0.mk (blk_below HG.out hb); have mS := Aside0.mk (Kd.S_below HS.out hb); have mD := Aside0.mk (Kd.S_below HD.out hb); have mB := Aside0.mk (below_step HB.out hb); have mF := Aside0.mk (HF.out.below hb); have mZ := Aside0.mk (Nat.lt_of_lt_of_le HZ.out hb.size); clear HX HG HS HD HB HF HZ; have HX := mX; have HG := mG; have HS := mS; have HD := mD; have HB := mB; have HF := mF; have HZ := mZ; clear mX mG mS mD mB mF mZ; have hx3 : w4.cell? ⟨p, 3, none⟩ = some (.string whole) := (blk_cell HX.out 3).trans rfl; have hx4 : w4.cell? ⟨p, 4, none⟩ = some (.int .i64 frm) := (blk_cell HX.out 4).trans rfl; have hf3 := blk_frozen HX.out 3; have hf4 := blk_frozen HX.out 4; clear hb) | (go_at_call 54; refine (strings_IndexAny.calls _ _ n _ HI.out).mono ?_; rintro e w6 ⟨rfl, hb⟩; have mX : Aside0 (RdAt p vo vb line ⟨#[]⟩ 0 ((w4.setCell ⟨p, 3, none⟩ (.string ⟨#[]⟩)).setCell ⟨p, 4, none⟩ (.int .i64 0))) := ⟨blk_put (blk_put HX.out 3 _ rfl) 4 _ rfl⟩; have mG : Aside0 (((w4.setCell ⟨p, 3, none⟩ (.string ⟨#[]⟩)).setCell ⟨p, 4, none⟩ (.int .i64 0)).heap[g]? = some (.cells #[.int .i64 frm, .string ⟨#[]⟩, .slice none 0 0, .string whole] 35 (0, 0))) := ⟨blk_far (blk_far HG.out (Ne.symm HPG.out) _) (Ne.symm HPG.out) _⟩; have mS := Aside0.mk (Kd.S_far (p := ⟨p, 4, none⟩) (Kd.S_far (p := ⟨p, 3, none⟩) HS.out (fun q hq => ne_ok HPK.out (hq.1)) (.string ⟨#[]⟩)) (fun q hq => ne_ok HPK.out (hq.1)) (.int .i64 0)); have mD := Aside0.mk (Kd.S_far (p := ⟨p, 4, none⟩) (Kd.S_far (p := ⟨p, 3, none⟩) HD.out (fun q hq => ne_ok HPK.out (hq.1)) (.string ⟨#[]⟩)) (fun q hq => ne_ok HPK.out (hq.1)) (.int .i64 0)); have mB := Aside0.mk (below_set (j := 4) (v := .int .i64 0) (below_set (j := 3) (v := .string ⟨#[]⟩) HB.out HP.out) HP.out); have mF := Aside0.mk ((HF.out.set_p HX.out 3 (.string ⟨#[]⟩)).set_p (blk_put HX.out 3 _ rfl) 4 (.int .i64 0)); have mZ : Aside0 (g < ((w4.setCell ⟨p, 3, none⟩ (.string ⟨#[]⟩)).setCell ⟨p, 4, none⟩ (.int .i64 0)).heap.size) := ⟨by simpa using HZ.out⟩; clear HX HG HS HD HB HF HZ; have HX := mX; have HG := mG; have HS := mS; have HD := mD; have HB := mB; have HF := mF; have HZ := mZ; clear mX mG mS mD mB mF mZ; have mX := Aside0.mk (blk_below HX.out hb); have mG := Aside0.mk (blk_below HG.out hb); have mS := Aside0.mk (Kd.S_below HS.out hb); have mD := Aside0.mk (Kd.S_below HD.out hb); have mB := Aside0.mk (below_step HB.out hb); have mF := Aside0.mk (HF.out.below hb); have mZ := Aside0.mk (Nat.lt_of_lt_of_le HZ.out hb.size); clear HX HG HS HD HB HF HZ; have HX := mX; have HG := mG; have HS := mS; have HD := mD; have HB := mB; have HF := mF; have HZ := mZ; clear mX mG mS mD mB mF mZ; clear hx3 hx4 hf3 hf4 hb) | (go_at_call 12; refine (lines_Args.calls k (rest.extract n.toNat rest.size) l true _ HR.out).mono ?_; rintro e w7 ⟨va, rfl, hra, hb⟩; have HA := Aside0.mk (Kd.R_mono (ok' := fun q => w6.heap.size ≤ q ∧ q ≠ g ∧ q ≠ p) (Kd.R_lower (Kd.R_bound hra) HB.out.size) (fun q hq => ⟨hq.2.1, by have h1_ := hq.2.1; have h2_ := HZ.out; have h3_ := blk_lt HX.out; omega, by have h1_ := hq.2.1; have h3_ := blk_lt HX.out; omega⟩)); have HNG : Aside0 (g < w6.heap.size) := ⟨HZ.out⟩; have mX := Aside0.mk (blk_below HX.out hb); have mG := Aside0.mk (blk_below HG.out hb); have mS := Aside0.mk (Kd.S_old HS.out hb); have mD := Aside0.mk (Kd.S_below HD.out hb); have mB := Aside0.mk (below_step HB.out hb); have mF := Aside0.mk (HF.out.below hb); have mZ := Aside0.mk (Nat.lt_of_lt_of_le HZ.out hb.size); clear HX HG HS HD HB HF HZ; have HX := mX; have HG := mG; have HS := mS; have HD := mD; have HB := mB; have HF := mF; have HZ := mZ; clear mX mG mS mD mB mF mZ; obtain ⟨Aa, ca, rfl, hca, _⟩ := Kd.R_reads hra; have HCA := Aside0.mk hca; clear hra hb hca))
  obtain ⟨N, hN⟩ : ∃ N, N = w6.heap.size := ⟨_, rfl⟩
  rw [← hN] at HA HNG HS
  clear hN
  refine start_ (n := 10) (S := fun _ => True) (ds := []) #[false, false, false, false, false, false, false, false, false, false] (by kernel_rfl) rfl rfl trivial (fun hHeld => ?_)
  refine with_tabW lines_done.tab13 lines_done.bits13 (fun HT_ HW_ => ?_)
  clear hHeld
  have mHX : Aside0 (RdAt p vo vb line ⟨#[]⟩ 0 (w7.drew)) := ⟨HX.out⟩
  have mHG : Aside0 ((w7.drew).heap[g]? = some (.cells #[.int .i64 frm, .string ⟨#[]⟩, .slice none 0 0, .string whole] 35 (0, 0))) := ⟨HG.out⟩
  have mHS : Aside0 (Kd.S k35 35 (w7.drew) w0.heap.size (fun q => (ok q ∧ q ≠ g) ∧ q < N) vo out) := ⟨Kd.S_drew HS.out⟩
  have mHD : Aside0 (Kd.S k37 37 (w7.drew) w0.heap.size (fun q => ok q ∧ q ≠ g) vb bad) := ⟨Kd.S_drew HD.out⟩
  have mHB : Aside0 (Below w0.heap.size w0 (w7.drew)) := ⟨below_drew HB.out⟩
  have mHF : Aside0 (Fr ok p W (w7.drew)) := ⟨HF.out.below (below_drew (Below.refl _ _))⟩
  have mHZ : Aside0 (g < (w7.drew).heap.size) := ⟨HZ.out⟩
  have mHA : Aside0 (Kd.R Kd.string 9 (w7.drew) w0.heap.size (fun q => N ≤ q ∧ q ≠ g ∧ q ≠ p) (.slice Aa l.length ca) l) := ⟨Kd.R_drew HA.out⟩
  clear HX HG HS HD HB HF HZ HA
  have HX := mHX
  have HG := mHG
  have HS := mHS
  have HD := mHD
  have HB := mHB
  have HF := mHF
  have HZ := mHZ
  have HA := mHA
  clear mHX mHG mHS mHD mHB mHF mHZ mHA
  generalize w7.drew = w6 at HX HG HS HD HB HF HZ HA ⊢
  refine pure_ (i := 0) (N := some 86) (v := ?_) (a' := ?_) #[true, false, false, false, false, false, false, false, false, false] rfl rfl (any_of HT_.out (by kernel_rfl)) (fun _ _ _ h => h) (Or.inl ⟨by rfl, ?_⟩) ?_ ?_
  rotate_left
  · intro w'
    go_simp
    with_reducible rfl
  rotate_left
  · simp only [Act.put, List.setIfInBounds_toArray, List.set_cons_zero, List.set_cons_succ, i64_w, i32_w]
    rfl
  refine pure_ (i := 1) (N := some 87) (v := ?_) (a' := ?_) #[true, true, false, false, false, false, false, false, false, false] rfl rfl (any_of HT_.out (by kernel_rfl)) (fun _ _ _ h => h) (Or.inl ⟨by rfl, ?_⟩) ?_ ?_
  rotate_left
  · intro w'
    go_simp
    with_reducible rfl
  rotate_left
  · simp only [Act.put, List.setIfInBounds_toArray, List.set_cons_zero, List.set_cons_succ, i64_w, i32_w]
    rfl
  refine pure_ (i := 2) (N := some 88) (v := ?_) (a' := ?_) #[true, true, true, false, false, false, false, false, false, false] rfl rfl (any_of HT_.out (by kernel_rfl)) (fun _ _ _ h => h) (Or.inl ⟨by rfl, ?_⟩) ?_ ?_
  rotate_left
  · intro w'
    go_simp
    with_reducible rfl
  rotate_left
  · simp only [Act.put, List.setIfInBounds_toArray, List.set_cons_zero, List.set_cons_succ, i64_w, i32_w]
    rfl
  refine pure_ (i := 3) (N := some 89) (v := ?_) (a' := ?_) #[true, true, true, true, false, false, false, false, false, false] rfl rfl (any_of HT_.out (by kernel_rfl)) (fun _ _ _ h => h) (Or.inl ⟨by rfl, ?_⟩) ?_ ?_
  rotate_left
  · intro w'
    go_simp
    with_reducible rfl
  rotate_left
  · simp only [Act.put, List.setIfInBounds_toArray, List.set_cons_zero, List.set_cons_succ, i64_w, i32_w]
    rfl
  refine pure_ (i := 4) (N := some 90) (v := ?_) (a' := ?_) #[true, true, true, true, true, false, false, false, false, false] rfl rfl (any_of HT_.out (by kernel_rfl)) (fun _ _ _ h => h) (Or.inl ⟨by rfl, ?_⟩) ?_ ?_
  rotate_left
  · intro w'
    go_simp
    with_reducible rfl
  rotate_left
  · simp only [Act.put, List.setIfInBounds_toArray, List.set_cons_zero, List.set_cons_succ, i64_w, i32_w]
    rfl
  have hgc : w6.cell? ⟨g, 3, none⟩ = some (.string whole) := (blk_cell HG.out 3).trans rfl
  have hgf := blk_frozen HG.out 3
  refine one_ (i := 5) (N := none) #[true, true, true, true, true, true, false, false, false, false] rfl rfl (one_of HT_.out (by kernel_rfl)) (by decide) (fun K hK => ?_)
  refine skip_ (w1 := ?_) (by rfl) rfl ?_ ?_
  rotate_left
  · go_simp
    rfl
  refine hK.out _ _ trivial (fun hHeld => ?_)
  clear hK K hgc hgf hHeld
  have mHX : Aside0 (RdAt p vo vb line ⟨#[]⟩ 0 (w6.setCell ⟨g, 3, none⟩ (.string ⟨#[]⟩))) := ⟨blk_far HX.out HPG.out _⟩
  have mHG : Aside0 ((w6.setCell ⟨g, 3, none⟩ (.string ⟨#[]⟩)).heap[g]? = some (.cells #[.int .i64 frm, .string ⟨#[]⟩, .slice none 0 0, .string ⟨#[]⟩] 35 (0, 0))) := ⟨blk_put HG.out 3 _ rfl⟩
  have mHS : Aside0 (Kd.S k35 35 (w6.setCell ⟨g, 3, none⟩ (.string ⟨#[]⟩)) w0.heap.size (fun q => (ok q ∧ q ≠ g) ∧ q < N) vo out) := ⟨Kd.S_far (p := ⟨g, 3, none⟩) HS.out (fun q hq => hq.1.2) _⟩
  have mHD : Aside0 (Kd.S k37 37 (w6.setCell ⟨g, 3, none⟩ (.string ⟨#[]⟩)) w0.heap.size (fun q => ok q ∧ q ≠ g) vb bad) := ⟨Kd.S_far (p := ⟨g, 3, none⟩) HD.out (fun q hq => hq.2) _⟩
  have mHB : Aside0 (Below w0.heap.size w0 (w6.setCell ⟨g, 3, none⟩ (.string ⟨#[]⟩))) := ⟨below_set HB.out HGB.out⟩
  have mHF : Aside0 (Fr ok p W (w6.setCell ⟨g, 3, none⟩ (.string ⟨#[]⟩))) := ⟨HF.out.set_new HGW.out 3 _⟩
  have mHZ : Aside0 (g < (w6.setCell ⟨g, 3, none⟩ (.string ⟨#[]⟩)).heap.size) := ⟨by simpa using HZ.out⟩
  have mHA : Aside0 (Kd.R Kd.string 9 (w6.setCell ⟨g, 3, none⟩ (.string ⟨#[]⟩)) w0.heap.size (fun q => N ≤ q ∧ q ≠ g ∧ q ≠ p) (.slice Aa l.length ca) l) := ⟨Kd.R_far (p := ⟨g, 3, none⟩) HA.out (fun q hq => hq.2.1) _⟩
  clear HX HG HS HD HB HF HZ HA
  have HX := mHX
  have HG := mHG
  have HS := mHS
  have HD := mHD
  have HB := mHB
  have HF := mHF
  have HZ := mHZ
  have HA := mHA
  clear mHX mHG mHS mHD mHB mHF mHZ mHA
  generalize w6.setCell ⟨g, 3, none⟩ (.string ⟨#[]⟩) = w7 at HX HG HS HD HB HF HZ HA ⊢
  refine pure_ (i := 6) (N := some 91) (v := ?_) (a' := ?_) #[true, true, true, true, true, true, true, false, false, false] rfl rfl (any_of HT_.out (by kernel_rfl)) (fun _ _ _ h => h) (Or.inl ⟨by rfl, ?_⟩) ?_ ?_
  rotate_left
  · intro w'
    go_simp
    with_reducible rfl
  rotate_left
  · simp only [Act.put, List.setIfInBounds_toArray, List.set_cons_zero, List.set_cons_succ, i64_w, i32_w]
    rfl
  have hgc : w7.cell? ⟨g, 1, none⟩ = some (.string ⟨#[]⟩) := (blk_cell HG.out 1).trans rfl
  have hgf := blk_frozen HG.out 1
  refine one_ (i := 7) (N := none) #[true, true, true, true, true, true, true, true, false, false] rfl rfl (one_of HT_.out (by kernel_rfl)) (by decide) (fun K hK => ?_)
  refine skip_ (w1 := ?_) (by rfl) rfl ?_ ?_
  rotate_left
  · go_simp
    rfl
  refine hK.out _ _ trivial (fun hHeld => ?_)
  clear hK K hgc hgf hHeld
  have mHX : Aside0 (RdAt p vo vb line ⟨#[]⟩ 0 (w7.setCell ⟨g, 1, none⟩ (.string (rest.extract 0 n.toNat)))) := ⟨blk_far HX.out HPG.out _⟩
  have mHG : Aside0 ((w7.setCell ⟨g, 1, none⟩ (.string (rest.extract 0 n.toNat))).heap[g]? = some (.cells #[.int .i64 frm, .string (rest.extract 0 n.toNat), .slice none 0 0, .string ⟨#[]⟩] 35 (0, 0))) := ⟨blk_put HG.out 1 _ rfl⟩
  have mHS : Aside0 (Kd.S k35 35 (w7.setCell ⟨g, 1, none⟩ (.string (rest.extract 0 n.toNat))) w0.heap.size (fun q => (ok q ∧ q ≠ g) ∧ q < N) vo out) := ⟨Kd.S_far (p := ⟨g, 1, none⟩) HS.out (fun q hq => hq.1.2) _⟩
  have mHD : Aside0 (Kd.S k37 37 (w7.setCell ⟨g, 1, none⟩ (.string (rest.extract 0 n.toNat))) w0.heap.size (fun q => ok q ∧ q ≠ g) vb bad) := ⟨Kd.S_far (p := ⟨g, 1, none⟩) HD.out (fun q hq => hq.2) _⟩
  have mHB : Aside0 (Below w0.heap.size w0 (w7.setCell ⟨g, 1, none⟩ (.string (rest.extract 0 n.toNat)))) := ⟨below_set HB.out HGB.out⟩
  have mHF : Aside0 (Fr ok p W (w7.setCell ⟨g, 1, none⟩ (.string (rest.extract 0 n.toNat)))) := ⟨HF.out.set_new HGW.out 1 _⟩
  have mHZ : Aside0 (g < (w7.setCell ⟨g, 1, none⟩ (.string (rest.extract 0 n.toNat))).heap.size) := ⟨by simpa using HZ.out⟩
  have mHA : Aside0 (Kd.R Kd.string 9 (w7.setCell ⟨g, 1, none⟩ (.string (rest.extract 0 n.toNat))) w0.heap.size (fun q => N ≤ q ∧ q ≠ g ∧ q ≠ p) (.slice Aa l.length ca) l) := ⟨Kd.R_far (p := ⟨g, 1, none⟩) HA.out (fun q hq => hq.2.1) _⟩
  clear HX HG HS HD HB HF HZ HA
  have HX := mHX
  have HG := mHG
  have HS := mHS
  have HD := mHD
  have HB := mHB
  have HF := mHF
  have HZ := mHZ
  have HA := mHA
  clear mHX mHG mHS mHD mHB mHF mHZ mHA
  generalize w7.setCell ⟨g, 1, none⟩ (.string (rest.extract 0 n.toNat)) = w8 at HX HG HS HD HB HF HZ HA ⊢
  refine pure_ (i := 8) (N := some 92) (v := ?_) (a' := ?_) #[true, true, true, true, true, true, true, true, true, false] rfl rfl (any_of HT_.out (by kernel_rfl)) (fun _ _ _ h => h) (Or.inl ⟨by rfl, ?_⟩) ?_ ?_
  rotate_left
  · intro w'
    go_simp
    with_reducible rfl
  rotate_left
  · simp only [Act.put, List.setIfInBounds_toArray, List.set_cons_zero, List.set_cons_succ, i64_w, i32_w]
    rfl
  have hgc : w8.cell? ⟨g, 2, none⟩ = some (.slice none 0 0) := (blk_cell HG.out 2).trans rfl
  have hgf := blk_frozen HG.out 2
  refine one_ (i := 9) (N := none) #[true, true, true, true, true, true, true, true, true, true] rfl rfl (one_of HT_.out (by kernel_rfl)) (by decide) (fun K hK => ?_)
  refine skip_ (w1 := ?_) (by rfl) rfl ?_ ?_
  rotate_left
  · go_simp
    rfl
  refine hK.out _ _ trivial (fun hHeld => ?_)
  clear hK K hgc hgf hHeld
  have mHX : Aside0 (RdAt p vo vb line ⟨#[]⟩ 0 (w8.setCell ⟨g, 2, none⟩ ((.slice Aa l.length ca)))) := ⟨blk_far HX.out HPG.out _⟩
  have mHG : Aside0 ((w8.setCell ⟨g, 2, none⟩ ((.slice Aa l.length ca))).heap[g]? = some (.cells #[.int .i64 frm, .string (rest.extract 0 n.toNat), (.slice Aa l.length ca), .string ⟨#[]⟩] 35 (0, 0))) := ⟨blk_put HG.out 2 _ rfl⟩
  have mHS : Aside0 (Kd.S k35 35 (w8.setCell ⟨g, 2, none⟩ ((.slice Aa l.length ca))) w0.heap.size (fun q => (ok q ∧ q ≠ g) ∧ q < N) vo out) := ⟨Kd.S_far (p := ⟨g, 2, none⟩) HS.out (fun q hq => hq.1.2) _⟩
  have mHD : Aside0 (Kd.S k37 37 (w8.setCell ⟨g, 2, none⟩ ((.slice Aa l.length ca))) w0.heap.size (fun q => ok q ∧ q ≠ g) vb bad) := ⟨Kd.S_far (p := ⟨g, 2, none⟩) HD.out (fun q hq => hq.2) _⟩
  have mHB : Aside0 (Below w0.heap.size w0 (w8.setCell ⟨g, 2, none⟩ ((.slice Aa l.length ca)))) := ⟨below_set HB.out HGB.out⟩
  have mHF : Aside0 (Fr ok p W (w8.setCell ⟨g, 2, none⟩ ((.slice Aa l.length ca)))) := ⟨HF.out.set_new HGW.out 2 _⟩
  have mHZ : Aside0 (g < (w8.setCell ⟨g, 2, none⟩ ((.slice Aa l.length ca))).heap.size) := ⟨by simpa using HZ.out⟩
  have mHA : Aside0 (Kd.R Kd.string 9 (w8.setCell ⟨g, 2, none⟩ ((.slice Aa l.length ca))) w0.heap.size (fun q => N ≤ q ∧ q ≠ g ∧ q ≠ p) (.slice Aa l.length ca) l) := ⟨Kd.R_far (p := ⟨g, 2, none⟩) HA.out (fun q hq => hq.2.1) _⟩
  clear HX HG HS HD HB HF HZ HA
  have HX := mHX
  have HG := mHG
  have HS := mHS
  have HD := mHD
  have HB := mHB
  have HF := mHF
  have HZ := mHZ
  have HA := mHA
  clear mHX mHG mHS mHD mHB mHF mHZ mHA
  generalize w8.setCell ⟨g, 2, none⟩ ((.slice Aa l.length ca)) = w9 at HX HG HS HD HB HF HZ HA ⊢
  refine done_ (done_of HT_.out (by kernel_rfl)) ?_
  go_wp2
  obtain ⟨Av, cv, rfl⟩ := Kd.S_slice HS.out
  refine start_ (n := 11) (S := fun w' => w'.cell? ⟨p, 0, none⟩ = some (.slice Av out.length cv) ∧ w'.cell? ⟨g, 0, none⟩ = some (.int .i64 frm) ∧ w'.cell? ⟨g, 1, none⟩ = some (.string (rest.extract 0 n.toNat)) ∧ w'.cell? ⟨g, 2, none⟩ = some ((.slice Aa l.length ca)) ∧ w'.cell? ⟨g, 3, none⟩ = some (.string ⟨#[]⟩)) (ds := [10]) #[false, false, false, false, false, false, false, false, false, false, false] (by kernel_rfl) rfl rfl ?_ (fun hHeld => ?_)
  · exact ⟨(blk_cell HX.out 0).trans rfl, (blk_cell HG.out 0).trans rfl, (blk_cell HG.out 1).trans rfl, (blk_cell HG.out 2).trans rfl, (blk_cell HG.out 3).trans rfl⟩
  refine with_tabW lines_done.tab14 lines_done.bits14 (fun HT_ HW_ => ?_)
  have mHX : Aside0 (RdAt p (.slice Av out.length cv) vb line ⟨#[]⟩ 0 (w9.drew)) := ⟨HX.out⟩
  have mHG : Aside0 ((w9.drew).heap[g]? = some (.cells #[.int .i64 frm, .string (rest.extract 0 n.toNat), (.slice Aa l.length ca), .string ⟨#[]⟩] 35 (0, 0))) := ⟨HG.out⟩
  have mHS : Aside0 (Kd.S k35 35 (w9.drew) w0.heap.size (fun q => (ok q ∧ q ≠ g) ∧ q < N) (.slice Av out.length cv) out) := ⟨Kd.S_drew HS.out⟩
  have mHD : Aside0 (Kd.S k37 37 (w9.drew) w0.heap.size (fun q => ok q ∧ q ≠ g) vb bad) := ⟨Kd.S_drew HD.out⟩
  have mHB : Aside0 (Below w0.heap.size w0 (w9.drew)) := ⟨below_drew HB.out⟩
  have mHF : Aside0 (Fr ok p W (w9.drew)) := ⟨HF.out.below (below_drew (Below.refl _ _))⟩
  have mHZ : Aside0 (g < (w9.drew).heap.size) := ⟨HZ.out⟩
  have mHA : Aside0 (Kd.R Kd.string 9 (w9.drew) w0.heap.size (fun q => N ≤ q ∧ q ≠ g ∧ q ≠ p) (.slice Aa l.length ca) l) := ⟨Kd.R_drew HA.out⟩
  clear HX HG HS HD HB HF HZ HA
  have HX := mHX
  have HG := mHG
  have HS := mHS
  have HD := mHD
  have HB := mHB
  have HF := mHF
  have HZ := mHZ
  have HA := mHA
  clear mHX mHG mHS mHD mHB mHF mHZ mHA
  generalize w9.drew = w10 at HX HG HS HD HB HF HZ HA hHeld ⊢
  refine pure_ (i := 0) (N := some 93) (v := ?_) (a' := ?_) #[true, false, false, false, false, false, false, false, false, false, false] rfl rfl (any_of HT_.out (by kernel_rfl)) (fun _ _ _ h => h) (Or.inl ⟨by rfl, ?_⟩) ?_ ?_
  rotate_left
  · intro w'
    go_simp
    with_reducible rfl
  rotate_left
  · simp only [Act.put, List.setIfInBounds_toArray, List.set_cons_zero, List.set_cons_succ, i64_w, i32_w]
    rfl
  refine pure_ (i := 1) (N := some 94) (v := ?_) (a' := ?_) #[true, true, false, false, false, false, false, false, false, false, false] rfl rfl (any_of HT_.out (by kernel_rfl)) (fun _ _ _ h => h) (Or.inl ⟨by rfl, ?_⟩) ?_ ?_
  rotate_left
  · intro w'
    go_simp
    with_reducible rfl
  rotate_left
  · simp only [Act.put, List.setIfInBounds_toArray, List.set_cons_zero, List.set_cons_succ, i64_w, i32_w]
    rfl
  refine pure_ (i := 2) (N := some 95) (v := ?_) (a' := ?_) #[true, true, true, false, false, false, false, false, false, false, false] rfl rfl (any_of HT_.out (by kernel_rfl)) (fun _ _ _ h => h) (Or.inl ⟨by rfl, ?_⟩) ?_ ?_
  rotate_left
  · intro w'
    go_simp
    with_reducible rfl
  rotate_left
  · simp only [Act.put, List.setIfInBounds_toArray, List.set_cons_zero, List.set_cons_succ, i64_w, i32_w]
    rfl
  refine pure_ (i := 3) (N := some 96) (v := ?_) (a' := ?_) #[true, true, true, true, false, false, false, false, false, false, false] rfl rfl (any_of HT_.out (by kernel_rfl)) (fun _ _ _ h => h) (Or.inl ⟨by rfl, ?_⟩) ?_ ?_
  rotate_left
  · intro w'
    go_simp
    with_reducible rfl
  rotate_left
  · simp only [Act.put, List.setIfInBounds_toArray, List.set_cons_zero, List.set_cons_succ, i64_w, i32_w]
    rfl
  refine take_ (i := 4) (N := some 97) (v := ?_) (a' := ?_) #[true, true, true, true, true, false, false, false, false, false, false] rfl rfl (take_ofW HT_.out HW_.out (by kernel_rfl)) (fun _ _ _ h => h) (Or.inl ⟨by rfl, ?_⟩) hHeld ?_ ?_
  rotate_left
  · rintro w' ⟨s0, s1, s2, s3, s4⟩
    go_simp
    with_reducible rfl
  rotate_left
  · simp only [Act.put, List.setIfInBounds_toArray, List.set_cons_zero, List.set_cons_succ, i64_w, i32_w]
    rfl
  refine take_ (i := 5) (N := some 98) (v := ?_) (a' := ?_) #[true, true, true, true, true, true, false, false, false, false, false] rfl rfl (take_ofW HT_.out HW_.out (by kernel_rfl)) (fun _ _ _ h => h) (Or.inl ⟨by rfl, ?_⟩) hHeld ?_ ?_
  rotate_left
  · rintro w' ⟨s0, s1, s2, s3, s4⟩
    go_simp
    with_reducible rfl
  rotate_left
  · simp only [Act.put, List.setIfInBounds_toArray, List.set_cons_zero, List.set_cons_succ, i64_w, i32_w]
    rfl
  refine one_ (i := 6) (N := some 99) #[true, true, true, true, true, true, true, false, false, false, false] rfl rfl (one_of HT_.out (by kernel_rfl)) (by decide) (fun K hK => ?_)
  refine value_ (w1 := ?_) (v := ?_) (by rfl) rfl ?_ ?_
  rotate_left 2
  · go_simp
    constructor
    · rfl
    · rfl
  refine hK.out _ _ ⟨Lib.cell?_alloc_some _ hHeld.1, Lib.cell?_alloc_some _ hHeld.2.1, Lib.cell?_alloc_some _ hHeld.2.2.1, Lib.cell?_alloc_some _ hHeld.2.2.2.1, Lib.cell?_alloc_some _ hHeld.2.2.2.2⟩ (fun hHeld => ?_)
  clear hK K
  refine norm_ (a' := ?_) ?_ ?_
  rotate_left
  · show Act.put _ (some 99) _ = _
    simp only [Act.put, List.setIfInBounds_toArray, List.set_cons_zero, List.set_cons_succ, i64_w, i32_w]
    rfl
  refine one_ (i := 7) (N := some 100) #[true, true, true, true, true, true, true, true, false, false, false] rfl rfl (one_of HT_.out (by kernel_rfl)) (by decide) (fun K hK => ?_)
  refine Kd.S_append_step k35 (w0 := w0) w0.heap.size (by rfl) (.tmp 97) (.tmp 99) 30 35 (.agg #[(.int .i64 0), (.string ⟨#[]⟩), (.slice none 0 0), (.string ⟨#[]⟩)]) 64 rfl Tryd.underlying30 info35 rfl (by decide) (by omega) (.slice Av out.length cv) out ⟨frm, rest.extract 0 n.toNat, l, ⟨#[]⟩⟩ [.int .i64 frm, .string (rest.extract 0 n.toNat), (.slice Aa l.length ca), .string ⟨#[]⟩] (fun q => ok q ∧ q ≠ g) (fun q => some q = ((.slice Aa l.length ca) : Value).ownBlock) rfl rfl ?aP ?aK ?aF ?aO ?aB ?aS ?aL ?_
  case aP => exact k35_mkM _ _ _ _ (Kd.R_tight rfl HA.out)
  case aK =>
    intro q hq
    have h1 := HA.out.1 q hq.symm
    refine ⟨HOK.out q (by have := HNG.out; omega), fun e => ?_⟩
    have := ((Kd.S_R HS.out).1 q e.symm).2
    omega
  case aF => exact fun q hq => HOK.out q (by have := HZ.out; omega)
  case aO =>
    refine Kd.S_mono HS.out (fun q hq => ⟨hq.1, fun e => ?_⟩)
    have h1 := HA.out.1 q e.symm
    have := hq.2
    omega
  case aB => exact HB.out
  case aS => exact HB.out.size
  case aL => have := HL.out.1; omega
  intro v7 w7 hs7 hb7 hg7 hat7
  have hrow : ∀ q, ((.slice Av out.length cv) : Value).ownBlock = some q → ok q ∧ q ≠ p ∧ q ≠ g := fun q hq => by
    have h1 := (Kd.S_R HS.out).1 q hq
    exact ⟨h1.1.1, fun e => HPK.out (e ▸ h1.1.1), h1.1.2⟩
  obtain ⟨O7, hO7⟩ : ∃ O7, O7 = out ++ [⟨frm, rest.extract 0 n.toNat, l, ⟨#[]⟩⟩] := ⟨_, rfl⟩
  rw [← hO7] at hs7
  obtain ⟨A7, c7, rfl⟩ := Kd.S_slice hs7
  have mX : Aside0 (RdAt p (.slice Av out.length cv) vb line ⟨#[]⟩ 0 w7) := ⟨blk_grown HX.out hg7 (fun e => (hrow p e.symm).2.1 rfl)⟩
  have mG : Aside0 (w7.heap[g]? = some (.cells #[.int .i64 frm, .string (rest.extract 0 n.toNat), (.slice Aa l.length ca), .string ⟨#[]⟩] 35 (0, 0))) := ⟨blk_grown HG.out hg7 (fun e => (hrow g e.symm).2.2 rfl)⟩
  have mD : Aside0 (Kd.S k37 37 w7 w0.heap.size (fun q => ok q ∧ q ≠ g) vb bad) := ⟨Kd.S_over' HD.out (Kd.S_typed HS.out) (by decide) hg7⟩
  have mF : Aside0 (Fr ok p W w7) := ⟨HF.out.grown hg7 (fun q hq => ⟨(hrow q hq).1, by obtain ⟨cells, hc⟩ := Kd.S_typed HS.out q hq; exact ⟨_, _, _, hc⟩⟩)⟩
  have mS := Aside0.mk hs7
  have mB := Aside0.mk hb7
  have HO7 := Aside0.mk hO7
  clear HX HG HS HD HB HF HZ hs7 hb7 hg7 hat7 hrow hO7 HA
  refine hK.out _ _ ⟨(blk_cell mX.out 0).trans rfl, (blk_cell mG.out 0).trans rfl, (blk_cell mG.out 1).trans rfl, (blk_cell mG.out 2).trans rfl, (blk_cell mG.out 3).trans rfl⟩ (fun hHeld => ?_)
  clear hK K hHeld
  refine norm_ (a' := ?_) ?_ ?_
  rotate_left
  · show Act.put _ (some 100) _ = _
    simp only [Act.put, List.setIfInBounds_toArray, List.set_cons_zero, List.set_cons_succ, i64_w, i32_w]
    rfl
  have hx0 : w7.cell? ⟨p, 0, none⟩ = some (.slice Av out.length cv) := (blk_cell mX.out 0).trans rfl
  have hf0 := blk_frozen mX.out 0
  refine pure_ (i := 8) (N := some 101) (v := ?_) (a' := ?_) #[true, true, true, true, true, true, true, true, true, false, false] rfl rfl (any_of HT_.out (by kernel_rfl)) (fun _ _ _ h => h) (Or.inl ⟨by rfl, ?_⟩) ?_ ?_
  rotate_left
  · intro w'
    go_simp
    with_reducible rfl
  rotate_left
  · simp only [Act.put, List.setIfInBounds_toArray, List.set_cons_zero, List.set_cons_succ, i64_w, i32_w]
    rfl
  refine pure_ (i := 9) (N := some 102) (v := ?_) (a' := ?_) #[true, true, true, true, true, true, true, true, true, true, false] rfl rfl (any_of HT_.out (by kernel_rfl)) (fun _ _ _ h => h) (Or.inl ⟨by rfl, ?_⟩) ?_ ?_
  rotate_left
  · intro w'
    go_simp
    with_reducible rfl
  rotate_left
  · simp only [Act.put, List.setIfInBounds_toArray, List.set_cons_zero, List.set_cons_succ, i64_w, i32_w]
    rfl
  refine last_ (i := 10) (N := none) #[true, true, true, true, true, true, true, true, true, true, true] rfl rfl (one_of HT_.out (by kernel_rfl)) (by decide) (fun K hK => ?_)
  refine skip_ (w1 := ?_) (by rfl) rfl ?_ ?_
  rotate_left
  · go_simp
    rfl
  refine hK.out _ _ ?_
  clear hK K hx0 hf0
  refine done_ (done_of HT_.out (by kernel_rfl)) ?_
  go_wp2
  first | go_end0 | ((try simp only [Exit.inBlock, Exit.then]); refine bodyPost_ret (results_none rfl _ _ _) rfl ?_)
  have e_ := HO7.out
  clear HO7
  subst e_
  exact ⟨rfl, _, _, blk_put mX.out 0 _ rfl, Kd.S_mono (Kd.S_far (p := ⟨p, 0, none⟩) mS.out (fun q hq => ne_ok HPK.out (hq.1)) _) (fun q hq => hq.1), Kd.S_mono (Kd.S_far (p := ⟨p, 0, none⟩) mD.out (fun q hq => ne_ok HPK.out (hq.1)) _) (fun q hq => hq.1), below_set mB.out HP.out, mF.out.set_p mX.out 0 _⟩
set_option maxHeartbeats 8000000 in
set_option maxRecDepth 100000 in
theorem done_macro01 (k : Nat) (w0 W : World) (p : Nat) (ok : Nat → Prop) (vo vb : Value) (out : List Rw) (bad : List Dg) (line : Int) (whole : ByteArray) (frm : Int) (rest : ByteArray) (n : Int) (l : List ByteArray)
    (hB : Below w0.heap.size w0 W) (hX : RdAt p vo vb line whole frm W) (hp : w0.heap.size ≤ p) (hok : ∀ q, W.heap.size ≤ q → ok q) (hpk : ¬ ok p)
    (hS : Kd.S k35 35 W w0.heap.size ok vo out) (hD : Kd.S k37 37 W w0.heap.size ok vb bad) (hl : out.length ≤ 1000000000 ∧ bad.length ≤ 1000000000)
    (hc : lines_control.f whole = some (rest, true)) (hrs : rest.size ≤ 4294960000) (hi : strings_IndexAny.f (rest ++ ⟨#[32]⟩) ⟨#[32, 9]⟩ = some n) (hn : n ≠ 0) (hn0 : 0 ≤ n) (hnr : n ≤ rest.size)
    (hr : lines_Args.f k (rest.extract n.toNat rest.size) = some (l, true)) (hbig : (200 : Int) < (l.length : Int)) :
    Calls Tryd.prog 34 #[.pointer (some ⟨p, 0, none⟩)] W fun e w' => e = .returned (.tuple #[]) ∧ ∃ vo' vb', RdAt p vo' vb' line ⟨#[]⟩ 0 w' ∧ Kd.S k35 35 w' w0.heap.size ok vo' (out ++ [⟨frm, rest.extract 0 n.toNat, (l.take 200), ⟨#[]⟩⟩]) ∧ Kd.S k37 37 w' w0.heap.size ok vb' (bad ++ [⟨11, frm, 0⟩]) ∧ Below w0.heap.size w0 w' ∧ Fr ok p W w' := by
  have hu35 := Tryd.underlying35
  have hu55 := Tryd.underlying55
  have HB := Aside0.mk hB
  have HX := Aside0.mk hX
  have HS := Aside0.mk hS
  have HD := Aside0.mk hD
  have HP := Aside0.mk hp
  have HOK := Aside0.mk hok
  have HPK := Aside0.mk hpk
  have HL := Aside0.mk hl
  have HC := Aside0.mk hc
  have HN0 : Aside0 (w0.heap.size ≤ W.heap.size) := ⟨hB.size⟩
  have hx3 : W.cell? ⟨p, 3, none⟩ = some (.string whole) := (blk_cell HX.out 3).trans rfl
  have hx4 : W.cell? ⟨p, 4, none⟩ = some (.int .i64 frm) := (blk_cell HX.out 4).trans rfl
  clear hB hX hS hD hp hok hpk hl hc
  go_enter Tryd.func34, Tryd.ntmps34
  go_wp2
  refine start_ (n := 11) (S := fun w' => w'.cell? ⟨p, 3, none⟩ = some (.string whole) ∧ w'.cell? ⟨p, 4, none⟩ = some (.int .i64 frm)) (ds := []) #[false, false, false, false, false, false, false, false, false, false, false] (by kernel_rfl) rfl rfl ?_ (fun hHeld => ?_)
  · exact ⟨hx3, hx4⟩
  refine with_tabW lines_done.tab0 lines_done.bits0 (fun HT_ HW_ => ?_)
  have HB1 : Aside0 (Below w0.heap.size w0 W.drew) := ⟨below_drew HB.out⟩
  have HX1 : Aside0 (RdAt p vo vb line whole frm W.drew) := ⟨HX.out⟩
  have HS1 := Aside0.mk (Kd.S_mono (ok' := fun q => ok q ∧ q < W.drew.heap.size) (Kd.S_bound (Kd.S_drew HS.out)) (fun q hq => ⟨hq.1, hq.2.2.1⟩))
  have HD1 := Aside0.mk (Kd.S_mono (ok' := fun q => ok q ∧ q < W.drew.heap.size) (Kd.S_bound (Kd.S_drew HD.out)) (fun q hq => ⟨hq.1, hq.2.2.1⟩))
  have HOK1 : Aside0 (∀ q, W.drew.heap.size ≤ q → ok q) := ⟨HOK.out⟩
  have HF1 : Aside0 (Fr ok p W W.drew) := ⟨(Fr.refl ok p W).below (below_drew (Below.refl _ _))⟩
  have HWG : Aside0 (W.heap.size ≤ W.drew.heap.size) := ⟨Nat.le_refl _⟩
  clear HB HX HS HD HOK hx3 hx4
  generalize W.drew = w1 at HB1 HX1 HS1 HD1 HOK1 HF1 HWG hHeld ⊢
  refine pure_ (i := 0) (N := some 8) (v := ?_) (a' := ?_) #[true, false, false, false, false, false, false, false, false, false, false] rfl rfl (any_of HT_.out (by kernel_rfl)) (fun _ _ _ h => h) (Or.inl ⟨by rfl, ?_⟩) ?_ ?_
  rotate_left
  · intro w'
    go_simp
    with_reducible rfl
  rotate_left
  · simp only [Act.put, List.setIfInBounds_toArray, List.set_cons_zero, List.set_cons_succ, i64_w, i32_w]
    rfl
  refine pure_ (i := 1) (N := some 9) (v := ?_) (a' := ?_) #[true, true, false, false, false, false, false, false, false, false, false] rfl rfl (any_of HT_.out (by kernel_rfl)) (fun _ _ _ h => h) (Or.inl ⟨by rfl, ?_⟩) ?_ ?_
  rotate_left
  · intro w'
    go_simp
    with_reducible rfl
  rotate_left
  · simp only [Act.put, List.setIfInBounds_toArray, List.set_cons_zero, List.set_cons_succ, i64_w, i32_w]
    rfl
  refine pure_ (i := 2) (N := some 10) (v := ?_) (a' := ?_) #[true, true, true, false, false, false, false, false, false, false, false] rfl rfl (any_of HT_.out (by kernel_rfl)) (fun _ _ _ h => h) (Or.inl ⟨by rfl, ?_⟩) ?_ ?_
  rotate_left
  · intro w'
    go_simp
    with_reducible rfl
  rotate_left
  · simp only [Act.put, List.setIfInBounds_toArray, List.set_cons_zero, List.set_cons_succ, i64_w, i32_w]
    rfl
  refine take_ (i := 3) (N := some 11) (v := ?_) (a' := ?_) #[true, true, true, true, false, false, false, false, false, false, false] rfl rfl (take_ofW HT_.out HW_.out (by kernel_rfl)) (fun _ _ _ h => h) (Or.inl ⟨by rfl, ?_⟩) hHeld ?_ ?_
  rotate_left
  · rintro w' ⟨s0, s1⟩
    go_simp
    with_reducible rfl
  rotate_left
  · simp only [Act.put, List.setIfInBounds_toArray, List.set_cons_zero, List.set_cons_succ, i64_w, i32_w]
    rfl
  refine pure_ (i := 4) (N := some 12) (v := ?_) (a' := ?_) #[true, true, true, true, true, false, false, false, false, false, false] rfl rfl (any_of HT_.out (by kernel_rfl)) (fun _ _ _ h => h) (Or.inl ⟨by rfl, ?_⟩) ?_ ?_
  rotate_left
  · intro w'
    go_simp
    with_reducible rfl
  rotate_left
  · simp only [Act.put, List.setIfInBounds_toArray, List.set_cons_zero, List.set_cons_succ, i64_w, i32_w]
    rfl
  refine pure_ (i := 5) (N := some 13) (v := ?_) (a' := ?_) #[true, true, true, true, true, true, false, false, false, false, false] rfl rfl (any_of HT_.out (by kernel_rfl)) (fun _ _ _ h => h) (Or.inl ⟨by rfl, ?_⟩) ?_ ?_
  rotate_left
  · intro w'
    go_simp
    with_reducible rfl
  rotate_left
  · simp only [Act.put, List.setIfInBounds_toArray, List.set_cons_zero, List.set_cons_succ, i64_w, i32_w]
    rfl
  refine pure_ (i := 6) (N := some 14) (v := ?_) (a' := ?_) #[true, true, true, true, true, true, true, false, false, false, false] rfl rfl (any_of HT_.out (by kernel_rfl)) (fun _ _ _ h => h) (Or.inl ⟨by rfl, ?_⟩) ?_ ?_
  rotate_left
  · intro w'
    go_simp
    with_reducible rfl
  rotate_left
  · simp only [Act.put, List.setIfInBounds_toArray, List.set_cons_zero, List.set_cons_succ, i64_w, i32_w]
    rfl
  refine take_ (i := 7) (N := some 15) (v := ?_) (a' := ?_) #[true, true, true, true, true, true, true, true, false, false, false] rfl rfl (take_ofW HT_.out HW_.out (by kernel_rfl)) (fun _ _ _ h => h) (Or.inl ⟨by rfl, ?_⟩) hHeld ?_ ?_
  rotate_left
  · rintro w' ⟨s0, s1⟩
    go_simp
    with_reducible rfl
  rotate_left
  · simp only [Act.put, List.setIfInBounds_toArray, List.set_cons_zero, List.set_cons_succ, i64_w, i32_w]
    rfl
  refine pure_ (i := 8) (N := some 16) (v := ?_) (a' := ?_) #[true, true, true, true, true, true, true, true, true, false, false] rfl rfl (any_of HT_.out (by kernel_rfl)) (fun _ _ _ h => h) (Or.inl ⟨by rfl, ?_⟩) ?_ ?_
  rotate_left
  · intro w'
    go_simp
    with_reducible rfl
  rotate_left
  · simp only [Act.put, List.setIfInBounds_toArray, List.set_cons_zero, List.set_cons_succ, i64_w, i32_w]
    rfl
  refine one_ (i := 9) (N := some 2) #[true, true, true, true, true, true, true, true, true, true, false] rfl rfl (one_of HT_.out (by kernel_rfl)) (by decide) (fun K hK => ?_)
  refine value_ (w1 := ?_) (v := ?_) (by rfl) rfl ?_ ?_
  rotate_left 2
  · go_simp
    constructor
    · rfl
    · rfl
  refine hK.out _ _ ⟨Lib.cell?_alloc_some _ hHeld.1, Lib.cell?_alloc_some _ hHeld.2⟩ (fun hHeld => ?_)
  clear hK K
  refine norm_ (a' := ?_) ?_ ?_
  rotate_left
  · show Act.put _ (some 2) _ = _
    simp only [Act.put, List.setIfInBounds_toArray, List.set_cons_zero, List.set_cons_succ, i64_w, i32_w]
    rfl
  have hgb := blk_new w1 (.cells #[.int .i64 0, .string ⟨#[]⟩, .slice none 0 0, .string ⟨#[]⟩] 35)
  have HX2 : Aside0 (RdAt p vo vb line whole frm (w1.alloc (.cells #[.int .i64 0, .string ⟨#[]⟩, .slice none 0 0, .string ⟨#[]⟩] 35))) := ⟨blk_alloc HX1.out _⟩
  have HB2 := Aside0.mk (below_alloc HB1.out (.cells #[.int .i64 0, .string ⟨#[]⟩, .slice none 0 0, .string ⟨#[]⟩] 35))
  have HS2 := Aside0.mk (Kd.S_alloc HS1.out (.cells #[.int .i64 0, .string ⟨#[]⟩, .slice none 0 0, .string ⟨#[]⟩] 35))
  have HD2 := Aside0.mk (Kd.S_alloc HD1.out (.cells #[.int .i64 0, .string ⟨#[]⟩, .slice none 0 0, .string ⟨#[]⟩] 35))
  have HF2 : Aside0 (Fr ok p W (w1.alloc (.cells #[.int .i64 0, .string ⟨#[]⟩, .slice none 0 0, .string ⟨#[]⟩] 35))) := ⟨HF1.out.below (below_alloc (Below.refl _ _) _)⟩
  have hsz : (w1.alloc (.cells #[.int .i64 0, .string ⟨#[]⟩, .slice none 0 0, .string ⟨#[]⟩] 35)).heap.size = w1.heap.size + 1 := by simp
  have HPL : Aside0 (p < w1.heap.size) := ⟨blk_lt HX1.out⟩
  generalize w1.alloc (.cells #[.int .i64 0, .string ⟨#[]⟩, .slice none 0 0, .string ⟨#[]⟩] 35) = w2 at HX2 HB2 HS2 HD2 HF2 hgb hsz hHeld ⊢
  clear HX1 HB1 HS1 HD1 HF1
  generalize w1.heap.size = g at hgb hsz HPL HOK1 HS2 HD2 HWG ⊢
  have HG := Aside0.mk hgb
  have h0 : w2.cell? ⟨g, 0, none⟩ = some (.int .i64 0) := (blk_cell hgb 0).trans rfl
  have h1 : w2.cell? ⟨g, 1, none⟩ = some (.string ⟨#[]⟩) := (blk_cell hgb 1).trans rfl
  have h2 : w2.cell? ⟨g, 2, none⟩ = some (.slice none 0 0) := (blk_cell hgb 2).trans rfl
  have h3 : w2.cell? ⟨g, 3, none⟩ = some (.string ⟨#[]⟩) := (blk_cell hgb 3).trans rfl
  have f0 := blk_frozen hgb 0
  have f1 := blk_frozen hgb 1
  have f2 := blk_frozen hgb 2
  have f3 := blk_frozen hgb 3
  refine one_ (i := 10) (N := none) #[true, true, true, true, true, true, true, true, true, true, true] rfl rfl (one_of HT_.out (by kernel_rfl)) (by decide) (fun K hK => ?_)
  refine skip_ (w1 := ?_) (by rfl) rfl ?_ ?_
  rotate_left
  · go_simp
    rfl
  have hgp : w0.heap.size ≤ g := by have := HPL.out; have := HP.out; omega
  have hpg : p ≠ g := by have := HPL.out; omega
  have HG3 := Aside0.mk (blk_put4 HG.out (.int .i64 frm) (.string ⟨#[]⟩) (.slice none 0 0) (.string whole))
  have HX3 : Aside0 (RdAt p vo vb line whole frm ((((w2.setCell ⟨g, 0, none⟩ (.int .i64 frm)).setCell ⟨g, 1, none⟩ (.string ⟨#[]⟩)).setCell ⟨g, 2, none⟩ (.slice none 0 0)).setCell ⟨g, 3, none⟩ (.string whole))) := ⟨blk_far4 HX2.out hpg (.int .i64 frm) (.string ⟨#[]⟩) (.slice none 0 0) (.string whole)⟩
  have HS3 := Aside0.mk (S_far4 HS2.out (g := g) (fun q hq => by omega) (.int .i64 frm) (.string ⟨#[]⟩) (.slice none 0 0) (.string whole))
  have HD3 := Aside0.mk (S_far4 HD2.out (g := g) (fun q hq => by omega) (.int .i64 frm) (.string ⟨#[]⟩) (.slice none 0 0) (.string whole))
  have HB3 := Aside0.mk (below_set (j := 3) (v := .string whole) (below_set (j := 2) (v := .slice none 0 0) (below_set (j := 1) (v := .string ⟨#[]⟩) (below_set (j := 0) (v := .int .i64 frm) HB2.out hgp) hgp) hgp) hgp)
  have HF3 := Aside0.mk ((((HF2.out.set_new HWG.out 0 (.int .i64 frm)).set_new HWG.out 1 (.string ⟨#[]⟩)).set_new HWG.out 2 (.slice none 0 0)).set_new HWG.out 3 (.string whole))
  have HZ : Aside0 (g < ((((w2.setCell ⟨g, 0, none⟩ (.int .i64 frm)).setCell ⟨g, 1, none⟩ (.string ⟨#[]⟩)).setCell ⟨g, 2, none⟩ (.slice none 0 0)).setCell ⟨g, 3, none⟩ (.string whole)).heap.size) := ⟨by have : w2.heap.size = g + 1 := hsz; simp; omega⟩
  refine hK.out _ _ ⟨(blk_cell HX3.out 3).trans rfl, (blk_cell HX3.out 4).trans rfl⟩ (fun hHeld => ?_)
  clear hK K HX2 HB2 HS2 HD2 HF2 HG h0 h1 h2 h3 f0 f1 f2 f3 hgb hsz
  generalize (((w2.setCell ⟨g, 0, none⟩ (.int .i64 frm)).setCell ⟨g, 1, none⟩ (.string ⟨#[]⟩)).setCell ⟨g, 2, none⟩ (.slice none 0 0)).setCell ⟨g, 3, none⟩ (.string whole) = w3 at HG3 HX3 HS3 HD3 HB3 HF3 HZ hHeld ⊢
  refine done_ (done_of HT_.out (by kernel_rfl)) ?_
  have hx3 := hHeld.1
  clear hHeld
  have HG := HG3
  have HX := HX3
  have HS := Aside0.mk (Kd.S_mono (ok' := fun q => ok q ∧ q ≠ g) HS3.out (fun q hq => ⟨hq.1, by omega⟩))
  have HD := Aside0.mk (Kd.S_mono (ok' := fun q => ok q ∧ q ≠ g) HD3.out (fun q hq => ⟨hq.1, by omega⟩))
  have HB := HB3
  have HF := HF3
  have HPG := Aside0.mk hpg
  have HGB := Aside0.mk hgp
  have HGW := HWG
  have HOK : Aside0 (∀ q, g < q → ok q ∧ q ≠ g) := ⟨fun q hq => ⟨HOK1.out q (by omega), by omega⟩⟩
  clear HG3 HX3 HS3 HD3 HB3 HF3 hpg hgp HWG HOK1
  have e1_ : rest.size + 1 ≤ 9223372036854775807 := by omega
  have e2_ := eq_true e1_
  have e3_ := eq_false (Nat.not_lt.2 e1_)
  have HI := Aside0.mk hi
  clear hi
  have HR := Aside0.mk hr
  clear hr
  have n0_ : (n == 0) = false := beq_eq_false_iff_ne.2 hn
  have c1_ : (0 : Int) ≤ n := hn0
  have c2_ : n ≤ (rest.size : Int) := hnr
  go_wp2_with (first | (go_at_call 52; refine (lines_control.calls whole rest true _ HC.out).mono ?_; rintro e w4 ⟨rfl, hb⟩; have mX := Aside0.mk (blk_below HX.out hb); have mG := Aside0.mk (blk_below HG.out hb); have mS := Aside0.mk (Kd.S_below HS.out hb); have mD := Aside0.mk (Kd.S_below HD.out hb); have mB := Aside0.mk (below_step HB.out hb); have mF := Aside0.mk (HF.out.below hb); have mZ := Aside0.mk (Nat.lt_of_lt_of_le HZ.out hb.size); clear HX HG HS HD HB HF HZ; have HX := mX; have HG := mG; have HS := mS; have HD := mD; have HB := mB; have HF := mF; have HZ := mZ; clear mX mG mS mD mB mF mZ; have hx3 : w4.cell? ⟨p, 3, none⟩ = some (.string whole) := (blk_cell HX.out 3).trans rfl; have hx4 : w4.cell? ⟨p, 4, none⟩ = some (.int .i64 frm) := (blk_cell HX.out 4).trans rfl; have hf3 := blk_frozen HX.out 3; have hf4 := blk_frozen HX.out 4; clear hb) | (go_at_call 54; refine (strings_IndexAny.calls _ _ n _ HI.out).mono ?_; rintro e w6 ⟨rfl, hb⟩; have mX : Aside0 (RdAt p vo vb line ⟨#[]⟩ 0 ((w4.setCell ⟨p, 3, none⟩ (.string ⟨#[]⟩)).setCell ⟨p, 4, none⟩ (.int .i64 0))) := ⟨blk_put (blk_put HX.out 3 _ rfl) 4 _ rfl⟩; have mG : Aside0 (((w4.setCell ⟨p, 3, none⟩ (.string ⟨#[]⟩)).setCell ⟨p, 4, none⟩ (.int .i64 0)).heap[g]? = some (.cells #[.int .i64 frm, .string ⟨#[]⟩, .slice none 0 0, .string whole] 35 (0, 0))) := ⟨blk_far (blk_far HG.out (Ne.symm HPG.out) _) (Ne.symm HPG.out) _⟩; have mS := Aside0.mk (Kd.S_far (p := ⟨p, 4, none⟩) (Kd.S_far (p := ⟨p, 3, none⟩) HS.out (fun q hq => ne_ok HPK.out (hq.1)) (.string ⟨#[]⟩)) (fun q hq => ne_ok HPK.out (hq.1)) (.int .i64 0)); have mD := Aside0.mk (Kd.S_far (p := ⟨p, 4, none⟩) (Kd.S_far (p := ⟨p, 3, none⟩) HD.out (fun q hq => ne_ok HPK.out (hq.1)) (.string ⟨#[]⟩)) (fun q hq => ne_ok HPK.out (hq.1)) (.int .i64 0)); have mB := Aside0.mk (below_set (j := 4) (v := .int .i64 0) (below_set (j := 3) (v := .string ⟨#[]⟩) HB.out HP.out) HP.out); have mF := Aside0.mk ((HF.out.set_p HX.out 3 (.string ⟨#[]⟩)).set_p (blk_put HX.out 3 _ rfl) 4 (.int .i64 0)); have mZ : Aside0 (g < ((w4.setCell ⟨p, 3, none⟩ (.string ⟨#[]⟩)).setCell ⟨p, 4, none⟩ (.int .i64 0)).heap.size) := ⟨by simpa using HZ.out⟩; clear HX HG HS HD HB HF HZ; have HX := mX; have HG := mG; have HS := mS; have HD := mD; have HB := mB; have HF := mF; have HZ := mZ; clear mX mG mS mD mB mF mZ; have mX := Aside0.mk (blk_below HX.out hb); have mG := Aside0.mk (blk_below HG.out hb); have mS := Aside0.mk (Kd.S_below HS.out hb); have mD := Aside0.mk (Kd.S_below HD.out hb); have mB := Aside0.mk (below_step HB.out hb); have mF := Aside0.mk (HF.out.below hb); have mZ := Aside0.mk (Nat.lt_of_lt_of_le HZ.out hb.size); clear HX HG HS HD HB HF HZ; have HX := mX; have HG := mG; have HS := mS; have HD := mD; have HB := mB; have HF := mF; have HZ := mZ; clear mX mG mS mD mB mF mZ; clear hx3 hx4 hf3 hf4 hb) | (go_at_call 12; refine (lines_Args.calls k (rest.extract n.toNat rest.size) l true _ HR.out).mono ?_; rintro e w7 ⟨va, rfl, hra, hb⟩; have HA := Aside0.mk (Kd.R_mono (ok' := fun q => w6.heap.size ≤ q ∧ q ≠ g ∧ q ≠ p) (Kd.R_lower (Kd.R_bound hra) HB.out.size) (fun q hq => ⟨hq.2.1, by have h1_ := hq.2.1; have h2_ := HZ.out; have h3_ := blk_lt HX.out; omega, by have h1_ := hq.2.1; have h3_ := blk_lt HX.out; omega⟩)); have HNG : Aside0 (g < w6.heap.size) := ⟨HZ.out⟩; have mX := Aside0.mk (blk_below HX.out hb); have mG := Aside0.mk (blk_below HG.out hb); have mS := Aside0.mk (Kd.S_old HS.out hb); have mD := Aside0.mk (Kd.S_below HD.out hb); have mB := Aside0.mk (below_step HB.out hb); have mF := Aside0.mk (HF.out.below hb); have mZ := Aside0.mk (Nat.lt_of_lt_of_le HZ.out hb.size); clear HX HG HS HD HB HF HZ; have HX := mX; have HG := mG; have HS := mS; have HD := mD; have HB := mB; have HF := mF; have HZ := mZ; clear mX mG mS mD mB mF mZ; obtain ⟨Aa, ca, rfl, hca, _⟩ := Kd.R_reads hra; have HCA := Aside0.mk hca; clear hra hb hca; have h200_ : (200 : Int) ≤ (ca : Int) := (by have h_ := HCA.out; omega)))
  obtain ⟨N, hN⟩ : ∃ N, N = w6.heap.size := ⟨_, rfl⟩
  rw [← hN] at HA HNG HS
  clear hN
  have mA := Aside0.mk (Kd.R_take (m := 200) HA.out (by omega))
  clear HA
  have HA := mA
  clear mA
  obtain ⟨Ab1, cb1, rfl⟩ := Kd.S_slice HD.out
  refine start_ (n := 13) (S := fun w' => w'.cell? ⟨p, 1, none⟩ = some (.slice Ab1 bad.length cb1) ∧ w'.cell? ⟨g, 0, none⟩ = some (.int .i64 frm)) (ds := [12]) #[false, false, false, false, false, false, false, false, false, false, false, false, false] (by kernel_rfl) rfl rfl ?_ (fun hHeld => ?_)
  · exact ⟨(blk_cell HX.out 1).trans rfl, (blk_cell HG.out 0).trans rfl⟩
  refine with_tabW lines_done.tab12 lines_done.bits12 (fun HT_ HW_ => ?_)
  have mHX : Aside0 (RdAt p vo (.slice Ab1 bad.length cb1) line ⟨#[]⟩ 0 (w7.drew)) := ⟨HX.out⟩
  have mHG : Aside0 ((w7.drew).heap[g]? = some (.cells #[.int .i64 frm, .string ⟨#[]⟩, .slice none 0 0, .string whole] 35 (0, 0))) := ⟨HG.out⟩
  have mHS : Aside0 (Kd.S k35 35 (w7.drew) w0.heap.size (fun q => (ok q ∧ q ≠ g) ∧ q < N) vo out) := ⟨Kd.S_drew HS.out⟩
  have mHD : Aside0 (Kd.S k37 37 (w7.drew) w0.heap.size (fun q => ok q ∧ q ≠ g) (.slice Ab1 bad.length cb1) bad) := ⟨Kd.S_drew HD.out⟩
  have mHB : Aside0 (Below w0.heap.size w0 (w7.drew)) := ⟨below_drew HB.out⟩
  have mHF : Aside0 (Fr ok p W (w7.drew)) := ⟨HF.out.below (below_drew (Below.refl _ _))⟩
  have mHZ : Aside0 (g < (w7.drew).heap.size) := ⟨HZ.out⟩
  have mHA : Aside0 (Kd.R Kd.string 9 (w7.drew) w0.heap.size (fun q => N ≤ q ∧ q ≠ g ∧ q ≠ p) (.slice Aa 200 ca) (l.take 200)) := ⟨Kd.R_drew HA.out⟩
  clear HX HG HS HD HB HF HZ HA
  have HX := mHX
  have HG := mHG
  have HS := mHS
  have HD := mHD
  have HB := mHB
  have HF := mHF
  have HZ := mHZ
  have HA := mHA
  clear mHX mHG mHS mHD mHB mHF mHZ mHA
  generalize w7.drew = w6 at HX HG HS HD HB HF HZ HA hHeld ⊢
  refine pure_ (i := 0) (N := some 74) (v := ?_) (a' := ?_) #[true, false, false, false, false, false, false, false, false, false, false, false, false] rfl rfl (any_of HT_.out (by kernel_rfl)) (fun _ _ _ h => h) (Or.inl ⟨by rfl, ?_⟩) ?_ ?_
  rotate_left
  · intro w'
    go_simp
    with_reducible rfl
  rotate_left
  · simp only [Act.put, List.setIfInBounds_toArray, List.set_cons_zero, List.set_cons_succ, i64_w, i32_w]
    rfl
  refine pure_ (i := 1) (N := some 75) (v := ?_) (a' := ?_) #[true, true, false, false, false, false, false, false, false, false, false, false, false] rfl rfl (any_of HT_.out (by kernel_rfl)) (fun _ _ _ h => h) (Or.inl ⟨by rfl, ?_⟩) ?_ ?_
  rotate_left
  · intro w'
    go_simp
    with_reducible rfl
  rotate_left
  · simp only [Act.put, List.setIfInBounds_toArray, List.set_cons_zero, List.set_cons_succ, i64_w, i32_w]
    rfl
  refine pure_ (i := 2) (N := some 76) (v := ?_) (a' := ?_) #[true, true, true, false, false, false, false, false, false, false, false, false, false] rfl rfl (any_of HT_.out (by kernel_rfl)) (fun _ _ _ h => h) (Or.inl ⟨by rfl, ?_⟩) ?_ ?_
  rotate_left
  · intro w'
    go_simp
    with_reducible rfl
  rotate_left
  · simp only [Act.put, List.setIfInBounds_toArray, List.set_cons_zero, List.set_cons_succ, i64_w, i32_w]
    rfl
  refine pure_ (i := 3) (N := some 77) (v := ?_) (a' := ?_) #[true, true, true, true, false, false, false, false, false, false, false, false, false] rfl rfl (any_of HT_.out (by kernel_rfl)) (fun _ _ _ h => h) (Or.inl ⟨by rfl, ?_⟩) ?_ ?_
  rotate_left
  · intro w'
    go_simp
    with_reducible rfl
  rotate_left
  · simp only [Act.put, List.setIfInBounds_toArray, List.set_cons_zero, List.set_cons_succ, i64_w, i32_w]
    rfl
  refine take_ (i := 4) (N := some 78) (v := ?_) (a' := ?_) #[true, true, true, true, true, false, false, false, false, false, false, false, false] rfl rfl (take_ofW HT_.out HW_.out (by kernel_rfl)) (fun _ _ _ h => h) (Or.inl ⟨by rfl, ?_⟩) hHeld ?_ ?_
  rotate_left
  · rintro w' ⟨s0, s1⟩
    go_simp
    with_reducible rfl
  rotate_left
  · simp only [Act.put, List.setIfInBounds_toArray, List.set_cons_zero, List.set_cons_succ, i64_w, i32_w]
    rfl
  refine pure_ (i := 5) (N := some 79) (v := ?_) (a' := ?_) #[true, true, true, true, true, true, false, false, false, false, false, false, false] rfl rfl (any_of HT_.out (by kernel_rfl)) (fun _ _ _ h => h) (Or.inl ⟨by rfl, ?_⟩) ?_ ?_
  rotate_left
  · intro w'
    go_simp
    with_reducible rfl
  rotate_left
  · simp only [Act.put, List.setIfInBounds_toArray, List.set_cons_zero, List.set_cons_succ, i64_w, i32_w]
    rfl
  refine take_ (i := 6) (N := some 80) (v := ?_) (a' := ?_) #[true, true, true, true, true, true, true, false, false, false, false, false, false] rfl rfl (take_ofW HT_.out HW_.out (by kernel_rfl)) (fun _ _ _ h => h) (Or.inl ⟨by rfl, ?_⟩) hHeld ?_ ?_
  rotate_left
  · rintro w' ⟨s0, s1⟩
    go_simp
    with_reducible rfl
  rotate_left
  · simp only [Act.put, List.setIfInBounds_toArray, List.set_cons_zero, List.set_cons_succ, i64_w, i32_w]
    rfl
  refine pure_ (i := 7) (N := some 81) (v := ?_) (a' := ?_) #[true, true, true, true, true, true, true, true, false, false, false, false, false] rfl rfl (any_of HT_.out (by kernel_rfl)) (fun _ _ _ h => h) (Or.inl ⟨by rfl, ?_⟩) ?_ ?_
  rotate_left
  · intro w'
    go_simp
    with_reducible rfl
  rotate_left
  · simp only [Act.put, List.setIfInBounds_toArray, List.set_cons_zero, List.set_cons_succ, i64_w, i32_w]
    rfl
  refine one_ (i := 8) (N := some 82) #[true, true, true, true, true, true, true, true, true, false, false, false, false] rfl rfl (one_of HT_.out (by kernel_rfl)) (by decide) (fun K hK => ?_)
  refine value_ (w1 := ?_) (v := ?_) (by rfl) rfl ?_ ?_
  rotate_left 2
  · go_simp
    constructor
    · rfl
    · rfl
  refine hK.out _ _ ⟨Lib.cell?_alloc_some _ hHeld.1, Lib.cell?_alloc_some _ hHeld.2⟩ (fun hHeld => ?_)
  clear hK K
  refine norm_ (a' := ?_) ?_ ?_
  rotate_left
  · show Act.put _ (some 82) _ = _
    simp only [Act.put, List.setIfInBounds_toArray, List.set_cons_zero, List.set_cons_succ, i64_w, i32_w]
    rfl
  refine one_ (i := 9) (N := some 83) #[true, true, true, true, true, true, true, true, true, true, false, false, false] rfl rfl (one_of HT_.out (by kernel_rfl)) (by decide) (fun K hK => ?_)
  refine Kd.S_append_step k37 (w0 := w0) w0.heap.size (by rfl) (.tmp 78) (.tmp 82) 31 37 (.agg #[(.int .i64 0), (.int .i64 0), (.int .i64 0)]) 24 rfl Tryd.underlying31 info_Dg rfl (by decide) (by omega) (.slice Ab1 bad.length cb1) bad ⟨11, frm, 0⟩ [.int .i64 11, .int .i64 frm, .int .i64 0] (fun q => ok q ∧ q ≠ g) (fun _ => False) rfl rfl ?aP ?aK ?aF ?aO ?aB ?aS ?aL ?_
  case aP => exact k37_mkM _ _ _ _
  case aK => exact fun q hq => hq.elim
  case aF => exact fun q hq => HOK.out q (by have := HZ.out; omega)
  case aO => exact Kd.S_mono HD.out (fun q hq => ⟨hq, fun e => e⟩)
  case aB => exact HB.out
  case aS => exact HB.out.size
  case aL => have := HL.out.2; omega
  intro v8 w8 hs8 hb8 hg8 hat8
  have hrow : ∀ q, ((.slice Ab1 bad.length cb1) : Value).ownBlock = some q → ok q ∧ q ≠ p ∧ q ≠ g := fun q hq => by
    have h1 := (Kd.S_R HD.out).1 q hq
    exact ⟨h1.1, fun e => HPK.out (e ▸ h1.1), h1.2⟩
  obtain ⟨B1, hB8⟩ : ∃ b, b = bad ++ [⟨11, frm, 0⟩] := ⟨_, rfl⟩
  rw [← hB8] at hs8
  obtain ⟨A8_1, c8_1, rfl⟩ := Kd.S_slice hs8
  have mX : Aside0 (RdAt p vo (.slice Ab1 bad.length cb1) line ⟨#[]⟩ 0 w8) := ⟨blk_grown HX.out hg8 (fun e => (hrow p e.symm).2.1 rfl)⟩
  have mG : Aside0 (w8.heap[g]? = some (.cells #[.int .i64 frm, .string ⟨#[]⟩, .slice none 0 0, .string whole] 35 (0, 0))) := ⟨blk_grown HG.out hg8 (fun e => (hrow g e.symm).2.2 rfl)⟩
  have mS : Aside0 (Kd.S k35 35 w8 w0.heap.size (fun q => (ok q ∧ q ≠ g) ∧ q < N) vo out) := ⟨Kd.S_over' HS.out (Kd.S_typed HD.out) (by decide) hg8⟩
  have mA : Aside0 (Kd.R Kd.string 9 w8 w0.heap.size (fun q => N ≤ q ∧ q ≠ g ∧ q ≠ p) (.slice Aa 200 ca) (l.take 200)) := ⟨Kd.R_over' HA.out (Kd.S_typed HD.out) (by decide) hg8⟩
  have mF : Aside0 (Fr ok p W w8) := ⟨HF.out.grown hg8 (fun q hq => ⟨(hrow q hq).1, by obtain ⟨cells, hc⟩ := Kd.S_typed HD.out q hq; exact ⟨_, _, _, hc⟩⟩)⟩
  have mD := Aside0.mk hs8
  have mB := Aside0.mk hb8
  have mZ := Aside0.mk (Nat.lt_of_lt_of_le HZ.out hg8.size)
  have HB1 := Aside0.mk hB8
  clear HX HG HS HD HB HF HZ HA hs8 hb8 hg8 hat8 hrow hB8
  have HX := mX
  have HG := mG
  have HS := mS
  have HD := mD
  have HB := mB
  have HF := mF
  have HZ := mZ
  have HA := mA
  clear mX mG mS mD mB mF mZ mA
  refine hK.out _ _ ⟨(blk_cell HX.out 1).trans rfl, (blk_cell HG.out 0).trans rfl⟩ (fun hHeld => ?_)
  clear hK K
  refine norm_ (a' := ?_) ?_ ?_
  rotate_left
  · show Act.put _ (some 83) _ = _
    simp only [Act.put, List.setIfInBounds_toArray, List.set_cons_zero, List.set_cons_succ, i64_w, i32_w]
    rfl
  have hx1 : w8.cell? ⟨p, 1, none⟩ = some (.slice Ab1 bad.length cb1) := (blk_cell HX.out 1).trans rfl
  have hf1 := blk_frozen HX.out 1
  refine pure_ (i := 10) (N := some 84) (v := ?_) (a' := ?_) #[true, true, true, true, true, true, true, true, true, true, true, false, false] rfl rfl (any_of HT_.out (by kernel_rfl)) (fun _ _ _ h => h) (Or.inl ⟨by rfl, ?_⟩) ?_ ?_
  rotate_left
  · intro w'
    go_simp
    with_reducible rfl
  rotate_left
  · simp only [Act.put, List.setIfInBounds_toArray, List.set_cons_zero, List.set_cons_succ, i64_w, i32_w]
    rfl
  refine pure_ (i := 11) (N := some 85) (v := ?_) (a' := ?_) #[true, true, true, true, true, true, true, true, true, true, true, true, false] rfl rfl (any_of HT_.out (by kernel_rfl)) (fun _ _ _ h => h) (Or.inl ⟨by rfl, ?_⟩) ?_ ?_
  rotate_left
  · intro w'
    go_simp
    with_reducible rfl
  rotate_left
  · simp only [Act.put, List.setIfInBounds_toArray, List.set_cons_zero, List.set_cons_succ, i64_w, i32_w]
    rfl
  refine last_ (i := 12) (N := none) #[true, true, true, true, true, true, true, true, true, true, true, true, true] rfl rfl (one_of HT_.out (by kernel_rfl)) (by decide) (fun K hK => ?_)
  refine skip_ (w1 := ?_) (by rfl) rfl ?_ ?_
  rotate_left
  · go_simp
    rfl
  refine hK.out _ _ ?_
  clear hK K hx1 hf1 hHeld
  have mHX : Aside0 (RdAt p vo (.slice A8_1 B1.length c8_1) line ⟨#[]⟩ 0 (w8.setCell ⟨p, 1, none⟩ (.slice A8_1 B1.length c8_1))) := ⟨blk_put HX.out 1 _ rfl⟩
  have mHG : Aside0 ((w8.setCell ⟨p, 1, none⟩ (.slice A8_1 B1.length c8_1)).heap[g]? = some (.cells #[.int .i64 frm, .string ⟨#[]⟩, .slice none 0 0, .string whole] 35 (0, 0))) := ⟨blk_far HG.out (Ne.symm HPG.out) _⟩
  have mHS : Aside0 (Kd.S k35 35 (w8.setCell ⟨p, 1, none⟩ (.slice A8_1 B1.length c8_1)) w0.heap.size (fun q => (ok q ∧ q ≠ g) ∧ q < N) vo out) := ⟨Kd.S_far (p := ⟨p, 1, none⟩) HS.out (fun q hq => ne_ok HPK.out (hq.1.1)) _⟩
  have mHD : Aside0 (Kd.S k37 37 (w8.setCell ⟨p, 1, none⟩ (.slice A8_1 B1.length c8_1)) w0.heap.size (fun q => ok q ∧ q ≠ g) (.slice A8_1 B1.length c8_1) B1) := ⟨Kd.S_far (p := ⟨p, 1, none⟩) HD.out (fun q hq => ne_ok HPK.out (hq.1)) _⟩
  have mHB : Aside0 (Below w0.heap.size w0 (w8.setCell ⟨p, 1, none⟩ (.slice A8_1 B1.length c8_1))) := ⟨below_set HB.out HP.out⟩
  have mHF : Aside0 (Fr ok p W (w8.setCell ⟨p, 1, none⟩ (.slice A8_1 B1.length c8_1))) := ⟨HF.out.set_p HX.out 1 _⟩
  have mHZ : Aside0 (g < (w8.setCell ⟨p, 1, none⟩ (.slice A8_1 B1.length c8_1)).heap.size) := ⟨by simpa using HZ.out⟩
  have mHA : Aside0 (Kd.R Kd.string 9 (w8.setCell ⟨p, 1, none⟩ (.slice A8_1 B1.length c8_1)) w0.heap.size (fun q => N ≤ q ∧ q ≠ g ∧ q ≠ p) (.slice Aa 200 ca) (l.take 200)) := ⟨Kd.R_far (p := ⟨p, 1, none⟩) HA.out (fun q hq => hq.2.2) _⟩
  clear HX HG HS HD HB HF HZ HA
  have HX := mHX
  have HG := mHG
  have HS := mHS
  have HD := mHD
  have HB := mHB
  have HF := mHF
  have HZ := mHZ
  have HA := mHA
  clear mHX mHG mHS mHD mHB mHF mHZ mHA
  generalize w8.setCell ⟨p, 1, none⟩ (.slice A8_1 B1.length c8_1) = w7 at HX HG HS HD HB HF HZ HA ⊢
  refine done_ (done_of HT_.out (by kernel_rfl)) ?_
  go_wp2
  refine start_ (n := 10) (S := fun _ => True) (ds := []) #[false, false, false, false, false, false, false, false, false, false] (by kernel_rfl) rfl rfl trivial (fun hHeld => ?_)
  refine with_tabW lines_done.tab13 lines_done.bits13 (fun HT_ HW_ => ?_)
  clear hHeld
  have mHX : Aside0 (RdAt p vo (.slice A8_1 B1.length c8_1) line ⟨#[]⟩ 0 (w7.drew)) := ⟨HX.out⟩
  have mHG : Aside0 ((w7.drew).heap[g]? = some (.cells #[.int .i64 frm, .string ⟨#[]⟩, .slice none 0 0, .string whole] 35 (0, 0))) := ⟨HG.out⟩
  have mHS : Aside0 (Kd.S k35 35 (w7.drew) w0.heap.size (fun q => (ok q ∧ q ≠ g) ∧ q < N) vo out) := ⟨Kd.S_drew HS.out⟩
  have mHD : Aside0 (Kd.S k37 37 (w7.drew) w0.heap.size (fun q => ok q ∧ q ≠ g) (.slice A8_1 B1.length c8_1) B1) := ⟨Kd.S_drew HD.out⟩
  have mHB : Aside0 (Below w0.heap.size w0 (w7.drew)) := ⟨below_drew HB.out⟩
  have mHF : Aside0 (Fr ok p W (w7.drew)) := ⟨HF.out.below (below_drew (Below.refl _ _))⟩
  have mHZ : Aside0 (g < (w7.drew).heap.size) := ⟨HZ.out⟩
  have mHA : Aside0 (Kd.R Kd.string 9 (w7.drew) w0.heap.size (fun q => N ≤ q ∧ q ≠ g ∧ q ≠ p) (.slice Aa 200 ca) (l.take 200)) := ⟨Kd.R_drew HA.out⟩
  clear HX HG HS HD HB HF HZ HA
  have HX := mHX
  have HG := mHG
  have HS := mHS
  have HD := mHD
  have HB := mHB
  have HF := mHF
  have HZ := mHZ
  have HA := mHA
  clear mHX mHG mHS mHD mHB mHF mHZ mHA
  generalize w7.drew = w8 at HX HG HS HD HB HF HZ HA ⊢
  refine pure_ (i := 0) (N := some 86) (v := ?_) (a' := ?_) #[true, false, false, false, false, false, false, false, false, false] rfl rfl (any_of HT_.out (by kernel_rfl)) (fun _ _ _ h => h) (Or.inl ⟨by rfl, ?_⟩) ?_ ?_
  rotate_left
  · intro w'
    go_simp
    with_reducible rfl
  rotate_left
  · simp only [Act.put, List.setIfInBounds_toArray, List.set_cons_zero, List.set_cons_succ, i64_w, i32_w]
    rfl
  refine pure_ (i := 1) (N := some 87) (v := ?_) (a' := ?_) #[true, true, false, false, false, false, false, false, false, false] rfl rfl (any_of HT_.out (by kernel_rfl)) (fun _ _ _ h => h) (Or.inl ⟨by rfl, ?_⟩) ?_ ?_
  rotate_left
  · intro w'
    go_simp
    with_reducible rfl
  rotate_left
  · simp only [Act.put, List.setIfInBounds_toArray, List.set_cons_zero, List.set_cons_succ, i64_w, i32_w]
    rfl
  refine pure_ (i := 2) (N := some 88) (v := ?_) (a' := ?_) #[true, true, true, false, false, false, false, false, false, false] rfl rfl (any_of HT_.out (by kernel_rfl)) (fun _ _ _ h => h) (Or.inl ⟨by rfl, ?_⟩) ?_ ?_
  rotate_left
  · intro w'
    go_simp
    with_reducible rfl
  rotate_left
  · simp only [Act.put, List.setIfInBounds_toArray, List.set_cons_zero, List.set_cons_succ, i64_w, i32_w]
    rfl
  refine pure_ (i := 3) (N := some 89) (v := ?_) (a' := ?_) #[true, true, true, true, false, false, false, false, false, false] rfl rfl (any_of HT_.out (by kernel_rfl)) (fun _ _ _ h => h) (Or.inl ⟨by rfl, ?_⟩) ?_ ?_
  rotate_left
  · intro w'
    go_simp
    with_reducible rfl
  rotate_left
  · simp only [Act.put, List.setIfInBounds_toArray, List.set_cons_zero, List.set_cons_succ, i64_w, i32_w]
    rfl
  refine pure_ (i := 4) (N := some 90) (v := ?_) (a' := ?_) #[true, true, true, true, true, false, false, false, false, false] rfl rfl (any_of HT_.out (by kernel_rfl)) (fun _ _ _ h => h) (Or.inl ⟨by rfl, ?_⟩) ?_ ?_
  rotate_left
  · intro w'
    go_simp
    with_reducible rfl
  rotate_left
  · simp only [Act.put, List.setIfInBounds_toArray, List.set_cons_zero, List.set_cons_succ, i64_w, i32_w]
    rfl
  have hgc : w8.cell? ⟨g, 3, none⟩ = some (.string whole) := (blk_cell HG.out 3).trans rfl
  have hgf := blk_frozen HG.out 3
  refine one_ (i := 5) (N := none) #[true, true, true, true, true, true, false, false, false, false] rfl rfl (one_of HT_.out (by kernel_rfl)) (by decide) (fun K hK => ?_)
  refine skip_ (w1 := ?_) (by rfl) rfl ?_ ?_
  rotate_left
  · go_simp
    rfl
  refine hK.out _ _ trivial (fun hHeld => ?_)
  clear hK K hgc hgf hHeld
  have mHX : Aside0 (RdAt p vo (.slice A8_1 B1.length c8_1) line ⟨#[]⟩ 0 (w8.setCell ⟨g, 3, none⟩ (.string ⟨#[]⟩))) := ⟨blk_far HX.out HPG.out _⟩
  have mHG : Aside0 ((w8.setCell ⟨g, 3, none⟩ (.string ⟨#[]⟩)).heap[g]? = some (.cells #[.int .i64 frm, .string ⟨#[]⟩, .slice none 0 0, .string ⟨#[]⟩] 35 (0, 0))) := ⟨blk_put HG.out 3 _ rfl⟩
  have mHS : Aside0 (Kd.S k35 35 (w8.setCell ⟨g, 3, none⟩ (.string ⟨#[]⟩)) w0.heap.size (fun q => (ok q ∧ q ≠ g) ∧ q < N) vo out) := ⟨Kd.S_far (p := ⟨g, 3, none⟩) HS.out (fun q hq => hq.1.2) _⟩
  have mHD : Aside0 (Kd.S k37 37 (w8.setCell ⟨g, 3, none⟩ (.string ⟨#[]⟩)) w0.heap.size (fun q => ok q ∧ q ≠ g) (.slice A8_1 B1.length c8_1) B1) := ⟨Kd.S_far (p := ⟨g, 3, none⟩) HD.out (fun q hq => hq.2) _⟩
  have mHB : Aside0 (Below w0.heap.size w0 (w8.setCell ⟨g, 3, none⟩ (.string ⟨#[]⟩))) := ⟨below_set HB.out HGB.out⟩
  have mHF : Aside0 (Fr ok p W (w8.setCell ⟨g, 3, none⟩ (.string ⟨#[]⟩))) := ⟨HF.out.set_new HGW.out 3 _⟩
  have mHZ : Aside0 (g < (w8.setCell ⟨g, 3, none⟩ (.string ⟨#[]⟩)).heap.size) := ⟨by simpa using HZ.out⟩
  have mHA : Aside0 (Kd.R Kd.string 9 (w8.setCell ⟨g, 3, none⟩ (.string ⟨#[]⟩)) w0.heap.size (fun q => N ≤ q ∧ q ≠ g ∧ q ≠ p) (.slice Aa 200 ca) (l.take 200)) := ⟨Kd.R_far (p := ⟨g, 3, none⟩) HA.out (fun q hq => hq.2.1) _⟩
  clear HX HG HS HD HB HF HZ HA
  have HX := mHX
  have HG := mHG
  have HS := mHS
  have HD := mHD
  have HB := mHB
  have HF := mHF
  have HZ := mHZ
  have HA := mHA
  clear mHX mHG mHS mHD mHB mHF mHZ mHA
  generalize w8.setCell ⟨g, 3, none⟩ (.string ⟨#[]⟩) = w9 at HX HG HS HD HB HF HZ HA ⊢
  refine pure_ (i := 6) (N := some 91) (v := ?_) (a' := ?_) #[true, true, true, true, true, true, true, false, false, false] rfl rfl (any_of HT_.out (by kernel_rfl)) (fun _ _ _ h => h) (Or.inl ⟨by rfl, ?_⟩) ?_ ?_
  rotate_left
  · intro w'
    go_simp
    with_reducible rfl
  rotate_left
  · simp only [Act.put, List.setIfInBounds_toArray, List.set_cons_zero, List.set_cons_succ, i64_w, i32_w]
    rfl
  have hgc : w9.cell? ⟨g, 1, none⟩ = some (.string ⟨#[]⟩) := (blk_cell HG.out 1).trans rfl
  have hgf := blk_frozen HG.out 1
  refine one_ (i := 7) (N := none) #[true, true, true, true, true, true, true, true, false, false] rfl rfl (one_of HT_.out (by kernel_rfl)) (by decide) (fun K hK => ?_)
  refine skip_ (w1 := ?_) (by rfl) rfl ?_ ?_
  rotate_left
  · go_simp
    rfl
  refine hK.out _ _ trivial (fun hHeld => ?_)
  clear hK K hgc hgf hHeld
  have mHX : Aside0 (RdAt p vo (.slice A8_1 B1.length c8_1) line ⟨#[]⟩ 0 (w9.setCell ⟨g, 1, none⟩ (.string (rest.extract 0 n.toNat)))) := ⟨blk_far HX.out HPG.out _⟩
  have mHG : Aside0 ((w9.setCell ⟨g, 1, none⟩ (.string (rest.extract 0 n.toNat))).heap[g]? = some (.cells #[.int .i64 frm, .string (rest.extract 0 n.toNat), .slice none 0 0, .string ⟨#[]⟩] 35 (0, 0))) := ⟨blk_put HG.out 1 _ rfl⟩
  have mHS : Aside0 (Kd.S k35 35 (w9.setCell ⟨g, 1, none⟩ (.string (rest.extract 0 n.toNat))) w0.heap.size (fun q => (ok q ∧ q ≠ g) ∧ q < N) vo out) := ⟨Kd.S_far (p := ⟨g, 1, none⟩) HS.out (fun q hq => hq.1.2) _⟩
  have mHD : Aside0 (Kd.S k37 37 (w9.setCell ⟨g, 1, none⟩ (.string (rest.extract 0 n.toNat))) w0.heap.size (fun q => ok q ∧ q ≠ g) (.slice A8_1 B1.length c8_1) B1) := ⟨Kd.S_far (p := ⟨g, 1, none⟩) HD.out (fun q hq => hq.2) _⟩
  have mHB : Aside0 (Below w0.heap.size w0 (w9.setCell ⟨g, 1, none⟩ (.string (rest.extract 0 n.toNat)))) := ⟨below_set HB.out HGB.out⟩
  have mHF : Aside0 (Fr ok p W (w9.setCell ⟨g, 1, none⟩ (.string (rest.extract 0 n.toNat)))) := ⟨HF.out.set_new HGW.out 1 _⟩
  have mHZ : Aside0 (g < (w9.setCell ⟨g, 1, none⟩ (.string (rest.extract 0 n.toNat))).heap.size) := ⟨by simpa using HZ.out⟩
  have mHA : Aside0 (Kd.R Kd.string 9 (w9.setCell ⟨g, 1, none⟩ (.string (rest.extract 0 n.toNat))) w0.heap.size (fun q => N ≤ q ∧ q ≠ g ∧ q ≠ p) (.slice Aa 200 ca) (l.take 200)) := ⟨Kd.R_far (p := ⟨g, 1, none⟩) HA.out (fun q hq => hq.2.1) _⟩
  clear HX HG HS HD HB HF HZ HA
  have HX := mHX
  have HG := mHG
  have HS := mHS
  have HD := mHD
  have HB := mHB
  have HF := mHF
  have HZ := mHZ
  have HA := mHA
  clear mHX mHG mHS mHD mHB mHF mHZ mHA
  generalize w9.setCell ⟨g, 1, none⟩ (.string (rest.extract 0 n.toNat)) = w10 at HX HG HS HD HB HF HZ HA ⊢
  refine pure_ (i := 8) (N := some 92) (v := ?_) (a' := ?_) #[true, true, true, true, true, true, true, true, true, false] rfl rfl (any_of HT_.out (by kernel_rfl)) (fun _ _ _ h => h) (Or.inl ⟨by rfl, ?_⟩) ?_ ?_
  rotate_left
  · intro w'
    go_simp
    with_reducible rfl
  rotate_left
  · simp only [Act.put, List.setIfInBounds_toArray, List.set_cons_zero, List.set_cons_succ, i64_w, i32_w]
    rfl
  have hgc : w10.cell? ⟨g, 2, none⟩ = some (.slice none 0 0) := (blk_cell HG.out 2).trans rfl
  have hgf := blk_frozen HG.out 2
  refine one_ (i := 9) (N := none) #[true, true, true, true, true, true, true, true, true, true] rfl rfl (one_of HT_.out (by kernel_rfl)) (by decide) (fun K hK => ?_)
  refine skip_ (w1 := ?_) (by rfl) rfl ?_ ?_
  rotate_left
  · go_simp
    rfl
  refine hK.out _ _ trivial (fun hHeld => ?_)
  clear hK K hgc hgf hHeld
  have mHX : Aside0 (RdAt p vo (.slice A8_1 B1.length c8_1) line ⟨#[]⟩ 0 (w10.setCell ⟨g, 2, none⟩ ((.slice Aa 200 ca)))) := ⟨blk_far HX.out HPG.out _⟩
  have mHG : Aside0 ((w10.setCell ⟨g, 2, none⟩ ((.slice Aa 200 ca))).heap[g]? = some (.cells #[.int .i64 frm, .string (rest.extract 0 n.toNat), (.slice Aa 200 ca), .string ⟨#[]⟩] 35 (0, 0))) := ⟨blk_put HG.out 2 _ rfl⟩
  have mHS : Aside0 (Kd.S k35 35 (w10.setCell ⟨g, 2, none⟩ ((.slice Aa 200 ca))) w0.heap.size (fun q => (ok q ∧ q ≠ g) ∧ q < N) vo out) := ⟨Kd.S_far (p := ⟨g, 2, none⟩) HS.out (fun q hq => hq.1.2) _⟩
  have mHD : Aside0 (Kd.S k37 37 (w10.setCell ⟨g, 2, none⟩ ((.slice Aa 200 ca))) w0.heap.size (fun q => ok q ∧ q ≠ g) (.slice A8_1 B1.length c8_1) B1) := ⟨Kd.S_far (p := ⟨g, 2, none⟩) HD.out (fun q hq => hq.2) _⟩
  have mHB : Aside0 (Below w0.heap.size w0 (w10.setCell ⟨g, 2, none⟩ ((.slice Aa 200 ca)))) := ⟨below_set HB.out HGB.out⟩
  have mHF : Aside0 (Fr ok p W (w10.setCell ⟨g, 2, none⟩ ((.slice Aa 200 ca)))) := ⟨HF.out.set_new HGW.out 2 _⟩
  have mHZ : Aside0 (g < (w10.setCell ⟨g, 2, none⟩ ((.slice Aa 200 ca))).heap.size) := ⟨by simpa using HZ.out⟩
  have mHA : Aside0 (Kd.R Kd.string 9 (w10.setCell ⟨g, 2, none⟩ ((.slice Aa 200 ca))) w0.heap.size (fun q => N ≤ q ∧ q ≠ g ∧ q ≠ p) (.slice Aa 200 ca) (l.take 200)) := ⟨Kd.R_far (p := ⟨g, 2, none⟩) HA.out (fun q hq => hq.2.1) _⟩
  clear HX HG HS HD HB HF HZ HA
  have HX := mHX
  have HG := mHG
  have HS := mHS
  have HD := mHD
  have HB := mHB
  have HF := mHF
  have HZ := mHZ
  have HA := mHA
  clear mHX mHG mHS mHD mHB mHF mHZ mHA
  generalize w10.setCell ⟨g, 2, none⟩ ((.slice Aa 200 ca)) = w11 at HX HG HS HD HB HF HZ HA ⊢
  refine done_ (done_of HT_.out (by kernel_rfl)) ?_
  go_wp2
  obtain ⟨Av, cv, rfl⟩ := Kd.S_slice HS.out
  refine start_ (n := 11) (S := fun w' => w'.cell? ⟨p, 0, none⟩ = some (.slice Av out.length cv) ∧ w'.cell? ⟨g, 0, none⟩ = some (.int .i64 frm) ∧ w'.cell? ⟨g, 1, none⟩ = some (.string (rest.extract 0 n.toNat)) ∧ w'.cell? ⟨g, 2, none⟩ = some ((.slice Aa 200 ca)) ∧ w'.cell? ⟨g, 3, none⟩ = some (.string ⟨#[]⟩)) (ds := [10]) #[false, false, false, false, false, false, false, false, false, false, false] (by kernel_rfl) rfl rfl ?_ (fun hHeld => ?_)
  · exact ⟨(blk_cell HX.out 0).trans rfl, (blk_cell HG.out 0).trans rfl, (blk_cell HG.out 1).trans rfl, (blk_cell HG.out 2).trans rfl, (blk_cell HG.out 3).trans rfl⟩
  refine with_tabW lines_done.tab14 lines_done.bits14 (fun HT_ HW_ => ?_)
  have mHX : Aside0 (RdAt p (.slice Av out.length cv) (.slice A8_1 B1.length c8_1) line ⟨#[]⟩ 0 (w11.drew)) := ⟨HX.out⟩
  have mHG : Aside0 ((w11.drew).heap[g]? = some (.cells #[.int .i64 frm, .string (rest.extract 0 n.toNat), (.slice Aa 200 ca), .string ⟨#[]⟩] 35 (0, 0))) := ⟨HG.out⟩
  have mHS : Aside0 (Kd.S k35 35 (w11.drew) w0.heap.size (fun q => (ok q ∧ q ≠ g) ∧ q < N) (.slice Av out.length cv) out) := ⟨Kd.S_drew HS.out⟩
  have mHD : Aside0 (Kd.S k37 37 (w11.drew) w0.heap.size (fun q => ok q ∧ q ≠ g) (.slice A8_1 B1.length c8_1) B1) := ⟨Kd.S_drew HD.out⟩
  have mHB : Aside0 (Below w0.heap.size w0 (w11.drew)) := ⟨below_drew HB.out⟩
  have mHF : Aside0 (Fr ok p W (w11.drew)) := ⟨HF.out.below (below_drew (Below.refl _ _))⟩
  have mHZ : Aside0 (g < (w11.drew).heap.size) := ⟨HZ.out⟩
  have mHA : Aside0 (Kd.R Kd.string 9 (w11.drew) w0.heap.size (fun q => N ≤ q ∧ q ≠ g ∧ q ≠ p) (.slice Aa 200 ca) (l.take 200)) := ⟨Kd.R_drew HA.out⟩
  clear HX HG HS HD HB HF HZ HA
  have HX := mHX
  have HG := mHG
  have HS := mHS
  have HD := mHD
  have HB := mHB
  have HF := mHF
  have HZ := mHZ
  have HA := mHA
  clear mHX mHG mHS mHD mHB mHF mHZ mHA
  generalize w11.drew = w12 at HX HG HS HD HB HF HZ HA hHeld ⊢
  refine pure_ (i := 0) (N := some 93) (v := ?_) (a' := ?_) #[true, false, false, false, false, false, false, false, false, false, false] rfl rfl (any_of HT_.out (by kernel_rfl)) (fun _ _ _ h => h) (Or.inl ⟨by rfl, ?_⟩) ?_ ?_
  rotate_left
  · intro w'
    go_simp
    with_reducible rfl
  rotate_left
  · simp only [Act.put, List.setIfInBounds_toArray, List.set_cons_zero, List.set_cons_succ, i64_w, i32_w]
    rfl
  refine pure_ (i := 1) (N := some 94) (v := ?_) (a' := ?_) #[true, true, false, false, false, false, false, false, false, false, false] rfl rfl (any_of HT_.out (by kernel_rfl)) (fun _ _ _ h => h) (Or.inl ⟨by rfl, ?_⟩) ?_ ?_
  rotate_left
  · intro w'
    go_simp
    with_reducible rfl
  rotate_left
  · simp only [Act.put, List.setIfInBounds_toArray, List.set_cons_zero, List.set_cons_succ, i64_w, i32_w]
    rfl
  refine pure_ (i := 2) (N := some 95) (v := ?_) (a' := ?_) #[true, true, true, false, false, false, false, false, false, false, false] rfl rfl (any_of HT_.out (by kernel_rfl)) (fun _ _ _ h => h) (Or.inl ⟨by rfl, ?_⟩) ?_ ?_
  rotate_left
  · intro w'
    go_simp
    with_reducible rfl
  rotate_left
  · simp only [Act.put, List.setIfInBounds_toArray, List.set_cons_zero, List.set_cons_succ, i64_w, i32_w]
    rfl
  refine pure_ (i := 3) (N := some 96) (v := ?_) (a' := ?_) #[true, true, true, true, false, false, false, false, false, false, false] rfl rfl (any_of HT_.out (by kernel_rfl)) (fun _ _ _ h => h) (Or.inl ⟨by rfl, ?_⟩) ?_ ?_
  rotate_left
  · intro w'
    go_simp
    with_reducible rfl
  rotate_left
  · simp only [Act.put, List.setIfInBounds_toArray, List.set_cons_zero, List.set_cons_succ, i64_w, i32_w]
    rfl
  refine take_ (i := 4) (N := some 97) (v := ?_) (a' := ?_) #[true, true, true, true, true, false, false, false, false, false, false] rfl rfl (take_ofW HT_.out HW_.out (by kernel_rfl)) (fun _ _ _ h => h) (Or.inl ⟨by rfl, ?_⟩) hHeld ?_ ?_
  rotate_left
  · rintro w' ⟨s0, s1, s2, s3, s4⟩
    go_simp
    with_reducible rfl
  rotate_left
  · simp only [Act.put, List.setIfInBounds_toArray, List.set_cons_zero, List.set_cons_succ, i64_w, i32_w]
    rfl
  refine take_ (i := 5) (N := some 98) (v := ?_) (a' := ?_) #[true, true, true, true, true, true, false, false, false, false, false] rfl rfl (take_ofW HT_.out HW_.out (by kernel_rfl)) (fun _ _ _ h => h) (Or.inl ⟨by rfl, ?_⟩) hHeld ?_ ?_
  rotate_left
  · rintro w' ⟨s0, s1, s2, s3, s4⟩
    go_simp
    with_reducible rfl
  rotate_left
  · simp only [Act.put, List.setIfInBounds_toArray, List.set_cons_zero, List.set_cons_succ, i64_w, i32_w]
    rfl
  refine one_ (i := 6) (N := some 99) #[true, true, true, true, true, true, true, false, false, false, false] rfl rfl (one_of HT_.out (by kernel_rfl)) (by decide) (fun K hK => ?_)
  refine value_ (w1 := ?_) (v := ?_) (by rfl) rfl ?_ ?_
  rotate_left 2
  · go_simp
    constructor
    · rfl
    · rfl
  refine hK.out _ _ ⟨Lib.cell?_alloc_some _ hHeld.1, Lib.cell?_alloc_some _ hHeld.2.1, Lib.cell?_alloc_some _ hHeld.2.2.1, Lib.cell?_alloc_some _ hHeld.2.2.2.1, Lib.cell?_alloc_some _ hHeld.2.2.2.2⟩ (fun hHeld => ?_)
  clear hK K
  refine norm_ (a' := ?_) ?_ ?_
  rotate_left
  · show Act.put _ (some 99) _ = _
    simp only [Act.put, List.setIfInBounds_toArray, List.set_cons_zero, List.set_cons_succ, i64_w, i32_w]
    rfl
  refine one_ (i := 7) (N := some 100) #[true, true, true, true, true, true, true, true, false, false, false] rfl rfl (one_of HT_.out (by kernel_rfl)) (by decide) (fun K hK => ?_)
  refine Kd.S_append_step k35 (w0 := w0) w0.heap.size (by rfl) (.tmp 97) (.tmp 99) 30 35 (.agg #[(.int .i64 0), (.string ⟨#[]⟩), (.slice none 0 0), (.string ⟨#[]⟩)]) 64 rfl Tryd.underlying30 info35 rfl (by decide) (by omega) (.slice Av out.length cv) out ⟨frm, rest.extract 0 n.toNat, (l.take 200), ⟨#[]⟩⟩ [.int .i64 frm, .string (rest.extract 0 n.toNat), (.slice Aa 200 ca), .string ⟨#[]⟩] (fun q => ok q ∧ q ≠ g) (fun q => some q = ((.slice Aa 200 ca) : Value).ownBlock) rfl rfl ?aP ?aK ?aF ?aO ?aB ?aS ?aL ?_
  case aP => exact k35_mkM _ _ _ _ (Kd.R_tight rfl HA.out)
  case aK =>
    intro q hq
    have h1 := HA.out.1 q hq.symm
    refine ⟨HOK.out q (by have := HNG.out; omega), fun e => ?_⟩
    have := ((Kd.S_R HS.out).1 q e.symm).2
    omega
  case aF => exact fun q hq => HOK.out q (by have := HZ.out; omega)
  case aO =>
    refine Kd.S_mono HS.out (fun q hq => ⟨hq.1, fun e => ?_⟩)
    have h1 := HA.out.1 q e.symm
    have := hq.2
    omega
  case aB => exact HB.out
  case aS => exact HB.out.size
  case aL => have := HL.out.1; omega
  intro v7 w7 hs7 hb7 hg7 hat7
  have hrow : ∀ q, ((.slice Av out.length cv) : Value).ownBlock = some q → ok q ∧ q ≠ p ∧ q ≠ g := fun q hq => by
    have h1 := (Kd.S_R HS.out).1 q hq
    exact ⟨h1.1.1, fun e => HPK.out (e ▸ h1.1.1), h1.1.2⟩
  obtain ⟨O7, hO7⟩ : ∃ O7, O7 = out ++ [⟨frm, rest.extract 0 n.toNat, (l.take 200), ⟨#[]⟩⟩] := ⟨_, rfl⟩
  rw [← hO7] at hs7
  obtain ⟨A7, c7, rfl⟩ := Kd.S_slice hs7
  have mX : Aside0 (RdAt p (.slice Av out.length cv) (.slice A8_1 B1.length c8_1) line ⟨#[]⟩ 0 w7) := ⟨blk_grown HX.out hg7 (fun e => (hrow p e.symm).2.1 rfl)⟩
  have mG : Aside0 (w7.heap[g]? = some (.cells #[.int .i64 frm, .string (rest.extract 0 n.toNat), (.slice Aa 200 ca), .string ⟨#[]⟩] 35 (0, 0))) := ⟨blk_grown HG.out hg7 (fun e => (hrow g e.symm).2.2 rfl)⟩
  have mD : Aside0 (Kd.S k37 37 w7 w0.heap.size (fun q => ok q ∧ q ≠ g) (.slice A8_1 B1.length c8_1) B1) := ⟨Kd.S_over' HD.out (Kd.S_typed HS.out) (by decide) hg7⟩
  have mF : Aside0 (Fr ok p W w7) := ⟨HF.out.grown hg7 (fun q hq => ⟨(hrow q hq).1, by obtain ⟨cells, hc⟩ := Kd.S_typed HS.out q hq; exact ⟨_, _, _, hc⟩⟩)⟩
  have mS := Aside0.mk hs7
  have mB := Aside0.mk hb7
  have HO7 := Aside0.mk hO7
  clear HX HG HS HD HB HF HZ hs7 hb7 hg7 hat7 hrow hO7 HA
  refine hK.out _ _ ⟨(blk_cell mX.out 0).trans rfl, (blk_cell mG.out 0).trans rfl, (blk_cell mG.out 1).trans rfl, (blk_cell mG.out 2).trans rfl, (blk_cell mG.out 3).trans rfl⟩ (fun hHeld => ?_)
  clear hK K hHeld
  refine norm_ (a' := ?_) ?_ ?_
  rotate_left
  · show Act.put _ (some 100) _ = _
    simp only [Act.put, List.setIfInBounds_toArray, List.set_cons_zero, List.set_cons_succ, i64_w, i32_w]
    rfl
  have hx0 : w7.cell? ⟨p, 0, none⟩ = some (.slice Av out.length cv) := (blk_cell mX.out 0).trans rfl
  have hf0 := blk_frozen mX.out 0
  refine pure_ (i := 8) (N := some 101) (v := ?_) (a' := ?_) #[true, true, true, true, true, true, true, true, true, false, false] rfl rfl (any_of HT_.out (by kernel_rfl)) (fun _ _ _ h => h) (Or.inl ⟨by rfl, ?_⟩) ?_ ?_
  rotate_left
  · intro w'
    go_simp
    with_reducible rfl
  rotate_left
  · simp only [Act.put, List.setIfInBounds_toArray, List.set_cons_zero, List.set_cons_succ, i64_w, i32_w]
    rfl
  refine pure_ (i := 9) (N := some 102) (v := ?_) (a' := ?_) #[true, true, true, true, true, true, true, true, true, true, false] rfl rfl (any_of HT_.out (by kernel_rfl)) (fun _ _ _ h => h) (Or.inl ⟨by rfl, ?_⟩) ?_ ?_
  rotate_left
  · intro w'
    go_simp
    with_reducible rfl
  rotate_left
  · simp only [Act.put, List.setIfInBounds_toArray, List.set_cons_zero, List.set_cons_succ, i64_w, i32_w]
    rfl
  refine last_ (i := 10) (N := none) #[true, true, true, true, true, true, true, true, true, true, true] rfl rfl (one_of HT_.out (by kernel_rfl)) (by decide) (fun K hK => ?_)
  refine skip_ (w1 := ?_) (by rfl) rfl ?_ ?_
  rotate_left
  · go_simp
    rfl
  refine hK.out _ _ ?_
  clear hK K hx0 hf0
  refine done_ (done_of HT_.out (by kernel_rfl)) ?_
  go_wp2
  first | go_end0 | ((try simp only [Exit.inBlock, Exit.then]); refine bodyPost_ret (results_none rfl _ _ _) rfl ?_)
  have e_ := HO7.out
  clear HO7
  subst e_
  have e_ := HB1.out
  clear HB1
  subst e_
  exact ⟨rfl, _, _, blk_put mX.out 0 _ rfl, Kd.S_mono (Kd.S_far (p := ⟨p, 0, none⟩) mS.out (fun q hq => ne_ok HPK.out (hq.1)) _) (fun q hq => hq.1), Kd.S_mono (Kd.S_far (p := ⟨p, 0, none⟩) mD.out (fun q hq => ne_ok HPK.out (hq.1)) _) (fun q hq => hq.1), below_set mB.out HP.out, mF.out.set_p mX.out 0 _⟩
set_option maxHeartbeats 8000000 in
set_option maxRecDepth 100000 in
theorem done_macro10 (k : Nat) (w0 W : World) (p : Nat) (ok : Nat → Prop) (vo vb : Value) (out : List Rw) (bad : List Dg) (line : Int) (whole : ByteArray) (frm : Int) (rest : ByteArray) (n : Int) (l : List ByteArray)
    (hB : Below w0.heap.size w0 W) (hX : RdAt p vo vb line whole frm W) (hp : w0.heap.size ≤ p) (hok : ∀ q, W.heap.size ≤ q → ok q) (hpk : ¬ ok p)
    (hS : Kd.S k35 35 W w0.heap.size ok vo out) (hD : Kd.S k37 37 W w0.heap.size ok vb bad) (hl : out.length ≤ 1000000000 ∧ bad.length ≤ 1000000000)
    (hc : lines_control.f whole = some (rest, true)) (hrs : rest.size ≤ 4294960000) (hi : strings_IndexAny.f (rest ++ ⟨#[32]⟩) ⟨#[32, 9]⟩ = some n) (hn : n ≠ 0) (hn0 : 0 ≤ n) (hnr : n ≤ rest.size)
    (hr : lines_Args.f k (rest.extract n.toNat rest.size) = some (l, false)) (hbig : ¬ (200 : Int) < (l.length : Int)) :
    Calls Tryd.prog 34 #[.pointer (some ⟨p, 0, none⟩)] W fun e w' => e = .returned (.tuple #[]) ∧ ∃ vo' vb', RdAt p vo' vb' line ⟨#[]⟩ 0 w' ∧ Kd.S k35 35 w' w0.heap.size ok vo' (out ++ [⟨frm, rest.extract 0 n.toNat, l, ⟨#[]⟩⟩]) ∧ Kd.S k37 37 w' w0.heap.size ok vb' (bad ++ [⟨5, frm, 0⟩]) ∧ Below w0.heap.size w0 w' ∧ Fr ok p W w' := by
  have hu35 := Tryd.underlying35
  have hu55 := Tryd.underlying55
  have HB := Aside0.mk hB
  have HX := Aside0.mk hX
  have HS := Aside0.mk hS
  have HD := Aside0.mk hD
  have HP := Aside0.mk hp
  have HOK := Aside0.mk hok
  have HPK := Aside0.mk hpk
  have HL := Aside0.mk hl
  have HC := Aside0.mk hc
  have HN0 : Aside0 (w0.heap.size ≤ W.heap.size) := ⟨hB.size⟩
  have hx3 : W.cell? ⟨p, 3, none⟩ = some (.string whole) := (blk_cell HX.out 3).trans rfl
  have hx4 : W.cell? ⟨p, 4, none⟩ = some (.int .i64 frm) := (blk_cell HX.out 4).trans rfl
  clear hB hX hS hD hp hok hpk hl hc
  go_enter Tryd.func34, Tryd.ntmps34
  go_wp2
  refine start_ (n := 11) (S := fun w' => w'.cell? ⟨p, 3, none⟩ = some (.string whole) ∧ w'.cell? ⟨p, 4, none⟩ = some (.int .i64 frm)) (ds := []) #[false, false, false, false, false, false, false, false, false, false, false] (by kernel_rfl) rfl rfl ?_ (fun hHeld => ?_)
  · exact ⟨hx3, hx4⟩
  refine with_tabW lines_done.tab0 lines_done.bits0 (fun HT_ HW_ => ?_)
  have HB1 : Aside0 (Below w0.heap.size w0 W.drew) := ⟨below_drew HB.out⟩
  have HX1 : Aside0 (RdAt p vo vb line whole frm W.drew) := ⟨HX.out⟩
  have HS1 := Aside0.mk (Kd.S_mono (ok' := fun q => ok q ∧ q < W.drew.heap.size) (Kd.S_bound (Kd.S_drew HS.out)) (fun q hq => ⟨hq.1, hq.2.2.1⟩))
  have HD1 := Aside0.mk (Kd.S_mono (ok' := fun q => ok q ∧ q < W.drew.heap.size) (Kd.S_bound (Kd.S_drew HD.out)) (fun q hq => ⟨hq.1, hq.2.2.1⟩))
  have HOK1 : Aside0 (∀ q, W.drew.heap.size ≤ q → ok q) := ⟨HOK.out⟩
  have HF1 : Aside0 (Fr ok p W W.drew) := ⟨(Fr.refl ok p W).below (below_drew (Below.refl _ _))⟩
  have HWG : Aside0 (W.heap.size ≤ W.drew.heap.size) := ⟨Nat.le_refl _⟩
  clear HB HX HS HD HOK hx3 hx4
  generalize W.drew = w1 at HB1 HX1 HS1 HD1 HOK1 HF1 HWG hHeld ⊢
  refine pure_ (i := 0) (N := some 8) (v := ?_) (a' := ?_) #[true, false, false, false, false, false, false, false, false, false, false] rfl rfl (any_of HT_.out (by kernel_rfl)) (fun _ _ _ h => h) (Or.inl ⟨by rfl, ?_⟩) ?_ ?_
  rotate_left
  · intro w'
    go_simp
    with_reducible rfl
  rotate_left
  · simp only [Act.put, List.setIfInBounds_toArray, List.set_cons_zero, List.set_cons_succ, i64_w, i32_w]
    rfl
  refine pure_ (i := 1) (N := some 9) (v := ?_) (a' := ?_) #[true, true, false, false, false, false, false, false, false, false, false] rfl rfl (any_of HT_.out (by kernel_rfl)) (fun _ _ _ h => h) (Or.inl ⟨by rfl, ?_⟩) ?_ ?_
  rotate_left
  · intro w'
    go_simp
    with_reducible rfl
  rotate_left
  · simp only [Act.put, List.setIfInBounds_toArray, List.set_cons_zero, List.set_cons_succ, i64_w, i32_w]
    rfl
  refine pure_ (i := 2) (N := some 10) (v := ?_) (a' := ?_) #[true, true, true, false, false, false, false, false, false, false, false] rfl rfl (any_of HT_.out (by kernel_rfl)) (fun _ _ _ h => h) (Or.inl ⟨by rfl, ?_⟩) ?_ ?_
  rotate_left
  · intro w'
    go_simp
    with_reducible rfl
  rotate_left
  · simp only [Act.put, List.setIfInBounds_toArray, List.set_cons_zero, List.set_cons_succ, i64_w, i32_w]
    rfl
  refine take_ (i := 3) (N := some 11) (v := ?_) (a' := ?_) #[true, true, true, true, false, false, false, false, false, false, false] rfl rfl (take_ofW HT_.out HW_.out (by kernel_rfl)) (fun _ _ _ h => h) (Or.inl ⟨by rfl, ?_⟩) hHeld ?_ ?_
  rotate_left
  · rintro w' ⟨s0, s1⟩
    go_simp
    with_reducible rfl
  rotate_left
  · simp only [Act.put, List.setIfInBounds_toArray, List.set_cons_zero, List.set_cons_succ, i64_w, i32_w]
    rfl
  refine pure_ (i := 4) (N := some 12) (v := ?_) (a' := ?_) #[true, true, true, true, true, false, false, false, false, false, false] rfl rfl (any_of HT_.out (by kernel_rfl)) (fun _ _ _ h => h) (Or.inl ⟨by rfl, ?_⟩) ?_ ?_
  rotate_left
  · intro w'
    go_simp
    with_reducible rfl
  rotate_left
  · simp only [Act.put, List.setIfInBounds_toArray, List.set_cons_zero, List.set_cons_succ, i64_w, i32_w]
    rfl
  refine pure_ (i := 5) (N := some 13) (v := ?_) (a' := ?_) #[true, true, true, true, true, true, false, false, false, false, false] rfl rfl (any_of HT_.out (by kernel_rfl)) (fun _ _ _ h => h) (Or.inl ⟨by rfl, ?_⟩) ?_ ?_
  rotate_left
  · intro w'
    go_simp
    with_reducible rfl
  rotate_left
  · simp only [Act.put, List.setIfInBounds_toArray, List.set_cons_zero, List.set_cons_succ, i64_w, i32_w]
    rfl
  refine pure_ (i := 6) (N := some 14) (v := ?_) (a' := ?_) #[true, true, true, true, true, true, true, false, false, false, false] rfl rfl (any_of HT_.out (by kernel_rfl)) (fun _ _ _ h => h) (Or.inl ⟨by rfl, ?_⟩) ?_ ?_
  rotate_left
  · intro w'
    go_simp
    with_reducible rfl
  rotate_left
  · simp only [Act.put, List.setIfInBounds_toArray, List.set_cons_zero, List.set_cons_succ, i64_w, i32_w]
    rfl
  refine take_ (i := 7) (N := some 15) (v := ?_) (a' := ?_) #[true, true, true, true, true, true, true, true, false, false, false] rfl rfl (take_ofW HT_.out HW_.out (by kernel_rfl)) (fun _ _ _ h => h) (Or.inl ⟨by rfl, ?_⟩) hHeld ?_ ?_
  rotate_left
  · rintro w' ⟨s0, s1⟩
    go_simp
    with_reducible rfl
  rotate_left
  · simp only [Act.put, List.setIfInBounds_toArray, List.set_cons_zero, List.set_cons_succ, i64_w, i32_w]
    rfl
  refine pure_ (i := 8) (N := some 16) (v := ?_) (a' := ?_) #[true, true, true, true, true, true, true, true, true, false, false] rfl rfl (any_of HT_.out (by kernel_rfl)) (fun _ _ _ h => h) (Or.inl ⟨by rfl, ?_⟩) ?_ ?_
  rotate_left
  · intro w'
    go_simp
    with_reducible rfl
  rotate_left
  · simp only [Act.put, List.setIfInBounds_toArray, List.set_cons_zero, List.set_cons_succ, i64_w, i32_w]
    rfl
  refine one_ (i := 9) (N := some 2) #[true, true, true, true, true, true, true, true, true, true, false] rfl rfl (one_of HT_.out (by kernel_rfl)) (by decide) (fun K hK => ?_)
  refine value_ (w1 := ?_) (v := ?_) (by rfl) rfl ?_ ?_
  rotate_left 2
  · go_simp
    constructor
    · rfl
    · rfl
  refine hK.out _ _ ⟨Lib.cell?_alloc_some _ hHeld.1, Lib.cell?_alloc_some _ hHeld.2⟩ (fun hHeld => ?_)
  clear hK K
  refine norm_ (a' := ?_) ?_ ?_
  rotate_left
  · show Act.put _ (some 2) _ = _
    simp only [Act.put, List.setIfInBounds_toArray, List.set_cons_zero, List.set_cons_succ, i64_w, i32_w]
    rfl
  have hgb := blk_new w1 (.cells #[.int .i64 0, .string ⟨#[]⟩, .slice none 0 0, .string ⟨#[]⟩] 35)
  have HX2 : Aside0 (RdAt p vo vb line whole frm (w1.alloc (.cells #[.int .i64 0, .string ⟨#[]⟩, .slice none 0 0, .string ⟨#[]⟩] 35))) := ⟨blk_alloc HX1.out _⟩
  have HB2 := Aside0.mk (below_alloc HB1.out (.cells #[.int .i64 0, .string ⟨#[]⟩, .slice none 0 0, .string ⟨#[]⟩] 35))
  have HS2 := Aside0.mk (Kd.S_alloc HS1.out (.cells #[.int .i64 0, .string ⟨#[]⟩, .slice none 0 0, .string ⟨#[]⟩] 35))
  have HD2 := Aside0.mk (Kd.S_alloc HD1.out (.cells #[.int .i64 0, .string ⟨#[]⟩, .slice none 0 0, .string ⟨#[]⟩] 35))
  have HF2 : Aside0 (Fr ok p W (w1.alloc (.cells #[.int .i64 0, .string ⟨#[]⟩, .slice none 0 0, .string ⟨#[]⟩] 35))) := ⟨HF1.out.below (below_alloc (Below.refl _ _) _)⟩
  have hsz : (w1.alloc (.cells #[.int .i64 0, .string ⟨#[]⟩, .slice none 0 0, .string ⟨#[]⟩] 35)).heap.size = w1.heap.size + 1 := by simp
  have HPL : Aside0 (p < w1.heap.size) := ⟨blk_lt HX1.out⟩
  generalize w1.alloc (.cells #[.int .i64 0, .string ⟨#[]⟩, .slice none 0 0, .string ⟨#[]⟩] 35) = w2 at HX2 HB2 HS2 HD2 HF2 hgb hsz hHeld ⊢
  clear HX1 HB1 HS1 HD1 HF1
  generalize w1.heap.size = g at hgb hsz HPL HOK1 HS2 HD2 HWG ⊢
  have HG := Aside0.mk hgb
  have h0 : w2.cell? ⟨g, 0, none⟩ = some (.int .i64 0) := (blk_cell hgb 0).trans rfl
  have h1 : w2.cell? ⟨g, 1, none⟩ = some (.string ⟨#[]⟩) := (blk_cell hgb 1).trans rfl
  have h2 : w2.cell? ⟨g, 2, none⟩ = some (.slice none 0 0) := (blk_cell hgb 2).trans rfl
  have h3 : w2.cell? ⟨g, 3, none⟩ = some (.string ⟨#[]⟩) := (blk_cell hgb 3).trans rfl
  have f0 := blk_frozen hgb 0
  have f1 := blk_frozen hgb 1
  have f2 := blk_frozen hgb 2
  have f3 := blk_frozen hgb 3
  refine one_ (i := 10) (N := none) #[true, true, true, true, true, true, true, true, true, true, true] rfl rfl (one_of HT_.out (by kernel_rfl)) (by decide) (fun K hK => ?_)
  refine skip_ (w1 := ?_) (by rfl) rfl ?_ ?_
  rotate_left
  · go_simp
    rfl
  have hgp : w0.heap.size ≤ g := by have := HPL.out; have := HP.out; omega
  have hpg : p ≠ g := by have := HPL.out; omega
  have HG3 := Aside0.mk (blk_put4 HG.out (.int .i64 frm) (.string ⟨#[]⟩) (.slice none 0 0) (.string whole))
  have HX3 : Aside0 (RdAt p vo vb line whole frm ((((w2.setCell ⟨g, 0, none⟩ (.int .i64 frm)).setCell ⟨g, 1, none⟩ (.string ⟨#[]⟩)).setCell ⟨g, 2, none⟩ (.slice none 0 0)).setCell ⟨g, 3, none⟩ (.string whole))) := ⟨blk_far4 HX2.out hpg (.int .i64 frm) (.string ⟨#[]⟩) (.slice none 0 0) (.string whole)⟩
  have HS3 := Aside0.mk (S_far4 HS2.out (g := g) (fun q hq => by omega) (.int .i64 frm) (.string ⟨#[]⟩) (.slice none 0 0) (.string whole))
  have HD3 := Aside0.mk (S_far4 HD2.out (g := g) (fun q hq => by omega) (.int .i64 frm) (.string ⟨#[]⟩) (.slice none 0 0) (.string whole))
  have HB3 := Aside0.mk (below_set (j := 3) (v := .string whole) (below_set (j := 2) (v := .slice none 0 0) (below_set (j := 1) (v := .string ⟨#[]⟩) (below_set (j := 0) (v := .int .i64 frm) HB2.out hgp) hgp) hgp) hgp)
  have HF3 := Aside0.mk ((((HF2.out.set_new HWG.out 0 (.int .i64 frm)).set_new HWG.out 1 (.string ⟨#[]⟩)).set_new HWG.out 2 (.slice none 0 0)).set_new HWG.out 3 (.string whole))
  have HZ : Aside0 (g < ((((w2.setCell ⟨g, 0, none⟩ (.int .i64 frm)).setCell ⟨g, 1, none⟩ (.string ⟨#[]⟩)).setCell ⟨g, 2, none⟩ (.slice none 0 0)).setCell ⟨g, 3, none⟩ (.string whole)).heap.size) := ⟨by have : w2.heap.size = g + 1 := hsz; simp; omega⟩
  refine hK.out _ _ ⟨(blk_cell HX3.out 3).trans rfl, (blk_cell HX3.out 4).trans rfl⟩ (fun hHeld => ?_)
  clear hK K HX2 HB2 HS2 HD2 HF2 HG h0 h1 h2 h3 f0 f1 f2 f3 hgb hsz
  generalize (((w2.setCell ⟨g, 0, none⟩ (.int .i64 frm)).setCell ⟨g, 1, none⟩ (.string ⟨#[]⟩)).setCell ⟨g, 2, none⟩ (.slice none 0 0)).setCell ⟨g, 3, none⟩ (.string whole) = w3 at HG3 HX3 HS3 HD3 HB3 HF3 HZ hHeld ⊢
  refine done_ (done_of HT_.out (by kernel_rfl)) ?_
  have hx3 := hHeld.1
  clear hHeld
  have HG := HG3
  have HX := HX3
  have HS := Aside0.mk (Kd.S_mono (ok' := fun q => ok q ∧ q ≠ g) HS3.out (fun q hq => ⟨hq.1, by omega⟩))
  have HD := Aside0.mk (Kd.S_mono (ok' := fun q => ok q ∧ q ≠ g) HD3.out (fun q hq => ⟨hq.1, by omega⟩))
  have HB := HB3
  have HF := HF3
  have HPG := Aside0.mk hpg
  have HGB := Aside0.mk hgp
  have HGW := HWG
  have HOK : Aside0 (∀ q, g < q → ok q ∧ q ≠ g) := ⟨fun q hq => ⟨HOK1.out q (by omega), by omega⟩⟩
  clear HG3 HX3 HS3 HD3 HB3 HF3 hpg hgp HWG HOK1
  have e1_ : rest.size + 1 ≤ 9223372036854775807 := by omega
  have e2_ := eq_true e1_
  have e3_ := eq_false (Nat.not_lt.2 e1_)
  have HI := Aside0.mk hi
  clear hi
  have HR := Aside0.mk hr
  clear hr
  have n0_ : (n == 0) = false := beq_eq_false_iff_ne.2 hn
  have c1_ : (0 : Int) ≤ n := hn0
  have c2_ : n ≤ (rest.size : Int) := hnr
  go_wp2_with (first | (go_at_call 52; refine (lines_control.calls whole rest true _ HC.out).mono ?_; rintro e w4 ⟨rfl, hb⟩; have mX := Aside0.mk (blk_below HX.out hb); have mG := Aside0.mk (blk_below HG.out hb); have mS := Aside0.mk (Kd.S_below HS.out hb); have mD := Aside0.mk (Kd.S_below HD.out hb); have mB := Aside0.mk (below_step HB.out hb); have mF := Aside0.mk (HF.out.below hb); have mZ := Aside0.mk (Nat.lt_of_lt_of_le HZ.out hb.size); clear HX HG HS HD HB HF HZ; have HX := mX; have HG := mG; have HS := mS; have HD := mD; have HB := mB; have HF := mF; have HZ := mZ; clear mX mG mS mD mB mF mZ; have hx3 : w4.cell? ⟨p, 3, none⟩ = some (.string whole) := (blk_cell HX.out 3).trans rfl; have hx4 : w4.cell? ⟨p, 4, none⟩ = some (.int .i64 frm) := (blk_cell HX.out 4).trans rfl; have hf3 := blk_frozen HX.out 3; have hf4 := blk_frozen HX.out 4; clear hb) | (go_at_call 54; refine (strings_IndexAny.calls _ _ n _ HI.out).mono ?_; rintro e w6 ⟨rfl, hb⟩; have mX : Aside0 (RdAt p vo vb line ⟨#[]⟩ 0 ((w4.setCell ⟨p, 3, none⟩ (.string ⟨#[]⟩)).setCell ⟨p, 4, none⟩ (.int .i64 0))) := ⟨blk_put (blk_put HX.out 3 _ rfl) 4 _ rfl⟩; have mG : Aside0 (((w4.setCell ⟨p, 3, none⟩ (.string ⟨#[]⟩)).setCell ⟨p, 4, none⟩ (.int .i64 0)).heap[g]? = some (.cells #[.int .i64 frm, .string ⟨#[]⟩, .slice none 0 0, .string whole] 35 (0, 0))) := ⟨blk_far (blk_far HG.out (Ne.symm HPG.out) _) (Ne.symm HPG.out) _⟩; have mS := Aside0.mk (Kd.S_far (p := ⟨p, 4, none⟩) (Kd.S_far (p := ⟨p, 3, none⟩) HS.out (fun q hq => ne_ok HPK.out (hq.1)) (.string ⟨#[]⟩)) (fun q hq => ne_ok HPK.out (hq.1)) (.int .i64 0)); have mD := Aside0.mk (Kd.S_far (p := ⟨p, 4, none⟩) (Kd.S_far (p := ⟨p, 3, none⟩) HD.out (fun q hq => ne_ok HPK.out (hq.1)) (.string ⟨#[]⟩)) (fun q hq => ne_ok HPK.out (hq.1)) (.int .i64 0)); have mB := Aside0.mk (below_set (j := 4) (v := .int .i64 0) (below_set (j := 3) (v := .string ⟨#[]⟩) HB.out HP.out) HP.out); have mF := Aside0.mk ((HF.out.set_p HX.out 3 (.string ⟨#[]⟩)).set_p (blk_put HX.out 3 _ rfl) 4 (.int .i64 0)); have mZ : Aside0 (g < ((w4.setCell ⟨p, 3, none⟩ (.string ⟨#[]⟩)).setCell ⟨p, 4, none⟩ (.int .i64 0)).heap.size) := ⟨by simpa using HZ.out⟩; clear HX HG HS HD HB HF HZ; have HX := mX; have HG := mG; have HS := mS; have HD := mD; have HB := mB; have HF := mF; have HZ := mZ; clear mX mG mS mD mB mF mZ; have mX := Aside0.mk (blk_below HX.out hb); have mG := Aside0.mk (blk_below HG.out hb); have mS := Aside0.mk (Kd.S_below HS.out hb); have mD := Aside0.mk (Kd.S_below HD.out hb); have mB := Aside0.mk (below_step HB.out hb); have mF := Aside0.mk (HF.out.below hb); have mZ := Aside0.mk (Nat.lt_of_lt_of_le HZ.out hb.size); clear HX HG HS HD HB HF HZ; have HX := mX; have HG := mG; have HS := mS; have HD := mD; have HB := mB; have HF := mF; have HZ := mZ; clear mX mG mS mD mB mF mZ; clear hx3 hx4 hf3 hf4 hb) | (go_at_call 12; refine (lines_Args.calls k (rest.extract n.toNat rest.size) l false _ HR.out).mono ?_; rintro e w7 ⟨va, rfl, hra, hb⟩; have HA := Aside0.mk (Kd.R_mono (ok' := fun q => w6.heap.size ≤ q ∧ q ≠ g ∧ q ≠ p) (Kd.R_lower (Kd.R_bound hra) HB.out.size) (fun q hq => ⟨hq.2.1, by have h1_ := hq.2.1; have h2_ := HZ.out; have h3_ := blk_lt HX.out; omega, by have h1_ := hq.2.1; have h3_ := blk_lt HX.out; omega⟩)); have HNG : Aside0 (g < w6.heap.size) := ⟨HZ.out⟩; have mX := Aside0.mk (blk_below HX.out hb); have mG := Aside0.mk (blk_below HG.out hb); have mS := Aside0.mk (Kd.S_old HS.out hb); have mD := Aside0.mk (Kd.S_below HD.out hb); have mB := Aside0.mk (below_step HB.out hb); have mF := Aside0.mk (HF.out.below hb); have mZ := Aside0.mk (Nat.lt_of_lt_of_le HZ.out hb.size); clear HX HG HS HD HB HF HZ; have HX := mX; have HG := mG; have HS := mS; have HD := mD; have HB := mB; have HF := mF; have HZ := mZ; clear mX mG mS mD mB mF mZ; obtain ⟨Aa, ca, rfl, hca, _⟩ := Kd.R_reads hra; have HCA := Aside0.mk hca; clear hra hb hca))
  obtain ⟨N, hN⟩ : ∃ N, N = w6.heap.size := ⟨_, rfl⟩
  rw [← hN] at HA HNG HS
  clear hN
  obtain ⟨Ab1, cb1, rfl⟩ := Kd.S_slice HD.out
  refine start_ (n := 13) (S := fun w' => w'.cell? ⟨p, 1, none⟩ = some (.slice Ab1 bad.length cb1) ∧ w'.cell? ⟨g, 0, none⟩ = some (.int .i64 frm)) (ds := [12]) #[false, false, false, false, false, false, false, false, false, false, false, false, false] (by kernel_rfl) rfl rfl ?_ (fun hHeld => ?_)
  · exact ⟨(blk_cell HX.out 1).trans rfl, (blk_cell HG.out 0).trans rfl⟩
  refine with_tabW lines_done.tab9 lines_done.bits9 (fun HT_ HW_ => ?_)
  have mHX : Aside0 (RdAt p vo (.slice Ab1 bad.length cb1) line ⟨#[]⟩ 0 (w7.drew)) := ⟨HX.out⟩
  have mHG : Aside0 ((w7.drew).heap[g]? = some (.cells #[.int .i64 frm, .string ⟨#[]⟩, .slice none 0 0, .string whole] 35 (0, 0))) := ⟨HG.out⟩
  have mHS : Aside0 (Kd.S k35 35 (w7.drew) w0.heap.size (fun q => (ok q ∧ q ≠ g) ∧ q < N) vo out) := ⟨Kd.S_drew HS.out⟩
  have mHD : Aside0 (Kd.S k37 37 (w7.drew) w0.heap.size (fun q => ok q ∧ q ≠ g) (.slice Ab1 bad.length cb1) bad) := ⟨Kd.S_drew HD.out⟩
  have mHB : Aside0 (Below w0.heap.size w0 (w7.drew)) := ⟨below_drew HB.out⟩
  have mHF : Aside0 (Fr ok p W (w7.drew)) := ⟨HF.out.below (below_drew (Below.refl _ _))⟩
  have mHZ : Aside0 (g < (w7.drew).heap.size) := ⟨HZ.out⟩
  have mHA : Aside0 (Kd.R Kd.string 9 (w7.drew) w0.heap.size (fun q => N ≤ q ∧ q ≠ g ∧ q ≠ p) (.slice Aa l.length ca) l) := ⟨Kd.R_drew HA.out⟩
  clear HX HG HS HD HB HF HZ HA
  have HX := mHX
  have HG := mHG
  have HS := mHS
  have HD := mHD
  have HB := mHB
  have HF := mHF
  have HZ := mHZ
  have HA := mHA
  clear mHX mHG mHS mHD mHB mHF mHZ mHA
  generalize w7.drew = w6 at HX HG HS HD HB HF HZ HA hHeld ⊢
  refine pure_ (i := 0) (N := some 57) (v := ?_) (a' := ?_) #[true, false, false, false, false, false, false, false, false, false, false, false, false] rfl rfl (any_of HT_.out (by kernel_rfl)) (fun _ _ _ h => h) (Or.inl ⟨by rfl, ?_⟩) ?_ ?_
  rotate_left
  · intro w'
    go_simp
    with_reducible rfl
  rotate_left
  · simp only [Act.put, List.setIfInBounds_toArray, List.set_cons_zero, List.set_cons_succ, i64_w, i32_w]
    rfl
  refine pure_ (i := 1) (N := some 58) (v := ?_) (a' := ?_) #[true, true, false, false, false, false, false, false, false, false, false, false, false] rfl rfl (any_of HT_.out (by kernel_rfl)) (fun _ _ _ h => h) (Or.inl ⟨by rfl, ?_⟩) ?_ ?_
  rotate_left
  · intro w'
    go_simp
    with_reducible rfl
  rotate_left
  · simp only [Act.put, List.setIfInBounds_toArray, List.set_cons_zero, List.set_cons_succ, i64_w, i32_w]
    rfl
  refine pure_ (i := 2) (N := some 59) (v := ?_) (a' := ?_) #[true, true, true, false, false, false, false, false, false, false, false, false, false] rfl rfl (any_of HT_.out (by kernel_rfl)) (fun _ _ _ h => h) (Or.inl ⟨by rfl, ?_⟩) ?_ ?_
  rotate_left
  · intro w'
    go_simp
    with_reducible rfl
  rotate_left
  · simp only [Act.put, List.setIfInBounds_toArray, List.set_cons_zero, List.set_cons_succ, i64_w, i32_w]
    rfl
  refine pure_ (i := 3) (N := some 60) (v := ?_) (a' := ?_) #[true, true, true, true, false, false, false, false, false, false, false, false, false] rfl rfl (any_of HT_.out (by kernel_rfl)) (fun _ _ _ h => h) (Or.inl ⟨by rfl, ?_⟩) ?_ ?_
  rotate_left
  · intro w'
    go_simp
    with_reducible rfl
  rotate_left
  · simp only [Act.put, List.setIfInBounds_toArray, List.set_cons_zero, List.set_cons_succ, i64_w, i32_w]
    rfl
  refine take_ (i := 4) (N := some 61) (v := ?_) (a' := ?_) #[true, true, true, true, true, false, false, false, false, false, false, false, false] rfl rfl (take_ofW HT_.out HW_.out (by kernel_rfl)) (fun _ _ _ h => h) (Or.inl ⟨by rfl, ?_⟩) hHeld ?_ ?_
  rotate_left
  · rintro w' ⟨s0, s1⟩
    go_simp
    with_reducible rfl
  rotate_left
  · simp only [Act.put, List.setIfInBounds_toArray, List.set_cons_zero, List.set_cons_succ, i64_w, i32_w]
    rfl
  refine pure_ (i := 5) (N := some 62) (v := ?_) (a' := ?_) #[true, true, true, true, true, true, false, false, false, false, false, false, false] rfl rfl (any_of HT_.out (by kernel_rfl)) (fun _ _ _ h => h) (Or.inl ⟨by rfl, ?_⟩) ?_ ?_
  rotate_left
  · intro w'
    go_simp
    with_reducible rfl
  rotate_left
  · simp only [Act.put, List.setIfInBounds_toArray, List.set_cons_zero, List.set_cons_succ, i64_w, i32_w]
    rfl
  refine take_ (i := 6) (N := some 63) (v := ?_) (a' := ?_) #[true, true, true, true, true, true, true, false, false, false, false, false, false] rfl rfl (take_ofW HT_.out HW_.out (by kernel_rfl)) (fun _ _ _ h => h) (Or.inl ⟨by rfl, ?_⟩) hHeld ?_ ?_
  rotate_left
  · rintro w' ⟨s0, s1⟩
    go_simp
    with_reducible rfl
  rotate_left
  · simp only [Act.put, List.setIfInBounds_toArray, List.set_cons_zero, List.set_cons_succ, i64_w, i32_w]
    rfl
  refine pure_ (i := 7) (N := some 64) (v := ?_) (a' := ?_) #[true, true, true, true, true, true, true, true, false, false, false, false, false] rfl rfl (any_of HT_.out (by kernel_rfl)) (fun _ _ _ h => h) (Or.inl ⟨by rfl, ?_⟩) ?_ ?_
  rotate_left
  · intro w'
    go_simp
    with_reducible rfl
  rotate_left
  · simp only [Act.put, List.setIfInBounds_toArray, List.set_cons_zero, List.set_cons_succ, i64_w, i32_w]
    rfl
  refine one_ (i := 8) (N := some 65) #[true, true, true, true, true, true, true, true, true, false, false, false, false] rfl rfl (one_of HT_.out (by kernel_rfl)) (by decide) (fun K hK => ?_)
  refine value_ (w1 := ?_) (v := ?_) (by rfl) rfl ?_ ?_
  rotate_left 2
  · go_simp
    constructor
    · rfl
    · rfl
  refine hK.out _ _ ⟨Lib.cell?_alloc_some _ hHeld.1, Lib.cell?_alloc_some _ hHeld.2⟩ (fun hHeld => ?_)
  clear hK K
  refine norm_ (a' := ?_) ?_ ?_
  rotate_left
  · show Act.put _ (some 65) _ = _
    simp only [Act.put, List.setIfInBounds_toArray, List.set_cons_zero, List.set_cons_succ, i64_w, i32_w]
    rfl
  refine one_ (i := 9) (N := some 66) #[true, true, true, true, true, true, true, true, true, true, false, false, false] rfl rfl (one_of HT_.out (by kernel_rfl)) (by decide) (fun K hK => ?_)
  refine Kd.S_append_step k37 (w0 := w0) w0.heap.size (by rfl) (.tmp 61) (.tmp 65) 31 37 (.agg #[(.int .i64 0), (.int .i64 0), (.int .i64 0)]) 24 rfl Tryd.underlying31 info_Dg rfl (by decide) (by omega) (.slice Ab1 bad.length cb1) bad ⟨5, frm, 0⟩ [.int .i64 5, .int .i64 frm, .int .i64 0] (fun q => ok q ∧ q ≠ g) (fun _ => False) rfl rfl ?aP ?aK ?aF ?aO ?aB ?aS ?aL ?_
  case aP => exact k37_mkM _ _ _ _
  case aK => exact fun q hq => hq.elim
  case aF => exact fun q hq => HOK.out q (by have := HZ.out; omega)
  case aO => exact Kd.S_mono HD.out (fun q hq => ⟨hq, fun e => e⟩)
  case aB => exact HB.out
  case aS => exact HB.out.size
  case aL => have := HL.out.2; omega
  intro v8 w8 hs8 hb8 hg8 hat8
  have hrow : ∀ q, ((.slice Ab1 bad.length cb1) : Value).ownBlock = some q → ok q ∧ q ≠ p ∧ q ≠ g := fun q hq => by
    have h1 := (Kd.S_R HD.out).1 q hq
    exact ⟨h1.1, fun e => HPK.out (e ▸ h1.1), h1.2⟩
  obtain ⟨B1, hB8⟩ : ∃ b, b = bad ++ [⟨5, frm, 0⟩] := ⟨_, rfl⟩
  rw [← hB8] at hs8
  obtain ⟨A8_1, c8_1, rfl⟩ := Kd.S_slice hs8
  have mX : Aside0 (RdAt p vo (.slice Ab1 bad.length cb1) line ⟨#[]⟩ 0 w8) := ⟨blk_grown HX.out hg8 (fun e => (hrow p e.symm).2.1 rfl)⟩
  have mG : Aside0 (w8.heap[g]? = some (.cells #[.int .i64 frm, .string ⟨#[]⟩, .slice none 0 0, .string whole] 35 (0, 0))) := ⟨blk_grown HG.out hg8 (fun e => (hrow g e.symm).2.2 rfl)⟩
  have mS : Aside0 (Kd.S k35 35 w8 w0.heap.size (fun q => (ok q ∧ q ≠ g) ∧ q < N) vo out) := ⟨Kd.S_over' HS.out (Kd.S_typed HD.out) (by decide) hg8⟩
  have mA : Aside0 (Kd.R Kd.string 9 w8 w0.heap.size (fun q => N ≤ q ∧ q ≠ g ∧ q ≠ p) (.slice Aa l.length ca) l) := ⟨Kd.R_over' HA.out (Kd.S_typed HD.out) (by decide) hg8⟩
  have mF : Aside0 (Fr ok p W w8) := ⟨HF.out.grown hg8 (fun q hq => ⟨(hrow q hq).1, by obtain ⟨cells, hc⟩ := Kd.S_typed HD.out q hq; exact ⟨_, _, _, hc⟩⟩)⟩
  have mD := Aside0.mk hs8
  have mB := Aside0.mk hb8
  have mZ := Aside0.mk (Nat.lt_of_lt_of_le HZ.out hg8.size)
  have HB1 := Aside0.mk hB8
  clear HX HG HS HD HB HF HZ HA hs8 hb8 hg8 hat8 hrow hB8
  have HX := mX
  have HG := mG
  have HS := mS
  have HD := mD
  have HB := mB
  have HF := mF
  have HZ := mZ
  have HA := mA
  clear mX mG mS mD mB mF mZ mA
  refine hK.out _ _ ⟨(blk_cell HX.out 1).trans rfl, (blk_cell HG.out 0).trans rfl⟩ (fun hHeld => ?_)
  clear hK K
  refine norm_ (a' := ?_) ?_ ?_
  rotate_left
  · show Act.put _ (some 66) _ = _
    simp only [Act.put, List.setIfInBounds_toArray, List.set_cons_zero, List.set_cons_succ, i64_w, i32_w]
    rfl
  have hx1 : w8.cell? ⟨p, 1, none⟩ = some (.slice Ab1 bad.length cb1) := (blk_cell HX.out 1).trans rfl
  have hf1 := blk_frozen HX.out 1
  refine pure_ (i := 10) (N := some 67) (v := ?_) (a' := ?_) #[true, true, true, true, true, true, true, true, true, true, true, false, false] rfl rfl (any_of HT_.out (by kernel_rfl)) (fun _ _ _ h => h) (Or.inl ⟨by rfl, ?_⟩) ?_ ?_
  rotate_left
  · intro w'
    go_simp
    with_reducible rfl
  rotate_left
  · simp only [Act.put, List.setIfInBounds_toArray, List.set_cons_zero, List.set_cons_succ, i64_w, i32_w]
    rfl
  refine pure_ (i := 11) (N := some 68) (v := ?_) (a' := ?_) #[true, true, true, true, true, true, true, true, true, true, true, true, false] rfl rfl (any_of HT_.out (by kernel_rfl)) (fun _ _ _ h => h) (Or.inl ⟨by rfl, ?_⟩) ?_ ?_
  rotate_left
  · intro w'
    go_simp
    with_reducible rfl
  rotate_left
  · simp only [Act.put, List.setIfInBounds_toArray, List.set_cons_zero, List.set_cons_succ, i64_w, i32_w]
    rfl
  refine last_ (i := 12) (N := none) #[true, true, true, true, true, true, true, true, true, true, true, true, true] rfl rfl (one_of HT_.out (by kernel_rfl)) (by decide) (fun K hK => ?_)
  refine skip_ (w1 := ?_) (by rfl) rfl ?_ ?_
  rotate_left
  · go_simp
    rfl
  refine hK.out _ _ ?_
  clear hK K hx1 hf1 hHeld
  have mHX : Aside0 (RdAt p vo (.slice A8_1 B1.length c8_1) line ⟨#[]⟩ 0 (w8.setCell ⟨p, 1, none⟩ (.slice A8_1 B1.length c8_1))) := ⟨blk_put HX.out 1 _ rfl⟩
  have mHG : Aside0 ((w8.setCell ⟨p, 1, none⟩ (.slice A8_1 B1.length c8_1)).heap[g]? = some (.cells #[.int .i64 frm, .string ⟨#[]⟩, .slice none 0 0, .string whole] 35 (0, 0))) := ⟨blk_far HG.out (Ne.symm HPG.out) _⟩
  have mHS : Aside0 (Kd.S k35 35 (w8.setCell ⟨p, 1, none⟩ (.slice A8_1 B1.length c8_1)) w0.heap.size (fun q => (ok q ∧ q ≠ g) ∧ q < N) vo out) := ⟨Kd.S_far (p := ⟨p, 1, none⟩) HS.out (fun q hq => ne_ok HPK.out (hq.1.1)) _⟩
  have mHD : Aside0 (Kd.S k37 37 (w8.setCell ⟨p, 1, none⟩ (.slice A8_1 B1.length c8_1)) w0.heap.size (fun q => ok q ∧ q ≠ g) (.slice A8_1 B1.length c8_1) B1) := ⟨Kd.S_far (p := ⟨p, 1, none⟩) HD.out (fun q hq => ne_ok HPK.out (hq.1)) _⟩
  have mHB : Aside0 (Below w0.heap.size w0 (w8.setCell ⟨p, 1, none⟩ (.slice A8_1 B1.length c8_1))) := ⟨below_set HB.out HP.out⟩
  have mHF : Aside0 (Fr ok p W (w8.setCell ⟨p, 1, none⟩ (.slice A8_1 B1.length c8_1))) := ⟨HF.out.set_p HX.out 1 _⟩
  have mHZ : Aside0 (g < (w8.setCell ⟨p, 1, none⟩ (.slice A8_1 B1.length c8_1)).heap.size) := ⟨by simpa using HZ.out⟩
  have mHA : Aside0 (Kd.R Kd.string 9 (w8.setCell ⟨p, 1, none⟩ (.slice A8_1 B1.length c8_1)) w0.heap.size (fun q => N ≤ q ∧ q ≠ g ∧ q ≠ p) (.slice Aa l.length ca) l) := ⟨Kd.R_far (p := ⟨p, 1, none⟩) HA.out (fun q hq => hq.2.2) _⟩
  clear HX HG HS HD HB HF HZ HA
  have HX := mHX
  have HG := mHG
  have HS := mHS
  have HD := mHD
  have HB := mHB
  have HF := mHF
  have HZ := mHZ
  have HA := mHA
  clear mHX mHG mHS mHD mHB mHF mHZ mHA
  generalize w8.setCell ⟨p, 1, none⟩ (.slice A8_1 B1.length c8_1) = w7 at HX HG HS HD HB HF HZ HA ⊢
  refine done_ (done_of HT_.out (by kernel_rfl)) ?_
  go_wp2
  refine start_ (n := 10) (S := fun _ => True) (ds := []) #[false, false, false, false, false, false, false, false, false, false] (by kernel_rfl) rfl rfl trivial (fun hHeld => ?_)
  refine with_tabW lines_done.tab13 lines_done.bits13 (fun HT_ HW_ => ?_)
  clear hHeld
  have mHX : Aside0 (RdAt p vo (.slice A8_1 B1.length c8_1) line ⟨#[]⟩ 0 (w7.drew)) := ⟨HX.out⟩
  have mHG : Aside0 ((w7.drew).heap[g]? = some (.cells #[.int .i64 frm, .string ⟨#[]⟩, .slice none 0 0, .string whole] 35 (0, 0))) := ⟨HG.out⟩
  have mHS : Aside0 (Kd.S k35 35 (w7.drew) w0.heap.size (fun q => (ok q ∧ q ≠ g) ∧ q < N) vo out) := ⟨Kd.S_drew HS.out⟩
  have mHD : Aside0 (Kd.S k37 37 (w7.drew) w0.heap.size (fun q => ok q ∧ q ≠ g) (.slice A8_1 B1.length c8_1) B1) := ⟨Kd.S_drew HD.out⟩
  have mHB : Aside0 (Below w0.heap.size w0 (w7.drew)) := ⟨below_drew HB.out⟩
  have mHF : Aside0 (Fr ok p W (w7.drew)) := ⟨HF.out.below (below_drew (Below.refl _ _))⟩
  have mHZ : Aside0 (g < (w7.drew).heap.size) := ⟨HZ.out⟩
  have mHA : Aside0 (Kd.R Kd.string 9 (w7.drew) w0.heap.size (fun q => N ≤ q ∧ q ≠ g ∧ q ≠ p) (.slice Aa l.length ca) l) := ⟨Kd.R_drew HA.out⟩
  clear HX HG HS HD HB HF HZ HA
  have HX := mHX
  have HG := mHG
  have HS := mHS
  have HD := mHD
  have HB := mHB
  have HF := mHF
  have HZ := mHZ
  have HA := mHA
  clear mHX mHG mHS mHD mHB mHF mHZ mHA
  generalize w7.drew = w8 at HX HG HS HD HB HF HZ HA ⊢
  refine pure_ (i := 0) (N := some 86) (v := ?_) (a' := ?_) #[true, false, false, false, false, false, false, false, false, false] rfl rfl (any_of HT_.out (by kernel_rfl)) (fun _ _ _ h => h) (Or.inl ⟨by rfl, ?_⟩) ?_ ?_
  rotate_left
  · intro w'
    go_simp
    with_reducible rfl
  rotate_left
  · simp only [Act.put, List.setIfInBounds_toArray, List.set_cons_zero, List.set_cons_succ, i64_w, i32_w]
    rfl
  refine pure_ (i := 1) (N := some 87) (v := ?_) (a' := ?_) #[true, true, false, false, false, false, false, false, false, false] rfl rfl (any_of HT_.out (by kernel_rfl)) (fun _ _ _ h => h) (Or.inl ⟨by rfl, ?_⟩) ?_ ?_
  rotate_left
  · intro w'
    go_simp
    with_reducible rfl
  rotate_left
  · simp only [Act.put, List.setIfInBounds_toArray, List.set_cons_zero, List.set_cons_succ, i64_w, i32_w]
    rfl
  refine pure_ (i := 2) (N := some 88) (v := ?_) (a' := ?_) #[true, true, true, false, false, false, false, false, false, false] rfl rfl (any_of HT_.out (by kernel_rfl)) (fun _ _ _ h => h) (Or.inl ⟨by rfl, ?_⟩) ?_ ?_
  rotate_left
  · intro w'
    go_simp
    with_reducible rfl
  rotate_left
  · simp only [Act.put, List.setIfInBounds_toArray, List.set_cons_zero, List.set_cons_succ, i64_w, i32_w]
    rfl
  refine pure_ (i := 3) (N := some 89) (v := ?_) (a' := ?_) #[true, true, true, true, false, false, false, false, false, false] rfl rfl (any_of HT_.out (by kernel_rfl)) (fun _ _ _ h => h) (Or.inl ⟨by rfl, ?_⟩) ?_ ?_
  rotate_left
  · intro w'
    go_simp
    with_reducible rfl
  rotate_left
  · simp only [Act.put, List.setIfInBounds_toArray, List.set_cons_zero, List.set_cons_succ, i64_w, i32_w]
    rfl
  refine pure_ (i := 4) (N := some 90) (v := ?_) (a' := ?_) #[true, true, true, true, true, false, false, false, false, false] rfl rfl (any_of HT_.out (by kernel_rfl)) (fun _ _ _ h => h) (Or.inl ⟨by rfl, ?_⟩) ?_ ?_
  rotate_left
  · intro w'
    go_simp
    with_reducible rfl
  rotate_left
  · simp only [Act.put, List.setIfInBounds_toArray, List.set_cons_zero, List.set_cons_succ, i64_w, i32_w]
    rfl
  have hgc : w8.cell? ⟨g, 3, none⟩ = some (.string whole) := (blk_cell HG.out 3).trans rfl
  have hgf := blk_frozen HG.out 3
  refine one_ (i := 5) (N := none) #[true, true, true, true, true, true, false, false, false, false] rfl rfl (one_of HT_.out (by kernel_rfl)) (by decide) (fun K hK => ?_)
  refine skip_ (w1 := ?_) (by rfl) rfl ?_ ?_
  rotate_left
  · go_simp
    rfl
  refine hK.out _ _ trivial (fun hHeld => ?_)
  clear hK K hgc hgf hHeld
  have mHX : Aside0 (RdAt p vo (.slice A8_1 B1.length c8_1) line ⟨#[]⟩ 0 (w8.setCell ⟨g, 3, none⟩ (.string ⟨#[]⟩))) := ⟨blk_far HX.out HPG.out _⟩
  have mHG : Aside0 ((w8.setCell ⟨g, 3, none⟩ (.string ⟨#[]⟩)).heap[g]? = some (.cells #[.int .i64 frm, .string ⟨#[]⟩, .slice none 0 0, .string ⟨#[]⟩] 35 (0, 0))) := ⟨blk_put HG.out 3 _ rfl⟩
  have mHS : Aside0 (Kd.S k35 35 (w8.setCell ⟨g, 3, none⟩ (.string ⟨#[]⟩)) w0.heap.size (fun q => (ok q ∧ q ≠ g) ∧ q < N) vo out) := ⟨Kd.S_far (p := ⟨g, 3, none⟩) HS.out (fun q hq => hq.1.2) _⟩
  have mHD : Aside0 (Kd.S k37 37 (w8.setCell ⟨g, 3, none⟩ (.string ⟨#[]⟩)) w0.heap.size (fun q => ok q ∧ q ≠ g) (.slice A8_1 B1.length c8_1) B1) := ⟨Kd.S_far (p := ⟨g, 3, none⟩) HD.out (fun q hq => hq.2) _⟩
  have mHB : Aside0 (Below w0.heap.size w0 (w8.setCell ⟨g, 3, none⟩ (.string ⟨#[]⟩))) := ⟨below_set HB.out HGB.out⟩
  have mHF : Aside0 (Fr ok p W (w8.setCell ⟨g, 3, none⟩ (.string ⟨#[]⟩))) := ⟨HF.out.set_new HGW.out 3 _⟩
  have mHZ : Aside0 (g < (w8.setCell ⟨g, 3, none⟩ (.string ⟨#[]⟩)).heap.size) := ⟨by simpa using HZ.out⟩
  have mHA : Aside0 (Kd.R Kd.string 9 (w8.setCell ⟨g, 3, none⟩ (.string ⟨#[]⟩)) w0.heap.size (fun q => N ≤ q ∧ q ≠ g ∧ q ≠ p) (.slice Aa l.length ca) l) := ⟨Kd.R_far (p := ⟨g, 3, none⟩) HA.out (fun q hq => hq.2.1) _⟩
  clear HX HG HS HD HB HF HZ HA
  have HX := mHX
  have HG := mHG
  have HS := mHS
  have HD := mHD
  have HB := mHB
  have HF := mHF
  have HZ := mHZ
  have HA := mHA
  clear mHX mHG mHS mHD mHB mHF mHZ mHA
  generalize w8.setCell ⟨g, 3, none⟩ (.string ⟨#[]⟩) = w9 at HX HG HS HD HB HF HZ HA ⊢
  refine pure_ (i := 6) (N := some 91) (v := ?_) (a' := ?_) #[true, true, true, true, true, true, true, false, false, false] rfl rfl (any_of HT_.out (by kernel_rfl)) (fun _ _ _ h => h) (Or.inl ⟨by rfl, ?_⟩) ?_ ?_
  rotate_left
  · intro w'
    go_simp
    with_reducible rfl
  rotate_left
  · simp only [Act.put, List.setIfInBounds_toArray, List.set_cons_zero, List.set_cons_succ, i64_w, i32_w]
    rfl
  have hgc : w9.cell? ⟨g, 1, none⟩ = some (.string ⟨#[]⟩) := (blk_cell HG.out 1).trans rfl
  have hgf := blk_frozen HG.out 1
  refine one_ (i := 7) (N := none) #[true, true, true, true, true, true, true, true, false, false] rfl rfl (one_of HT_.out (by kernel_rfl)) (by decide) (fun K hK => ?_)
  refine skip_ (w1 := ?_) (by rfl) rfl ?_ ?_
  rotate_left
  · go_simp
    rfl
  refine hK.out _ _ trivial (fun hHeld => ?_)
  clear hK K hgc hgf hHeld
  have mHX : Aside0 (RdAt p vo (.slice A8_1 B1.length c8_1) line ⟨#[]⟩ 0 (w9.setCell ⟨g, 1, none⟩ (.string (rest.extract 0 n.toNat)))) := ⟨blk_far HX.out HPG.out _⟩
  have mHG : Aside0 ((w9.setCell ⟨g, 1, none⟩ (.string (rest.extract 0 n.toNat))).heap[g]? = some (.cells #[.int .i64 frm, .string (rest.extract 0 n.toNat), .slice none 0 0, .string ⟨#[]⟩] 35 (0, 0))) := ⟨blk_put HG.out 1 _ rfl⟩
  have mHS : Aside0 (Kd.S k35 35 (w9.setCell ⟨g, 1, none⟩ (.string (rest.extract 0 n.toNat))) w0.heap.size (fun q => (ok q ∧ q ≠ g) ∧ q < N) vo out) := ⟨Kd.S_far (p := ⟨g, 1, none⟩) HS.out (fun q hq => hq.1.2) _⟩
  have mHD : Aside0 (Kd.S k37 37 (w9.setCell ⟨g, 1, none⟩ (.string (rest.extract 0 n.toNat))) w0.heap.size (fun q => ok q ∧ q ≠ g) (.slice A8_1 B1.length c8_1) B1) := ⟨Kd.S_far (p := ⟨g, 1, none⟩) HD.out (fun q hq => hq.2) _⟩
  have mHB : Aside0 (Below w0.heap.size w0 (w9.setCell ⟨g, 1, none⟩ (.string (rest.extract 0 n.toNat)))) := ⟨below_set HB.out HGB.out⟩
  have mHF : Aside0 (Fr ok p W (w9.setCell ⟨g, 1, none⟩ (.string (rest.extract 0 n.toNat)))) := ⟨HF.out.set_new HGW.out 1 _⟩
  have mHZ : Aside0 (g < (w9.setCell ⟨g, 1, none⟩ (.string (rest.extract 0 n.toNat))).heap.size) := ⟨by simpa using HZ.out⟩
  have mHA : Aside0 (Kd.R Kd.string 9 (w9.setCell ⟨g, 1, none⟩ (.string (rest.extract 0 n.toNat))) w0.heap.size (fun q => N ≤ q ∧ q ≠ g ∧ q ≠ p) (.slice Aa l.length ca) l) := ⟨Kd.R_far (p := ⟨g, 1, none⟩) HA.out (fun q hq => hq.2.1) _⟩
  clear HX HG HS HD HB HF HZ HA
  have HX := mHX
  have HG := mHG
  have HS := mHS
  have HD := mHD
  have HB := mHB
  have HF := mHF
  have HZ := mHZ
  have HA := mHA
  clear mHX mHG mHS mHD mHB mHF mHZ mHA
  generalize w9.setCell ⟨g, 1, none⟩ (.string (rest.extract 0 n.toNat)) = w10 at HX HG HS HD HB HF HZ HA ⊢
  refine pure_ (i := 8) (N := some 92) (v := ?_) (a' := ?_) #[true, true, true, true, true, true, true, true, true, false] rfl rfl (any_of HT_.out (by kernel_rfl)) (fun _ _ _ h => h) (Or.inl ⟨by rfl, ?_⟩) ?_ ?_
  rotate_left
  · intro w'
    go_simp
    with_reducible rfl
  rotate_left
  · simp only [Act.put, List.setIfInBounds_toArray, List.set_cons_zero, List.set_cons_succ, i64_w, i32_w]
    rfl
  have hgc : w10.cell? ⟨g, 2, none⟩ = some (.slice none 0 0) := (blk_cell HG.out 2).trans rfl
  have hgf := blk_frozen HG.out 2
  refine one_ (i := 9) (N := none) #[true, true, true, true, true, true, true, true, true, true] rfl rfl (one_of HT_.out (by kernel_rfl)) (by decide) (fun K hK => ?_)
  refine skip_ (w1 := ?_) (by rfl) rfl ?_ ?_
  rotate_left
  · go_simp
    rfl
  refine hK.out _ _ trivial (fun hHeld => ?_)
  clear hK K hgc hgf hHeld
  have mHX : Aside0 (RdAt p vo (.slice A8_1 B1.length c8_1) line ⟨#[]⟩ 0 (w10.setCell ⟨g, 2, none⟩ ((.slice Aa l.length ca)))) := ⟨blk_far HX.out HPG.out _⟩
  have mHG : Aside0 ((w10.setCell ⟨g, 2, none⟩ ((.slice Aa l.length ca))).heap[g]? = some (.cells #[.int .i64 frm, .string (rest.extract 0 n.toNat), (.slice Aa l.length ca), .string ⟨#[]⟩] 35 (0, 0))) := ⟨blk_put HG.out 2 _ rfl⟩
  have mHS : Aside0 (Kd.S k35 35 (w10.setCell ⟨g, 2, none⟩ ((.slice Aa l.length ca))) w0.heap.size (fun q => (ok q ∧ q ≠ g) ∧ q < N) vo out) := ⟨Kd.S_far (p := ⟨g, 2, none⟩) HS.out (fun q hq => hq.1.2) _⟩
  have mHD : Aside0 (Kd.S k37 37 (w10.setCell ⟨g, 2, none⟩ ((.slice Aa l.length ca))) w0.heap.size (fun q => ok q ∧ q ≠ g) (.slice A8_1 B1.length c8_1) B1) := ⟨Kd.S_far (p := ⟨g, 2, none⟩) HD.out (fun q hq => hq.2) _⟩
  have mHB : Aside0 (Below w0.heap.size w0 (w10.setCell ⟨g, 2, none⟩ ((.slice Aa l.length ca)))) := ⟨below_set HB.out HGB.out⟩
  have mHF : Aside0 (Fr ok p W (w10.setCell ⟨g, 2, none⟩ ((.slice Aa l.length ca)))) := ⟨HF.out.set_new HGW.out 2 _⟩
  have mHZ : Aside0 (g < (w10.setCell ⟨g, 2, none⟩ ((.slice Aa l.length ca))).heap.size) := ⟨by simpa using HZ.out⟩
  have mHA : Aside0 (Kd.R Kd.string 9 (w10.setCell ⟨g, 2, none⟩ ((.slice Aa l.length ca))) w0.heap.size (fun q => N ≤ q ∧ q ≠ g ∧ q ≠ p) (.slice Aa l.length ca) l) := ⟨Kd.R_far (p := ⟨g, 2, none⟩) HA.out (fun q hq => hq.2.1) _⟩
  clear HX HG HS HD HB HF HZ HA
  have HX := mHX
  have HG := mHG
  have HS := mHS
  have HD := mHD
  have HB := mHB
  have HF := mHF
  have HZ := mHZ
  have HA := mHA
  clear mHX mHG mHS mHD mHB mHF mHZ mHA
  generalize w10.setCell ⟨g, 2, none⟩ ((.slice Aa l.length ca)) = w11 at HX HG HS HD HB HF HZ HA ⊢
  refine done_ (done_of HT_.out (by kernel_rfl)) ?_
  go_wp2
  obtain ⟨Av, cv, rfl⟩ := Kd.S_slice HS.out
  refine start_ (n := 11) (S := fun w' => w'.cell? ⟨p, 0, none⟩ = some (.slice Av out.length cv) ∧ w'.cell? ⟨g, 0, none⟩ = some (.int .i64 frm) ∧ w'.cell? ⟨g, 1, none⟩ = some (.string (rest.extract 0 n.toNat)) ∧ w'.cell? ⟨g, 2, none⟩ = some ((.slice Aa l.length ca)) ∧ w'.cell? ⟨g, 3, none⟩ = some (.string ⟨#[]⟩)) (ds := [10]) #[false, false, false, false, false, false, false, false, false, false, false] (by kernel_rfl) rfl rfl ?_ (fun hHeld => ?_)
  · exact ⟨(blk_cell HX.out 0).trans rfl, (blk_cell HG.out 0).trans rfl, (blk_cell HG.out 1).trans rfl, (blk_cell HG.out 2).trans rfl, (blk_cell HG.out 3).trans rfl⟩
  refine with_tabW lines_done.tab14 lines_done.bits14 (fun HT_ HW_ => ?_)
  have mHX : Aside0 (RdAt p (.slice Av out.length cv) (.slice A8_1 B1.length c8_1) line ⟨#[]⟩ 0 (w11.drew)) := ⟨HX.out⟩
  have mHG : Aside0 ((w11.drew).heap[g]? = some (.cells #[.int .i64 frm, .string (rest.extract 0 n.toNat), (.slice Aa l.length ca), .string ⟨#[]⟩] 35 (0, 0))) := ⟨HG.out⟩
  have mHS : Aside0 (Kd.S k35 35 (w11.drew) w0.heap.size (fun q => (ok q ∧ q ≠ g) ∧ q < N) (.slice Av out.length cv) out) := ⟨Kd.S_drew HS.out⟩
  have mHD : Aside0 (Kd.S k37 37 (w11.drew) w0.heap.size (fun q => ok q ∧ q ≠ g) (.slice A8_1 B1.length c8_1) B1) := ⟨Kd.S_drew HD.out⟩
  have mHB : Aside0 (Below w0.heap.size w0 (w11.drew)) := ⟨below_drew HB.out⟩
  have mHF : Aside0 (Fr ok p W (w11.drew)) := ⟨HF.out.below (below_drew (Below.refl _ _))⟩
  have mHZ : Aside0 (g < (w11.drew).heap.size) := ⟨HZ.out⟩
  have mHA : Aside0 (Kd.R Kd.string 9 (w11.drew) w0.heap.size (fun q => N ≤ q ∧ q ≠ g ∧ q ≠ p) (.slice Aa l.length ca) l) := ⟨Kd.R_drew HA.out⟩
  clear HX HG HS HD HB HF HZ HA
  have HX := mHX
  have HG := mHG
  have HS := mHS
  have HD := mHD
  have HB := mHB
  have HF := mHF
  have HZ := mHZ
  have HA := mHA
  clear mHX mHG mHS mHD mHB mHF mHZ mHA
  generalize w11.drew = w12 at HX HG HS HD HB HF HZ HA hHeld ⊢
  refine pure_ (i := 0) (N := some 93) (v := ?_) (a' := ?_) #[true, false, false, false, false, false, false, false, false, false, false] rfl rfl (any_of HT_.out (by kernel_rfl)) (fun _ _ _ h => h) (Or.inl ⟨by rfl, ?_⟩) ?_ ?_
  rotate_left
  · intro w'
    go_simp
    with_reducible rfl
  rotate_left
  · simp only [Act.put, List.setIfInBounds_toArray, List.set_cons_zero, List.set_cons_succ, i64_w, i32_w]
    rfl
  refine pure_ (i := 1) (N := some 94) (v := ?_) (a' := ?_) #[true, true, false, false, false, false, false, false, false, false, false] rfl rfl (any_of HT_.out (by kernel_rfl)) (fun _ _ _ h => h) (Or.inl ⟨by rfl, ?_⟩) ?_ ?_
  rotate_left
  · intro w'
    go_simp
    with_reducible rfl
  rotate_left
  · simp only [Act.put, List.setIfInBounds_toArray, List.set_cons_zero, List.set_cons_succ, i64_w, i32_w]
    rfl
  refine pure_ (i := 2) (N := some 95) (v := ?_) (a' := ?_) #[true, true, true, false, false, false, false, false, false, false, false] rfl rfl (any_of HT_.out (by kernel_rfl)) (fun _ _ _ h => h) (Or.inl ⟨by rfl, ?_⟩) ?_ ?_
  rotate_left
  · intro w'
    go_simp
    with_reducible rfl
  rotate_left
  · simp only [Act.put, List.setIfInBounds_toArray, List.set_cons_zero, List.set_cons_succ, i64_w, i32_w]
    rfl
  refine pure_ (i := 3) (N := some 96) (v := ?_) (a' := ?_) #[true, true, true, true, false, false, false, false, false, false, false] rfl rfl (any_of HT_.out (by kernel_rfl)) (fun _ _ _ h => h) (Or.inl ⟨by rfl, ?_⟩) ?_ ?_
  rotate_left
  · intro w'
    go_simp
    with_reducible rfl
  rotate_left
  · simp only [Act.put, List.setIfInBounds_toArray, List.set_cons_zero, List.set_cons_succ, i64_w, i32_w]
    rfl
  refine take_ (i := 4) (N := some 97) (v := ?_) (a' := ?_) #[true, true, true, true, true, false, false, false, false, false, false] rfl rfl (take_ofW HT_.out HW_.out (by kernel_rfl)) (fun _ _ _ h => h) (Or.inl ⟨by rfl, ?_⟩) hHeld ?_ ?_
  rotate_left
  · rintro w' ⟨s0, s1, s2, s3, s4⟩
    go_simp
    with_reducible rfl
  rotate_left
  · simp only [Act.put, List.setIfInBounds_toArray, List.set_cons_zero, List.set_cons_succ, i64_w, i32_w]
    rfl
  refine take_ (i := 5) (N := some 98) (v := ?_) (a' := ?_) #[true, true, true, true, true, true, false, false, false, false, false] rfl rfl (take_ofW HT_.out HW_.out (by kernel_rfl)) (fun _ _ _ h => h) (Or.inl ⟨by rfl, ?_⟩) hHeld ?_ ?_
  rotate_left
  · rintro w' ⟨s0, s1, s2, s3, s4⟩
    go_simp
    with_reducible rfl
  rotate_left
  · simp only [Act.put, List.setIfInBounds_toArray, List.set_cons_zero, List.set_cons_succ, i64_w, i32_w]
    rfl
  refine one_ (i := 6) (N := some 99) #[true, true, true, true, true, true, true, false, false, false, false] rfl rfl (one_of HT_.out (by kernel_rfl)) (by decide) (fun K hK => ?_)
  refine value_ (w1 := ?_) (v := ?_) (by rfl) rfl ?_ ?_
  rotate_left 2
  · go_simp
    constructor
    · rfl
    · rfl
  refine hK.out _ _ ⟨Lib.cell?_alloc_some _ hHeld.1, Lib.cell?_alloc_some _ hHeld.2.1, Lib.cell?_alloc_some _ hHeld.2.2.1, Lib.cell?_alloc_some _ hHeld.2.2.2.1, Lib.cell?_alloc_some _ hHeld.2.2.2.2⟩ (fun hHeld => ?_)
  clear hK K
  refine norm_ (a' := ?_) ?_ ?_
  rotate_left
  · show Act.put _ (some 99) _ = _
    simp only [Act.put, List.setIfInBounds_toArray, List.set_cons_zero, List.set_cons_succ, i64_w, i32_w]
    rfl
  refine one_ (i := 7) (N := some 100) #[true, true, true, true, true, true, true, true, false, false, false] rfl rfl (one_of HT_.out (by kernel_rfl)) (by decide) (fun K hK => ?_)
  refine Kd.S_append_step k35 (w0 := w0) w0.heap.size (by rfl) (.tmp 97) (.tmp 99) 30 35 (.agg #[(.int .i64 0), (.string ⟨#[]⟩), (.slice none 0 0), (.string ⟨#[]⟩)]) 64 rfl Tryd.underlying30 info35 rfl (by decide) (by omega) (.slice Av out.length cv) out ⟨frm, rest.extract 0 n.toNat, l, ⟨#[]⟩⟩ [.int .i64 frm, .string (rest.extract 0 n.toNat), (.slice Aa l.length ca), .string ⟨#[]⟩] (fun q => ok q ∧ q ≠ g) (fun q => some q = ((.slice Aa l.length ca) : Value).ownBlock) rfl rfl ?aP ?aK ?aF ?aO ?aB ?aS ?aL ?_
  case aP => exact k35_mkM _ _ _ _ (Kd.R_tight rfl HA.out)
  case aK =>
    intro q hq
    have h1 := HA.out.1 q hq.symm
    refine ⟨HOK.out q (by have := HNG.out; omega), fun e => ?_⟩
    have := ((Kd.S_R HS.out).1 q e.symm).2
    omega
  case aF => exact fun q hq => HOK.out q (by have := HZ.out; omega)
  case aO =>
    refine Kd.S_mono HS.out (fun q hq => ⟨hq.1, fun e => ?_⟩)
    have h1 := HA.out.1 q e.symm
    have := hq.2
    omega
  case aB => exact HB.out
  case aS => exact HB.out.size
  case aL => have := HL.out.1; omega
  intro v7 w7 hs7 hb7 hg7 hat7
  have hrow : ∀ q, ((.slice Av out.length cv) : Value).ownBlock = some q → ok q ∧ q ≠ p ∧ q ≠ g := fun q hq => by
    have h1 := (Kd.S_R HS.out).1 q hq
    exact ⟨h1.1.1, fun e => HPK.out (e ▸ h1.1.1), h1.1.2⟩
  obtain ⟨O7, hO7⟩ : ∃ O7, O7 = out ++ [⟨frm, rest.extract 0 n.toNat, l, ⟨#[]⟩⟩] := ⟨_, rfl⟩
  rw [← hO7] at hs7
  obtain ⟨A7, c7, rfl⟩ := Kd.S_slice hs7
  have mX : Aside0 (RdAt p (.slice Av out.length cv) (.slice A8_1 B1.length c8_1) line ⟨#[]⟩ 0 w7) := ⟨blk_grown HX.out hg7 (fun e => (hrow p e.symm).2.1 rfl)⟩
  have mG : Aside0 (w7.heap[g]? = some (.cells #[.int .i64 frm, .string (rest.extract 0 n.toNat), (.slice Aa l.length ca), .string ⟨#[]⟩] 35 (0, 0))) := ⟨blk_grown HG.out hg7 (fun e => (hrow g e.symm).2.2 rfl)⟩
  have mD : Aside0 (Kd.S k37 37 w7 w0.heap.size (fun q => ok q ∧ q ≠ g) (.slice A8_1 B1.length c8_1) B1) := ⟨Kd.S_over' HD.out (Kd.S_typed HS.out) (by decide) hg7⟩
  have mF : Aside0 (Fr ok p W w7) := ⟨HF.out.grown hg7 (fun q hq => ⟨(hrow q hq).1, by obtain ⟨cells, hc⟩ := Kd.S_typed HS.out q hq; exact ⟨_, _, _, hc⟩⟩)⟩
  have mS := Aside0.mk hs7
  have mB := Aside0.mk hb7
  have HO7 := Aside0.mk hO7
  clear HX HG HS HD HB HF HZ hs7 hb7 hg7 hat7 hrow hO7 HA
  refine hK.out _ _ ⟨(blk_cell mX.out 0).trans rfl, (blk_cell mG.out 0).trans rfl, (blk_cell mG.out 1).trans rfl, (blk_cell mG.out 2).trans rfl, (blk_cell mG.out 3).trans rfl⟩ (fun hHeld => ?_)
  clear hK K hHeld
  refine norm_ (a' := ?_) ?_ ?_
  rotate_left
  · show Act.put _ (some 100) _ = _
    simp only [Act.put, List.setIfInBounds_toArray, List.set_cons_zero, List.set_cons_succ, i64_w, i32_w]
    rfl
  have hx0 : w7.cell? ⟨p, 0, none⟩ = some (.slice Av out.length cv) := (blk_cell mX.out 0).trans rfl
  have hf0 := blk_frozen mX.out 0
  refine pure_ (i := 8) (N := some 101) (v := ?_) (a' := ?_) #[true, true, true, true, true, true, true, true, true, false, false] rfl rfl (any_of HT_.out (by kernel_rfl)) (fun _ _ _ h => h) (Or.inl ⟨by rfl, ?_⟩) ?_ ?_
  rotate_left
  · intro w'
    go_simp
    with_reducible rfl
  rotate_left
  · simp only [Act.put, List.setIfInBounds_toArray, List.set_cons_zero, List.set_cons_succ, i64_w, i32_w]
    rfl
  refine pure_ (i := 9) (N := some 102) (v := ?_) (a' := ?_) #[true, true, true, true, true, true, true, true, true, true, false] rfl rfl (any_of HT_.out (by kernel_rfl)) (fun _ _ _ h => h) (Or.inl ⟨by rfl, ?_⟩) ?_ ?_
  rotate_left
  · intro w'
    go_simp
    with_reducible rfl
  rotate_left
  · simp only [Act.put, List.setIfInBounds_toArray, List.set_cons_zero, List.set_cons_succ, i64_w, i32_w]
    rfl
  refine last_ (i := 10) (N := none) #[true, true, true, true, true, true, true, true, true, true, true] rfl rfl (one_of HT_.out (by kernel_rfl)) (by decide) (fun K hK => ?_)
  refine skip_ (w1 := ?_) (by rfl) rfl ?_ ?_
  rotate_left
  · go_simp
    rfl
  refine hK.out _ _ ?_
  clear hK K hx0 hf0
  refine done_ (done_of HT_.out (by kernel_rfl)) ?_
  go_wp2
  first | go_end0 | ((try simp only [Exit.inBlock, Exit.then]); refine bodyPost_ret (results_none rfl _ _ _) rfl ?_)
  have e_ := HO7.out
  clear HO7
  subst e_
  have e_ := HB1.out
  clear HB1
  subst e_
  exact ⟨rfl, _, _, blk_put mX.out 0 _ rfl, Kd.S_mono (Kd.S_far (p := ⟨p, 0, none⟩) mS.out (fun q hq => ne_ok HPK.out (hq.1)) _) (fun q hq => hq.1), Kd.S_mono (Kd.S_far (p := ⟨p, 0, none⟩) mD.out (fun q hq => ne_ok HPK.out (hq.1)) _) (fun q hq => hq.1), below_set mB.out HP.out, mF.out.set_p mX.out 0 _⟩
set_option maxHeartbeats 8000000 in
set_option maxRecDepth 100000 in
theorem done_macro11 (k : Nat) (w0 W : World) (p : Nat) (ok : Nat → Prop) (vo vb : Value) (out : List Rw) (bad : List Dg) (line : Int) (whole : ByteArray) (frm : Int) (rest : ByteArray) (n : Int) (l : List ByteArray)
    (hB : Below w0.heap.size w0 W) (hX : RdAt p vo vb line whole frm W) (hp : w0.heap.size ≤ p) (hok : ∀ q, W.heap.size ≤ q → ok q) (hpk : ¬ ok p)
    (hS : Kd.S k35 35 W w0.heap.size ok vo out) (hD : Kd.S k37 37 W w0.heap.size ok vb bad) (hl : out.length ≤ 1000000000 ∧ bad.length ≤ 1000000000)
    (hc : lines_control.f whole = some (rest, true)) (hrs : rest.size ≤ 4294960000) (hi : strings_IndexAny.f (rest ++ ⟨#[32]⟩) ⟨#[32, 9]⟩ = some n) (hn : n ≠ 0) (hn0 : 0 ≤ n) (hnr : n ≤ rest.size)
    (hr : lines_Args.f k (rest.extract n.toNat rest.size) = some (l, false)) (hbig : (200 : Int) < (l.length : Int)) :
    Calls Tryd.prog 34 #[.pointer (some ⟨p, 0, none⟩)] W fun e w' => e = .returned (.tuple #[]) ∧ ∃ vo' vb', RdAt p vo' vb' line ⟨#[]⟩ 0 w' ∧ Kd.S k35 35 w' w0.heap.size ok vo' (out ++ [⟨frm, rest.extract 0 n.toNat, (l.take 200), ⟨#[]⟩⟩]) ∧ Kd.S k37 37 w' w0.heap.size ok vb' (bad ++ [⟨5, frm, 0⟩] ++ [⟨11, frm, 0⟩]) ∧ Below w0.heap.size w0 w' ∧ Fr ok p W w' := by
  have hu35 := Tryd.underlying35
  have hu55 := Tryd.underlying55
  have HB := Aside0.mk hB
  have HX := Aside0.mk hX
  have HS := Aside0.mk hS
  have HD := Aside0.mk hD
  have HP := Aside0.mk hp
  have HOK := Aside0.mk hok
  have HPK := Aside0.mk hpk
  have HL := Aside0.mk hl
  have HC := Aside0.mk hc
  have HN0 : Aside0 (w0.heap.size ≤ W.heap.size) := ⟨hB.size⟩
  have hx3 : W.cell? ⟨p, 3, none⟩ = some (.string whole) := (blk_cell HX.out 3).trans rfl
  have hx4 : W.cell? ⟨p, 4, none⟩ = some (.int .i64 frm) := (blk_cell HX.out 4).trans rfl
  clear hB hX hS hD hp hok hpk hl hc
  go_enter Tryd.func34, Tryd.ntmps34
  go_wp2
  refine start_ (n := 11) (S := fun w' => w'.cell? ⟨p, 3, none⟩ = some (.string whole) ∧ w'.cell? ⟨p, 4, none⟩ = some (.int .i64 frm)) (ds := []) #[false, false, false, false, false, false, false, false, false, false, false] (by kernel_rfl) rfl rfl ?_ (fun hHeld => ?_)
  · exact ⟨hx3, hx4⟩
  refine with_tabW lines_done.tab0 lines_done.bits0 (fun HT_ HW_ => ?_)
  have HB1 : Aside0 (Below w0.heap.size w0 W.drew) := ⟨below_drew HB.out⟩
  have HX1 : Aside0 (RdAt p vo vb line whole frm W.drew) := ⟨HX.out⟩
  have HS1 := Aside0.mk (Kd.S_mono (ok' := fun q => ok q ∧ q < W.drew.heap.size) (Kd.S_bound (Kd.S_drew HS.out)) (fun q hq => ⟨hq.1, hq.2.2.1⟩))
  have HD1 := Aside0.mk (Kd.S_mono (ok' := fun q => ok q ∧ q < W.drew.heap.size) (Kd.S_bound (Kd.S_drew HD.out)) (fun q hq => ⟨hq.1, hq.2.2.1⟩))
  have HOK1 : Aside0 (∀ q, W.drew.heap.size ≤ q → ok q) := ⟨HOK.out⟩
  have HF1 : Aside0 (Fr ok p W W.drew) := ⟨(Fr.refl ok p W).below (below_drew (Below.refl _ _))⟩
  have HWG : Aside0 (W.heap.size ≤ W.drew.heap.size) := ⟨Nat.le_refl _⟩
  clear HB HX HS HD HOK hx3 hx4
  generalize W.drew = w1 at HB1 HX1 HS1 HD1 HOK1 HF1 HWG hHeld ⊢
  refine pure_ (i := 0) (N := some 8) (v := ?_) (a' := ?_) #[true, false, false, false, false, false, false, false, false, false, false] rfl rfl (any_of HT_.out (by kernel_rfl)) (fun _ _ _ h => h) (Or.inl ⟨by rfl, ?_⟩) ?_ ?_
  rotate_left
  · intro w'
    go_simp
    with_reducible rfl
  rotate_left
  · simp only [Act.put, List.setIfInBounds_toArray, List.set_cons_zero, List.set_cons_succ, i64_w, i32_w]
    rfl
  refine pure_ (i := 1) (N := some 9) (v := ?_) (a' := ?_) #[true, true, false, false, false, false, false, false, false, false, false] rfl rfl (any_of HT_.out (by kernel_rfl)) (fun _ _ _ h => h) (Or.inl ⟨by rfl, ?_⟩) ?_ ?_
  rotate_left
  · intro w'
    go_simp
    with_reducible rfl
  rotate_left
  · simp only [Act.put, List.setIfInBounds_toArray, List.set_cons_zero, List.set_cons_succ, i64_w, i32_w]
    rfl
  refine pure_ (i := 2) (N := some 10) (v := ?_) (a' := ?_) #[true, true, true, false, false, false, false, false, false, false, false] rfl rfl (any_of HT_.out (by kernel_rfl)) (fun _ _ _ h => h) (Or.inl ⟨by rfl, ?_⟩) ?_ ?_
  rotate_left
  · intro w'
    go_simp
    with_reducible rfl
  rotate_left
  · simp only [Act.put, List.setIfInBounds_toArray, List.set_cons_zero, List.set_cons_succ, i64_w, i32_w]
    rfl
  refine take_ (i := 3) (N := some 11) (v := ?_) (a' := ?_) #[true, true, true, true, false, false, false, false, false, false, false] rfl rfl (take_ofW HT_.out HW_.out (by kernel_rfl)) (fun _ _ _ h => h) (Or.inl ⟨by rfl, ?_⟩) hHeld ?_ ?_
  rotate_left
  · rintro w' ⟨s0, s1⟩
    go_simp
    with_reducible rfl
  rotate_left
  · simp only [Act.put, List.setIfInBounds_toArray, List.set_cons_zero, List.set_cons_succ, i64_w, i32_w]
    rfl
  refine pure_ (i := 4) (N := some 12) (v := ?_) (a' := ?_) #[true, true, true, true, true, false, false, false, false, false, false] rfl rfl (any_of HT_.out (by kernel_rfl)) (fun _ _ _ h => h) (Or.inl ⟨by rfl, ?_⟩) ?_ ?_
  rotate_left
  · intro w'
    go_simp
    with_reducible rfl
  rotate_left
  · simp only [Act.put, List.setIfInBounds_toArray, List.set_cons_zero, List.set_cons_succ, i64_w, i32_w]
    rfl
  refine pure_ (i := 5) (N := some 13) (v := ?_) (a' := ?_) #[true, true, true, true, true, true, false, false, false, false, false] rfl rfl (any_of HT_.out (by kernel_rfl)) (fun _ _ _ h => h) (Or.inl ⟨by rfl, ?_⟩) ?_ ?_
  rotate_left
  · intro w'
    go_simp
    with_reducible rfl
  rotate_left
  · simp only [Act.put, List.setIfInBounds_toArray, List.set_cons_zero, List.set_cons_succ, i64_w, i32_w]
    rfl
  refine pure_ (i := 6) (N := some 14) (v := ?_) (a' := ?_) #[true, true, true, true, true, true, true, false, false, false, false] rfl rfl (any_of HT_.out (by kernel_rfl)) (fun _ _ _ h => h) (Or.inl ⟨by rfl, ?_⟩) ?_ ?_
  rotate_left
  · intro w'
    go_simp
    with_reducible rfl
  rotate_left
  · simp only [Act.put, List.setIfInBounds_toArray, List.set_cons_zero, List.set_cons_succ, i64_w, i32_w]
    rfl
  refine take_ (i := 7) (N := some 15) (v := ?_) (a' := ?_) #[true, true, true, true, true, true, true, true, false, false, false] rfl rfl (take_ofW HT_.out HW_.out (by kernel_rfl)) (fun _ _ _ h => h) (Or.inl ⟨by rfl, ?_⟩) hHeld ?_ ?_
  rotate_left
  · rintro w' ⟨s0, s1⟩
    go_simp
    with_reducible rfl
  rotate_left
  · simp only [Act.put, List.setIfInBounds_toArray, List.set_cons_zero, List.set_cons_succ, i64_w, i32_w]
    rfl
  refine pure_ (i := 8) (N := some 16) (v := ?_) (a' := ?_) #[true, true, true, true, true, true, true, true, true, false, false] rfl rfl (any_of HT_.out (by kernel_rfl)) (fun _ _ _ h => h) (Or.inl ⟨by rfl, ?_⟩) ?_ ?_
  rotate_left
  · intro w'
    go_simp
    with_reducible rfl
  rotate_left
  · simp only [Act.put, List.setIfInBounds_toArray, List.set_cons_zero, List.set_cons_succ, i64_w, i32_w]
    rfl
  refine one_ (i := 9) (N := some 2) #[true, true, true, true, true, true, true, true, true, true, false] rfl rfl (one_of HT_.out (by kernel_rfl)) (by decide) (fun K hK => ?_)
  refine value_ (w1 := ?_) (v := ?_) (by rfl) rfl ?_ ?_
  rotate_left 2
  · go_simp
    constructor
    · rfl
    · rfl
  refine hK.out _ _ ⟨Lib.cell?_alloc_some _ hHeld.1, Lib.cell?_alloc_some _ hHeld.2⟩ (fun hHeld => ?_)
  clear hK K
  refine norm_ (a' := ?_) ?_ ?_
  rotate_left
  · show Act.put _ (some 2) _ = _
    simp only [Act.put, List.setIfInBounds_toArray, List.set_cons_zero, List.set_cons_succ, i64_w, i32_w]
    rfl
  have hgb := blk_new w1 (.cells #[.int .i64 0, .string ⟨#[]⟩, .slice none 0 0, .string ⟨#[]⟩] 35)
  have HX2 : Aside0 (RdAt p vo vb line whole frm (w1.alloc (.cells #[.int .i64 0, .string ⟨#[]⟩, .slice none 0 0, .string ⟨#[]⟩] 35))) := ⟨blk_alloc HX1.out _⟩
  have HB2 := Aside0.mk (below_alloc HB1.out (.cells #[.int .i64 0, .string ⟨#[]⟩, .slice none 0 0, .string ⟨#[]⟩] 35))
  have HS2 := Aside0.mk (Kd.S_alloc HS1.out (.cells #[.int .i64 0, .string ⟨#[]⟩, .slice none 0 0, .string ⟨#[]⟩] 35))
  have HD2 := Aside0.mk (Kd.S_alloc HD1.out (.cells #[.int .i64 0, .string ⟨#[]⟩, .slice none 0 0, .string ⟨#[]⟩] 35))
  have HF2 : Aside0 (Fr ok p W (w1.alloc (.cells #[.int .i64 0, .string ⟨#[]⟩, .slice none 0 0, .string ⟨#[]⟩] 35))) := ⟨HF1.out.below (below_alloc (Below.refl _ _) _)⟩
  have hsz : (w1.alloc (.cells #[.int .i64 0, .string ⟨#[]⟩, .slice none 0 0, .string ⟨#[]⟩] 35)).heap.size = w1.heap.size + 1 := by simp
  have HPL : Aside0 (p < w1.heap.size) := ⟨blk_lt HX1.out⟩
  generalize w1.alloc (.cells #[.int .i64 0, .string ⟨#[]⟩, .slice none 0 0, .string ⟨#[]⟩] 35) = w2 at HX2 HB2 HS2 HD2 HF2 hgb hsz hHeld ⊢
  clear HX1 HB1 HS1 HD1 HF1
  generalize w1.heap.size = g at hgb hsz HPL HOK1 HS2 HD2 HWG ⊢
  have HG := Aside0.mk hgb
  have h0 : w2.cell? ⟨g, 0, none⟩ = some (.int .i64 0) := (blk_cell hgb 0).trans rfl
  have h1 : w2.cell? ⟨g, 1, none⟩ = some (.string ⟨#[]⟩) := (blk_cell hgb 1).trans rfl
  have h2 : w2.cell? ⟨g, 2, none⟩ = some (.slice none 0 0) := (blk_cell hgb 2).trans rfl
  have h3 : w2.cell? ⟨g, 3, none⟩ = some (.string ⟨#[]⟩) := (blk_cell hgb 3).trans rfl
  have f0 := blk_frozen hgb 0
  have f1 := blk_frozen hgb 1
  have f2 := blk_frozen hgb 2
  have f3 := blk_frozen hgb 3
  refine one_ (i := 10) (N := none) #[true, true, true, true, true, true, true, true, true, true, true] rfl rfl (one_of HT_.out (by kernel_rfl)) (by decide) (fun K hK => ?_)
  refine skip_ (w1 := ?_) (by rfl) rfl ?_ ?_
  rotate_left
  · go_simp
    rfl
  have hgp : w0.heap.size ≤ g := by have := HPL.out; have := HP.out; omega
  have hpg : p ≠ g := by have := HPL.out; omega
  have HG3 := Aside0.mk (blk_put4 HG.out (.int .i64 frm) (.string ⟨#[]⟩) (.slice none 0 0) (.string whole))
  have HX3 : Aside0 (RdAt p vo vb line whole frm ((((w2.setCell ⟨g, 0, none⟩ (.int .i64 frm)).setCell ⟨g, 1, none⟩ (.string ⟨#[]⟩)).setCell ⟨g, 2, none⟩ (.slice none 0 0)).setCell ⟨g, 3, none⟩ (.string whole))) := ⟨blk_far4 HX2.out hpg (.int .i64 frm) (.string ⟨#[]⟩) (.slice none 0 0) (.string whole)⟩
  have HS3 := Aside0.mk (S_far4 HS2.out (g := g) (fun q hq => by omega) (.int .i64 frm) (.string ⟨#[]⟩) (.slice none 0 0) (.string whole))
  have HD3 := Aside0.mk (S_far4 HD2.out (g := g) (fun q hq => by omega) (.int .i64 frm) (.string ⟨#[]⟩) (.slice none 0 0) (.string whole))
  have HB3 := Aside0.mk (below_set (j := 3) (v := .string whole) (below_set (j := 2) (v := .slice none 0 0) (below_set (j := 1) (v := .string ⟨#[]⟩) (below_set (j := 0) (v := .int .i64 frm) HB2.out hgp) hgp) hgp) hgp)
  have HF3 := Aside0.mk ((((HF2.out.set_new HWG.out 0 (.int .i64 frm)).set_new HWG.out 1 (.string ⟨#[]⟩)).set_new HWG.out 2 (.slice none 0 0)).set_new HWG.out 3 (.string whole))
  have HZ : Aside0 (g < ((((w2.setCell ⟨g, 0, none⟩ (.int .i64 frm)).setCell ⟨g, 1, none⟩ (.string ⟨#[]⟩)).setCell ⟨g, 2, none⟩ (.slice none 0 0)).setCell ⟨g, 3, none⟩ (.string whole)).heap.size) := ⟨by have : w2.heap.size = g + 1 := hsz; simp; omega⟩
  refine hK.out _ _ ⟨(blk_cell HX3.out 3).trans rfl, (blk_cell HX3.out 4).trans rfl⟩ (fun hHeld => ?_)
  clear hK K HX2 HB2 HS2 HD2 HF2 HG h0 h1 h2 h3 f0 f1 f2 f3 hgb hsz
  generalize (((w2.setCell ⟨g, 0, none⟩ (.int .i64 frm)).setCell ⟨g, 1, none⟩ (.string ⟨#[]⟩)).setCell ⟨g, 2, none⟩ (.slice none 0 0)).setCell ⟨g, 3, none⟩ (.string whole) = w3 at HG3 HX3 HS3 HD3 HB3 HF3 HZ hHeld ⊢
  refine done_ (done_of HT_.out (by kernel_rfl)) ?_
  have hx3 := hHeld.1
  clear hHeld
  have HG := HG3
  have HX := HX3
  have HS := Aside0.mk (Kd.S_mono (ok' := fun q => ok q ∧ q ≠ g) HS3.out (fun q hq => ⟨hq.1, by omega⟩))
  have HD := Aside0.mk (Kd.S_mono (ok' := fun q => ok q ∧ q ≠ g) HD3.out (fun q hq => ⟨hq.1, by omega⟩))
  have HB := HB3
  have HF := HF3
  have HPG := Aside0.mk hpg
  have HGB := Aside0.mk hgp
  have HGW := HWG
  have HOK : Aside0 (∀ q, g < q → ok q ∧ q ≠ g) := ⟨fun q hq => ⟨HOK1.out q (by omega), by omega⟩⟩
  clear HG3 HX3 HS3 HD3 HB3 HF3 hpg hgp HWG HOK1
  have e1_ : rest.size + 1 ≤ 9223372036854775807 := by omega
  have e2_ := eq_true e1_
  have e3_ := eq_false (Nat.not_lt.2 e1_)
  have HI := Aside0.mk hi
  clear hi
  have HR := Aside0.mk hr
  clear hr
  have n0_ : (n == 0) = false := beq_eq_false_iff_ne.2 hn
  have c1_ : (0 : Int) ≤ n := hn0
  have c2_ : n ≤ (rest.size : Int) := hnr
  go_wp2_with (first | (go_at_call 52; refine (lines_control.calls whole rest true _ HC.out).mono ?_; rintro e w4 ⟨rfl, hb⟩; have mX := Aside0.mk (blk_below HX.out hb); have mG := Aside0.mk (blk_below HG.out hb); have mS := Aside0.mk (Kd.S_below HS.out hb); have mD := Aside0.mk (Kd.S_below HD.out hb); have mB := Aside0.mk (below_step HB.out hb); have mF := Aside0.mk (HF.out.below hb); have mZ := Aside0.mk (Nat.lt_of_lt_of_le HZ.out hb.size); clear HX HG HS HD HB HF HZ; have HX := mX; have HG := mG; have HS := mS; have HD := mD; have HB := mB; have HF := mF; have HZ := mZ; clear mX mG mS mD mB mF mZ; have hx3 : w4.cell? ⟨p, 3, none⟩ = some (.string whole) := (blk_cell HX.out 3).trans rfl; have hx4 : w4.cell? ⟨p, 4, none⟩ = some (.int .i64 frm) := (blk_cell HX.out 4).trans rfl; have hf3 := blk_frozen HX.out 3; have hf4 := blk_frozen HX.out 4; clear hb) | (go_at_call 54; refine (strings_IndexAny.calls _ _ n _ HI.out).mono ?_; rintro e w6 ⟨rfl, hb⟩; have mX : Aside0 (RdAt p vo vb line ⟨#[]⟩ 0 ((w4.setCell ⟨p, 3, none⟩ (.string ⟨#[]⟩)).setCell ⟨p, 4, none⟩ (.int .i64 0))) := ⟨blk_put (blk_put HX.out 3 _ rfl) 4 _ rfl⟩; have mG : Aside0 (((w4.setCell ⟨p, 3, none⟩ (.string ⟨#[]⟩)).setCell ⟨p, 4, none⟩ (.int .i64 0)).heap[g]? = some (.cells #[.int .i64 frm, .string ⟨#[]⟩, .slice none 0 0, .string whole] 35 (0, 0))) := ⟨blk_far (blk_far HG.out (Ne.symm HPG.out) _) (Ne.symm HPG.out) _⟩; have mS := Aside0.mk (Kd.S_far (p := ⟨p, 4, none⟩) (Kd.S_far (p := ⟨p, 3, none⟩) HS.out (fun q hq => ne_ok HPK.out (hq.1)) (.string ⟨#[]⟩)) (fun q hq => ne_ok HPK.out (hq.1)) (.int .i64 0)); have mD := Aside0.mk (Kd.S_far (p := ⟨p, 4, none⟩) (Kd.S_far (p := ⟨p, 3, none⟩) HD.out (fun q hq => ne_ok HPK.out (hq.1)) (.string ⟨#[]⟩)) (fun q hq => ne_ok HPK.out (hq.1)) (.int .i64 0)); have mB := Aside0.mk (below_set (j := 4) (v := .int .i64 0) (below_set (j := 3) (v := .string ⟨#[]⟩) HB.out HP.out) HP.out); have mF := Aside0.mk ((HF.out.set_p HX.out 3 (.string ⟨#[]⟩)).set_p (blk_put HX.out 3 _ rfl) 4 (.int .i64 0)); have mZ : Aside0 (g < ((w4.setCell ⟨p, 3, none⟩ (.string ⟨#[]⟩)).setCell ⟨p, 4, none⟩ (.int .i64 0)).heap.size) := ⟨by simpa using HZ.out⟩; clear HX HG HS HD HB HF HZ; have HX := mX; have HG := mG; have HS := mS; have HD := mD; have HB := mB; have HF := mF; have HZ := mZ; clear mX mG mS mD mB mF mZ; have mX := Aside0.mk (blk_below HX.out hb); have mG := Aside0.mk (blk_below HG.out hb); have mS := Aside0.mk (Kd.S_below HS.out hb); have mD := Aside0.mk (Kd.S_below HD.out hb); have mB := Aside0.mk (below_step HB.out hb); have mF := Aside0.mk (HF.out.below hb); have mZ := Aside0.mk (Nat.lt_of_lt_of_le HZ.out hb.size); clear HX HG HS HD HB HF HZ; have HX := mX; have HG := mG; have HS := mS; have HD := mD; have HB := mB; have HF := mF; have HZ := mZ; clear mX mG mS mD mB mF mZ; clear hx3 hx4 hf3 hf4 hb) | (go_at_call 12; refine (lines_Args.calls k (rest.extract n.toNat rest.size) l false _ HR.out).mono ?_; rintro e w7 ⟨va, rfl, hra, hb⟩; have HA := Aside0.mk (Kd.R_mono (ok' := fun q => w6.heap.size ≤ q ∧ q ≠ g ∧ q ≠ p) (Kd.R_lower (Kd.R_bound hra) HB.out.size) (fun q hq => ⟨hq.2.1, by have h1_ := hq.2.1; have h2_ := HZ.out; have h3_ := blk_lt HX.out; omega, by have h1_ := hq.2.1; have h3_ := blk_lt HX.out; omega⟩)); have HNG : Aside0 (g < w6.heap.size) := ⟨HZ.out⟩; have mX := Aside0.mk (blk_below HX.out hb); have mG := Aside0.mk (blk_below HG.out hb); have mS := Aside0.mk (Kd.S_old HS.out hb); have mD := Aside0.mk (Kd.S_below HD.out hb); have mB := Aside0.mk (below_step HB.out hb); have mF := Aside0.mk (HF.out.below hb); have mZ := Aside0.mk (Nat.lt_of_lt_of_le HZ.out hb.size); clear HX HG HS HD HB HF HZ; have HX := mX; have HG := mG; have HS := mS; have HD := mD; have HB := mB; have HF := mF; have HZ := mZ; clear mX mG mS mD mB mF mZ; obtain ⟨Aa, ca, rfl, hca, _⟩ := Kd.R_reads hra; have HCA := Aside0.mk hca; clear hra hb hca; have h200_ : (200 : Int) ≤ (ca : Int) := (by have h_ := HCA.out; omega)))
  obtain ⟨N, hN⟩ : ∃ N, N = w6.heap.size := ⟨_, rfl⟩
  rw [← hN] at HA HNG HS
  clear hN
  obtain ⟨Ab1, cb1, rfl⟩ := Kd.S_slice HD.out
  refine start_ (n := 13) (S := fun w' => w'.cell? ⟨p, 1, none⟩ = some (.slice Ab1 bad.length cb1) ∧ w'.cell? ⟨g, 0, none⟩ = some (.int .i64 frm)) (ds := [12]) #[false, false, false, false, false, false, false, false, false, false, false, false, false] (by kernel_rfl) rfl rfl ?_ (fun hHeld => ?_)
  · exact ⟨(blk_cell HX.out 1).trans rfl, (blk_cell HG.out 0).trans rfl⟩
  refine with_tabW lines_done.tab9 lines_done.bits9 (fun HT_ HW_ => ?_)
  have mHX : Aside0 (RdAt p vo (.slice Ab1 bad.length cb1) line ⟨#[]⟩ 0 (w7.drew)) := ⟨HX.out⟩
  have mHG : Aside0 ((w7.drew).heap[g]? = some (.cells #[.int .i64 frm, .string ⟨#[]⟩, .slice none 0 0, .string whole] 35 (0, 0))) := ⟨HG.out⟩
  have mHS : Aside0 (Kd.S k35 35 (w7.drew) w0.heap.size (fun q => (ok q ∧ q ≠ g) ∧ q < N) vo out) := ⟨Kd.S_drew HS.out⟩
  have mHD : Aside0 (Kd.S k37 37 (w7.drew) w0.heap.size (fun q => ok q ∧ q ≠ g) (.slice Ab1 bad.length cb1) bad) := ⟨Kd.S_drew HD.out⟩
  have mHB : Aside0 (Below w0.heap.size w0 (w7.drew)) := ⟨below_drew HB.out⟩
  have mHF : Aside0 (Fr ok p W (w7.drew)) := ⟨HF.out.below (below_drew (Below.refl _ _))⟩
  have mHZ : Aside0 (g < (w7.drew).heap.size) := ⟨HZ.out⟩
  have mHA : Aside0 (Kd.R Kd.string 9 (w7.drew) w0.heap.size (fun q => N ≤ q ∧ q ≠ g ∧ q ≠ p) (.slice Aa l.length ca) l) := ⟨Kd.R_drew HA.out⟩
  clear HX HG HS HD HB HF HZ HA
  have HX := mHX
  have HG := mHG
  have HS := mHS
  have HD := mHD
  have HB := mHB
  have HF := mHF
  have HZ := mHZ
  have HA := mHA
  clear mHX mHG mHS mHD mHB mHF mHZ mHA
  generalize w7.drew = w6 at HX HG HS HD HB HF HZ HA hHeld ⊢
  refine pure_ (i := 0) (N := some 57) (v := ?_) (a' := ?_) #[true, false, false, false, false, false, false, false, false, false, false, false, false] rfl rfl (any_of HT_.out (by kernel_rfl)) (fun _ _ _ h => h) (Or.inl ⟨by rfl, ?_⟩) ?_ ?_
  rotate_left
  · intro w'
    go_simp
    with_reducible rfl
  rotate_left
  · simp only [Act.put, List.setIfInBounds_toArray, List.set_cons_zero, List.set_cons_succ, i64_w, i32_w]
    rfl
  refine pure_ (i := 1) (N := some 58) (v := ?_) (a' := ?_) #[true, true, false, false, false, false, false, false, false, false, false, false, false] rfl rfl (any_of HT_.out (by kernel_rfl)) (fun _ _ _ h => h) (Or.inl ⟨by rfl, ?_⟩) ?_ ?_
  rotate_left
  · intro w'
    go_simp
    with_reducible rfl
  rotate_left
  · simp only [Act.put, List.setIfInBounds_toArray, List.set_cons_zero, List.set_cons_succ, i64_w, i32_w]
    rfl
  refine pure_ (i := 2) (N := some 59) (v := ?_) (a' := ?_) #[true, true, true, false, false, false, false, false, false, false, false, false, false] rfl rfl (any_of HT_.out (by kernel_rfl)) (fun _ _ _ h => h) (Or.inl ⟨by rfl, ?_⟩) ?_ ?_
  rotate_left
  · intro w'
    go_simp
    with_reducible rfl
  rotate_left
  · simp only [Act.put, List.setIfInBounds_toArray, List.set_cons_zero, List.set_cons_succ, i64_w, i32_w]
    rfl
  refine pure_ (i := 3) (N := some 60) (v := ?_) (a' := ?_) #[true, true, true, true, false, false, false, false, false, false, false, false, false] rfl rfl (any_of HT_.out (by kernel_rfl)) (fun _ _ _ h => h) (Or.inl ⟨by rfl, ?_⟩) ?_ ?_
  rotate_left
  · intro w'
    go_simp
    with_reducible rfl
  rotate_left
  · simp only [Act.put, List.setIfInBounds_toArray, List.set_cons_zero, List.set_cons_succ, i64_w, i32_w]
    rfl
  refine take_ (i := 4) (N := some 61) (v := ?_) (a' := ?_) #[true, true, true, true, true, false, false, false, false, false, false, false, false] rfl rfl (take_ofW HT_.out HW_.out (by kernel_rfl)) (fun _ _ _ h => h) (Or.inl ⟨by rfl, ?_⟩) hHeld ?_ ?_
  rotate_left
  · rintro w' ⟨s0, s1⟩
    go_simp
    with_reducible rfl
  rotate_left
  · simp only [Act.put, List.setIfInBounds_toArray, List.set_cons_zero, List.set_cons_succ, i64_w, i32_w]
    rfl
  refine pure_ (i := 5) (N := some 62) (v := ?_) (a' := ?_) #[true, true, true, true, true, true, false, false, false, false, false, false, false] rfl rfl (any_of HT_.out (by kernel_rfl)) (fun _ _ _ h => h) (Or.inl ⟨by rfl, ?_⟩) ?_ ?_
  rotate_left
  · intro w'
    go_simp
    with_reducible rfl
  rotate_left
  · simp only [Act.put, List.setIfInBounds_toArray, List.set_cons_zero, List.set_cons_succ, i64_w, i32_w]
    rfl
  refine take_ (i := 6) (N := some 63) (v := ?_) (a' := ?_) #[true, true, true, true, true, true, true, false, false, false, false, false, false] rfl rfl (take_ofW HT_.out HW_.out (by kernel_rfl)) (fun _ _ _ h => h) (Or.inl ⟨by rfl, ?_⟩) hHeld ?_ ?_
  rotate_left
  · rintro w' ⟨s0, s1⟩
    go_simp
    with_reducible rfl
  rotate_left
  · simp only [Act.put, List.setIfInBounds_toArray, List.set_cons_zero, List.set_cons_succ, i64_w, i32_w]
    rfl
  refine pure_ (i := 7) (N := some 64) (v := ?_) (a' := ?_) #[true, true, true, true, true, true, true, true, false, false, false, false, false] rfl rfl (any_of HT_.out (by kernel_rfl)) (fun _ _ _ h => h) (Or.inl ⟨by rfl, ?_⟩) ?_ ?_
  rotate_left
  · intro w'
    go_simp
    with_reducible rfl
  rotate_left
  · simp only [Act.put, List.setIfInBounds_toArray, List.set_cons_zero, List.set_cons_succ, i64_w, i32_w]
    rfl
  refine one_ (i := 8) (N := some 65) #[true, true, true, true, true, true, true, true, true, false, false, false, false] rfl rfl (one_of HT_.out (by kernel_rfl)) (by decide) (fun K hK => ?_)
  refine value_ (w1 := ?_) (v := ?_) (by rfl) rfl ?_ ?_
  rotate_left 2
  · go_simp
    constructor
    · rfl
    · rfl
  refine hK.out _ _ ⟨Lib.cell?_alloc_some _ hHeld.1, Lib.cell?_alloc_some _ hHeld.2⟩ (fun hHeld => ?_)
  clear hK K
  refine norm_ (a' := ?_) ?_ ?_
  rotate_left
  · show Act.put _ (some 65) _ = _
    simp only [Act.put, List.setIfInBounds_toArray, List.set_cons_zero, List.set_cons_succ, i64_w, i32_w]
    rfl
  refine one_ (i := 9) (N := some 66) #[true, true, true, true, true, true, true, true, true, true, false, false, false] rfl rfl (one_of HT_.out (by kernel_rfl)) (by decide) (fun K hK => ?_)
  refine Kd.S_append_step k37 (w0 := w0) w0.heap.size (by rfl) (.tmp 61) (.tmp 65) 31 37 (.agg #[(.int .i64 0), (.int .i64 0), (.int .i64 0)]) 24 rfl Tryd.underlying31 info_Dg rfl (by decide) (by omega) (.slice Ab1 bad.length cb1) bad ⟨5, frm, 0⟩ [.int .i64 5, .int .i64 frm, .int .i64 0] (fun q => ok q ∧ q ≠ g) (fun _ => False) rfl rfl ?aP ?aK ?aF ?aO ?aB ?aS ?aL ?_
  case aP => exact k37_mkM _ _ _ _
  case aK => exact fun q hq => hq.elim
  case aF => exact fun q hq => HOK.out q (by have := HZ.out; omega)
  case aO => exact Kd.S_mono HD.out (fun q hq => ⟨hq, fun e => e⟩)
  case aB => exact HB.out
  case aS => exact HB.out.size
  case aL => have := HL.out.2; omega
  intro v8 w8 hs8 hb8 hg8 hat8
  have hrow : ∀ q, ((.slice Ab1 bad.length cb1) : Value).ownBlock = some q → ok q ∧ q ≠ p ∧ q ≠ g := fun q hq => by
    have h1 := (Kd.S_R HD.out).1 q hq
    exact ⟨h1.1, fun e => HPK.out (e ▸ h1.1), h1.2⟩
  obtain ⟨B1, hB8⟩ : ∃ b, b = bad ++ [⟨5, frm, 0⟩] := ⟨_, rfl⟩
  rw [← hB8] at hs8
  obtain ⟨A8_1, c8_1, rfl⟩ := Kd.S_slice hs8
  have mX : Aside0 (RdAt p vo (.slice Ab1 bad.length cb1) line ⟨#[]⟩ 0 w8) := ⟨blk_grown HX.out hg8 (fun e => (hrow p e.symm).2.1 rfl)⟩
  have mG : Aside0 (w8.heap[g]? = some (.cells #[.int .i64 frm, .string ⟨#[]⟩, .slice none 0 0, .string whole] 35 (0, 0))) := ⟨blk_grown HG.out hg8 (fun e => (hrow g e.symm).2.2 rfl)⟩
  have mS : Aside0 (Kd.S k35 35 w8 w0.heap.size (fun q => (ok q ∧ q ≠ g) ∧ q < N) vo out) := ⟨Kd.S_over' HS.out (Kd.S_typed HD.out) (by decide) hg8⟩
  have mA : Aside0 (Kd.R Kd.string 9 w8 w0.heap.size (fun q => N ≤ q ∧ q ≠ g ∧ q ≠ p) (.slice Aa l.length ca) l) := ⟨Kd.R_over' HA.out (Kd.S_typed HD.out) (by decide) hg8⟩
  have mF : Aside0 (Fr ok p W w8) := ⟨HF.out.grown hg8 (fun q hq => ⟨(hrow q hq).1, by obtain ⟨cells, hc⟩ := Kd.S_typed HD.out q hq; exact ⟨_, _, _, hc⟩⟩)⟩
  have mD := Aside0.mk hs8
  have mB := Aside0.mk hb8
  have mZ := Aside0.mk (Nat.lt_of_lt_of_le HZ.out hg8.size)
  have HB1 := Aside0.mk hB8
  clear HX HG HS HD HB HF HZ HA hs8 hb8 hg8 hat8 hrow hB8
  have HX := mX
  have HG := mG
  have HS := mS
  have HD := mD
  have HB := mB
  have HF := mF
  have HZ := mZ
  have HA := mA
  clear mX mG mS mD mB mF mZ mA
  refine hK.out _ _ ⟨(blk_cell HX.out 1).trans rfl, (blk_cell HG.out 0).trans rfl⟩ (fun hHeld => ?_)
  clear hK K
  refine norm_ (a' := ?_) ?_ ?_
  rotate_left
  · show Act.put _ (some 66) _ = _
    simp only [Act.put, List.setIfInBounds_toArray, List.set_cons_zero, List.set_cons_succ, i64_w, i32_w]
    rfl
  have hx1 : w8.cell? ⟨p, 1, none⟩ = some (.slice Ab1 bad.length cb1) := (blk_cell HX.out 1).trans rfl
  have hf1 := blk_frozen HX.out 1
  refine pure_ (i := 10) (N := some 67) (v := ?_) (a' := ?_) #[true, true, true, true, true, true, true, true, true, true, true, false, false] rfl rfl (any_of HT_.out (by kernel_rfl)) (fun _ _ _ h => h) (Or.inl ⟨by rfl, ?_⟩) ?_ ?_
  rotate_left
  · intro w'
    go_simp
    with_reducible rfl
  rotate_left
  · simp only [Act.put, List.setIfInBounds_toArray, List.set_cons_zero, List.set_cons_succ, i64_w, i32_w]
    rfl
  refine pure_ (i := 11) (N := some 68) (v := ?_) (a' := ?_) #[true, true, true, true, true, true, true, true, true, true, true, true, false] rfl rfl (any_of HT_.out (by kernel_rfl)) (fun _ _ _ h => h) (Or.inl ⟨by rfl, ?_⟩) ?_ ?_
  rotate_left
  · intro w'
    go_simp
    with_reducible rfl
  rotate_left
  · simp only [Act.put, List.setIfInBounds_toArray, List.set_cons_zero, List.set_cons_succ, i64_w, i32_w]
    rfl
  refine last_ (i := 12) (N := none) #[true, true, true, true, true, true, true, true, true, true, true, true, true] rfl rfl (one_of HT_.out (by kernel_rfl)) (by decide) (fun K hK => ?_)
  refine skip_ (w1 := ?_) (by rfl) rfl ?_ ?_
  rotate_left
  · go_simp
    rfl
  refine hK.out _ _ ?_
  clear hK K hx1 hf1 hHeld
  have mHX : Aside0 (RdAt p vo (.slice A8_1 B1.length c8_1) line ⟨#[]⟩ 0 (w8.setCell ⟨p, 1, none⟩ (.slice A8_1 B1.length c8_1))) := ⟨blk_put HX.out 1 _ rfl⟩
  have mHG : Aside0 ((w8.setCell ⟨p, 1, none⟩ (.slice A8_1 B1.length c8_1)).heap[g]? = some (.cells #[.int .i64 frm, .string ⟨#[]⟩, .slice none 0 0, .string whole] 35 (0, 0))) := ⟨blk_far HG.out (Ne.symm HPG.out) _⟩
  have mHS : Aside0 (Kd.S k35 35 (w8.setCell ⟨p, 1, none⟩ (.slice A8_1 B1.length c8_1)) w0.heap.size (fun q => (ok q ∧ q ≠ g) ∧ q < N) vo out) := ⟨Kd.S_far (p := ⟨p, 1, none⟩) HS.out (fun q hq => ne_ok HPK.out (hq.1.1)) _⟩
  have mHD : Aside0 (Kd.S k37 37 (w8.setCell ⟨p, 1, none⟩ (.slice A8_1 B1.length c8_1)) w0.heap.size (fun q => ok q ∧ q ≠ g) (.slice A8_1 B1.length c8_1) B1) := ⟨Kd.S_far (p := ⟨p, 1, none⟩) HD.out (fun q hq => ne_ok HPK.out (hq.1)) _⟩
  have mHB : Aside0 (Below w0.heap.size w0 (w8.setCell ⟨p, 1, none⟩ (.slice A8_1 B1.length c8_1))) := ⟨below_set HB.out HP.out⟩
  have mHF : Aside0 (Fr ok p W (w8.setCell ⟨p, 1, none⟩ (.slice A8_1 B1.length c8_1))) := ⟨HF.out.set_p HX.out 1 _⟩
  have mHZ : Aside0 (g < (w8.setCell ⟨p, 1, none⟩ (.slice A8_1 B1.length c8_1)).heap.size) := ⟨by simpa using HZ.out⟩
  have mHA : Aside0 (Kd.R Kd.string 9 (w8.setCell ⟨p, 1, none⟩ (.slice A8_1 B1.length c8_1)) w0.heap.size (fun q => N ≤ q ∧ q ≠ g ∧ q ≠ p) (.slice Aa l.length ca) l) := ⟨Kd.R_far (p := ⟨p, 1, none⟩) HA.out (fun q hq => hq.2.2) _⟩
  clear HX HG HS HD HB HF HZ HA
  have HX := mHX
  have HG := mHG
  have HS := mHS
  have HD := mHD
  have HB := mHB
  have HF := mHF
  have HZ := mHZ
  have HA := mHA
  clear mHX mHG mHS mHD mHB mHF mHZ mHA
  generalize w8.setCell ⟨p, 1, none⟩ (.slice A8_1 B1.length c8_1) = w7 at HX HG HS HD HB HF HZ HA ⊢
  refine done_ (done_of HT_.out (by kernel_rfl)) ?_
  go_wp2
  have mA := Aside0.mk (Kd.R_take (m := 200) HA.out (by omega))
  clear HA
  have HA := mA
  clear mA
  refine start_ (n := 13) (S := fun w' => w'.cell? ⟨p, 1, none⟩ = some (.slice A8_1 B1.length c8_1) ∧ w'.cell? ⟨g, 0, none⟩ = some (.int .i64 frm)) (ds := [12]) #[false, false, false, false, false, false, false, false, false, false, false, false, false] (by kernel_rfl) rfl rfl ?_ (fun hHeld => ?_)
  · exact ⟨(blk_cell HX.out 1).trans rfl, (blk_cell HG.out 0).trans rfl⟩
  refine with_tabW lines_done.tab12 lines_done.bits12 (fun HT_ HW_ => ?_)
  have mHX : Aside0 (RdAt p vo (.slice A8_1 B1.length c8_1) line ⟨#[]⟩ 0 (w7.drew)) := ⟨HX.out⟩
  have mHG : Aside0 ((w7.drew).heap[g]? = some (.cells #[.int .i64 frm, .string ⟨#[]⟩, .slice none 0 0, .string whole] 35 (0, 0))) := ⟨HG.out⟩
  have mHS : Aside0 (Kd.S k35 35 (w7.drew) w0.heap.size (fun q => (ok q ∧ q ≠ g) ∧ q < N) vo out) := ⟨Kd.S_drew HS.out⟩
  have mHD : Aside0 (Kd.S k37 37 (w7.drew) w0.heap.size (fun q => ok q ∧ q ≠ g) (.slice A8_1 B1.length c8_1) B1) := ⟨Kd.S_drew HD.out⟩
  have mHB : Aside0 (Below w0.heap.size w0 (w7.drew)) := ⟨below_drew HB.out⟩
  have mHF : Aside0 (Fr ok p W (w7.drew)) := ⟨HF.out.below (below_drew (Below.refl _ _))⟩
  have mHZ : Aside0 (g < (w7.drew).heap.size) := ⟨HZ.out⟩
  have mHA : Aside0 (Kd.R Kd.string 9 (w7.drew) w0.heap.size (fun q => N ≤ q ∧ q ≠ g ∧ q ≠ p) (.slice Aa 200 ca) (l.take 200)) := ⟨Kd.R_drew HA.out⟩
  clear HX HG HS HD HB HF HZ HA
  have HX := mHX
  have HG := mHG
  have HS := mHS
  have HD := mHD
  have HB := mHB
  have HF := mHF
  have HZ := mHZ
  have HA := mHA
  clear mHX mHG mHS mHD mHB mHF mHZ mHA
  generalize w7.drew = w8 at HX HG HS HD HB HF HZ HA hHeld ⊢
  refine pure_ (i := 0) (N := some 74) (v := ?_) (a' := ?_) #[true, false, false, false, false, false, false, false, false, false, false, false, false] rfl rfl (any_of HT_.out (by kernel_rfl)) (fun _ _ _ h => h) (Or.inl ⟨by rfl, ?_⟩) ?_ ?_
  rotate_left
  · intro w'
    go_simp
    with_reducible rfl
  rotate_left
  · simp only [Act.put, List.setIfInBounds_toArray, List.set_cons_zero, List.set_cons_succ, i64_w, i32_w]
    rfl
  refine pure_ (i := 1) (N := some 75) (v := ?_) (a' := ?_) #[true, true, false, false, false, false, false, false, false, false, false, false, false] rfl rfl (any_of HT_.out (by kernel_rfl)) (fun _ _ _ h => h) (Or.inl ⟨by rfl, ?_⟩) ?_ ?_
  rotate_left
  · intro w'
    go_simp
    with_reducible rfl
  rotate_left
  · simp only [Act.put, List.setIfInBounds_toArray, List.set_cons_zero, List.set_cons_succ, i64_w, i32_w]
    rfl
  refine pure_ (i := 2) (N := some 76) (v := ?_) (a' := ?_) #[true, true, true, false, false, false, false, false, false, false, false, false, false] rfl rfl (any_of HT_.out (by kernel_rfl)) (fun _ _ _ h => h) (Or.inl ⟨by rfl, ?_⟩) ?_ ?_
  rotate_left
  · intro w'
    go_simp
    with_reducible rfl
  rotate_left
  · simp only [Act.put, List.setIfInBounds_toArray, List.set_cons_zero, List.set_cons_succ, i64_w, i32_w]
    rfl
  refine pure_ (i := 3) (N := some 77) (v := ?_) (a' := ?_) #[true, true, true, true, false, false, false, false, false, false, false, false, false] rfl rfl (any_of HT_.out (by kernel_rfl)) (fun _ _ _ h => h) (Or.inl ⟨by rfl, ?_⟩) ?_ ?_
  rotate_left
  · intro w'
    go_simp
    with_reducible rfl
  rotate_left
  · simp only [Act.put, List.setIfInBounds_toArray, List.set_cons_zero, List.set_cons_succ, i64_w, i32_w]
    rfl
  refine take_ (i := 4) (N := some 78) (v := ?_) (a' := ?_) #[true, true, true, true, true, false, false, false, false, false, false, false, false] rfl rfl (take_ofW HT_.out HW_.out (by kernel_rfl)) (fun _ _ _ h => h) (Or.inl ⟨by rfl, ?_⟩) hHeld ?_ ?_
  rotate_left
  · rintro w' ⟨s0, s1⟩
    go_simp
    with_reducible rfl
  rotate_left
  · simp only [Act.put, List.setIfInBounds_toArray, List.set_cons_zero, List.set_cons_succ, i64_w, i32_w]
    rfl
  refine pure_ (i := 5) (N := some 79) (v := ?_) (a' := ?_) #[true, true, true, true, true, true, false, false, false, false, false, false, false] rfl rfl (any_of HT_.out (by kernel_rfl)) (fun _ _ _ h => h) (Or.inl ⟨by rfl, ?_⟩) ?_ ?_
  rotate_left
  · intro w'
    go_simp
    with_reducible rfl
  rotate_left
  · simp only [Act.put, List.setIfInBounds_toArray, List.set_cons_zero, List.set_cons_succ, i64_w, i32_w]
    rfl
  refine take_ (i := 6) (N := some 80) (v := ?_) (a' := ?_) #[true, true, true, true, true, true, true, false, false, false, false, false, false] rfl rfl (take_ofW HT_.out HW_.out (by kernel_rfl)) (fun _ _ _ h => h) (Or.inl ⟨by rfl, ?_⟩) hHeld ?_ ?_
  rotate_left
  · rintro w' ⟨s0, s1⟩
    go_simp
    with_reducible rfl
  rotate_left
  · simp only [Act.put, List.setIfInBounds_toArray, List.set_cons_zero, List.set_cons_succ, i64_w, i32_w]
    rfl
  refine pure_ (i := 7) (N := some 81) (v := ?_) (a' := ?_) #[true, true, true, true, true, true, true, true, false, false, false, false, false] rfl rfl (any_of HT_.out (by kernel_rfl)) (fun _ _ _ h => h) (Or.inl ⟨by rfl, ?_⟩) ?_ ?_
  rotate_left
  · intro w'
    go_simp
    with_reducible rfl
  rotate_left
  · simp only [Act.put, List.setIfInBounds_toArray, List.set_cons_zero, List.set_cons_succ, i64_w, i32_w]
    rfl
  refine one_ (i := 8) (N := some 82) #[true, true, true, true, true, true, true, true, true, false, false, false, false] rfl rfl (one_of HT_.out (by kernel_rfl)) (by decide) (fun K hK => ?_)
  refine value_ (w1 := ?_) (v := ?_) (by rfl) rfl ?_ ?_
  rotate_left 2
  · go_simp
    constructor
    · rfl
    · rfl
  refine hK.out _ _ ⟨Lib.cell?_alloc_some _ hHeld.1, Lib.cell?_alloc_some _ hHeld.2⟩ (fun hHeld => ?_)
  clear hK K
  refine norm_ (a' := ?_) ?_ ?_
  rotate_left
  · show Act.put _ (some 82) _ = _
    simp only [Act.put, List.setIfInBounds_toArray, List.set_cons_zero, List.set_cons_succ, i64_w, i32_w]
    rfl
  refine one_ (i := 9) (N := some 83) #[true, true, true, true, true, true, true, true, true, true, false, false, false] rfl rfl (one_of HT_.out (by kernel_rfl)) (by decide) (fun K hK => ?_)
  refine Kd.S_append_step k37 (w0 := w0) w0.heap.size (by rfl) (.tmp 78) (.tmp 82) 31 37 (.agg #[(.int .i64 0), (.int .i64 0), (.int .i64 0)]) 24 rfl Tryd.underlying31 info_Dg rfl (by decide) (by omega) (.slice A8_1 B1.length c8_1) B1 ⟨11, frm, 0⟩ [.int .i64 11, .int .i64 frm, .int .i64 0] (fun q => ok q ∧ q ≠ g) (fun _ => False) rfl rfl ?aP ?aK ?aF ?aO ?aB ?aS ?aL ?_
  case aP => exact k37_mkM _ _ _ _
  case aK => exact fun q hq => hq.elim
  case aF => exact fun q hq => HOK.out q (by have := HZ.out; omega)
  case aO => exact Kd.S_mono HD.out (fun q hq => ⟨hq, fun e => e⟩)
  case aB => exact HB.out
  case aS => exact HB.out.size
  case aL => have := HL.out.2; have h1 := congrArg List.length HB1.out; simp at h1; omega
  intro v8 w8 hs8 hb8 hg8 hat8
  have hrow : ∀ q, ((.slice A8_1 B1.length c8_1) : Value).ownBlock = some q → ok q ∧ q ≠ p ∧ q ≠ g := fun q hq => by
    have h1 := (Kd.S_R HD.out).1 q hq
    exact ⟨h1.1, fun e => HPK.out (e ▸ h1.1), h1.2⟩
  obtain ⟨B2, hB8⟩ : ∃ b, b = B1 ++ [⟨11, frm, 0⟩] := ⟨_, rfl⟩
  rw [← hB8] at hs8
  obtain ⟨A8_2, c8_2, rfl⟩ := Kd.S_slice hs8
  have mX : Aside0 (RdAt p vo (.slice A8_1 B1.length c8_1) line ⟨#[]⟩ 0 w8) := ⟨blk_grown HX.out hg8 (fun e => (hrow p e.symm).2.1 rfl)⟩
  have mG : Aside0 (w8.heap[g]? = some (.cells #[.int .i64 frm, .string ⟨#[]⟩, .slice none 0 0, .string whole] 35 (0, 0))) := ⟨blk_grown HG.out hg8 (fun e => (hrow g e.symm).2.2 rfl)⟩
  have mS : Aside0 (Kd.S k35 35 w8 w0.heap.size (fun q => (ok q ∧ q ≠ g) ∧ q < N) vo out) := ⟨Kd.S_over' HS.out (Kd.S_typed HD.out) (by decide) hg8⟩
  have mA : Aside0 (Kd.R Kd.string 9 w8 w0.heap.size (fun q => N ≤ q ∧ q ≠ g ∧ q ≠ p) (.slice Aa 200 ca) (l.take 200)) := ⟨Kd.R_over' HA.out (Kd.S_typed HD.out) (by decide) hg8⟩
  have mF : Aside0 (Fr ok p W w8) := ⟨HF.out.grown hg8 (fun q hq => ⟨(hrow q hq).1, by obtain ⟨cells, hc⟩ := Kd.S_typed HD.out q hq; exact ⟨_, _, _, hc⟩⟩)⟩
  have mD := Aside0.mk hs8
  have mB := Aside0.mk hb8
  have mZ := Aside0.mk (Nat.lt_of_lt_of_le HZ.out hg8.size)
  have HB2 := Aside0.mk hB8
  clear HX HG HS HD HB HF HZ HA hs8 hb8 hg8 hat8 hrow hB8
  have HX := mX
  have HG := mG
  have HS := mS
  have HD := mD
  have HB := mB
  have HF := mF
  have HZ := mZ
  have HA := mA
  clear mX mG mS mD mB mF mZ mA
  refine hK.out _ _ ⟨(blk_cell HX.out 1).trans rfl, (blk_cell HG.out 0).trans rfl⟩ (fun hHeld => ?_)
  clear hK K
  refine norm_ (a' := ?_) ?_ ?_
  rotate_left
  · show Act.put _ (some 83) _ = _
    simp only [Act.put, List.setIfInBounds_toArray, List.set_cons_zero, List.set_cons_succ, i64_w, i32_w]
    rfl
  have hx1 : w8.cell? ⟨p, 1, none⟩ = some (.slice A8_1 B1.length c8_1) := (blk_cell HX.out 1).trans rfl
  have hf1 := blk_frozen HX.out 1
  refine pure_ (i := 10) (N := some 84) (v := ?_) (a' := ?_) #[true, true, true, true, true, true, true, true, true, true, true, false, false] rfl rfl (any_of HT_.out (by kernel_rfl)) (fun _ _ _ h => h) (Or.inl ⟨by rfl, ?_⟩) ?_ ?_
  rotate_left
  · intro w'
    go_simp
    with_reducible rfl
  rotate_left
  · simp only [Act.put, List.setIfInBounds_toArray, List.set_cons_zero, List.set_cons_succ, i64_w, i32_w]
    rfl
  refine pure_ (i := 11) (N := some 85) (v := ?_) (a' := ?_) #[true, true, true, true, true, true, true, true, true, true, true, true, false] rfl rfl (any_of HT_.out (by kernel_rfl)) (fun _ _ _ h => h) (Or.inl ⟨by rfl, ?_⟩) ?_ ?_
  rotate_left
  · intro w'
    go_simp
    with_reducible rfl
  rotate_left
  · simp only [Act.put, List.setIfInBounds_toArray, List.set_cons_zero, List.set_cons_succ, i64_w, i32_w]
    rfl
  refine last_ (i := 12) (N := none) #[true, true, true, true, true, true, true, true, true, true, true, true, true] rfl rfl (one_of HT_.out (by kernel_rfl)) (by decide) (fun K hK => ?_)
  refine skip_ (w1 := ?_) (by rfl) rfl ?_ ?_
  rotate_left
  · go_simp
    rfl
  refine hK.out _ _ ?_
  clear hK K hx1 hf1 hHeld
  have mHX : Aside0 (RdAt p vo (.slice A8_2 B2.length c8_2) line ⟨#[]⟩ 0 (w8.setCell ⟨p, 1, none⟩ (.slice A8_2 B2.length c8_2))) := ⟨blk_put HX.out 1 _ rfl⟩
  have mHG : Aside0 ((w8.setCell ⟨p, 1, none⟩ (.slice A8_2 B2.length c8_2)).heap[g]? = some (.cells #[.int .i64 frm, .string ⟨#[]⟩, .slice none 0 0, .string whole] 35 (0, 0))) := ⟨blk_far HG.out (Ne.symm HPG.out) _⟩
  have mHS : Aside0 (Kd.S k35 35 (w8.setCell ⟨p, 1, none⟩ (.slice A8_2 B2.length c8_2)) w0.heap.size (fun q => (ok q ∧ q ≠ g) ∧ q < N) vo out) := ⟨Kd.S_far (p := ⟨p, 1, none⟩) HS.out (fun q hq => ne_ok HPK.out (hq.1.1)) _⟩
  have mHD : Aside0 (Kd.S k37 37 (w8.setCell ⟨p, 1, none⟩ (.slice A8_2 B2.length c8_2)) w0.heap.size (fun q => ok q ∧ q ≠ g) (.slice A8_2 B2.length c8_2) B2) := ⟨Kd.S_far (p := ⟨p, 1, none⟩) HD.out (fun q hq => ne_ok HPK.out (hq.1)) _⟩
  have mHB : Aside0 (Below w0.heap.size w0 (w8.setCell ⟨p, 1, none⟩ (.slice A8_2 B2.length c8_2))) := ⟨below_set HB.out HP.out⟩
  have mHF : Aside0 (Fr ok p W (w8.setCell ⟨p, 1, none⟩ (.slice A8_2 B2.length c8_2))) := ⟨HF.out.set_p HX.out 1 _⟩
  have mHZ : Aside0 (g < (w8.setCell ⟨p, 1, none⟩ (.slice A8_2 B2.length c8_2)).heap.size) := ⟨by simpa using HZ.out⟩
  have mHA : Aside0 (Kd.R Kd.string 9 (w8.setCell ⟨p, 1, none⟩ (.slice A8_2 B2.length c8_2)) w0.heap.size (fun q => N ≤ q ∧ q ≠ g ∧ q ≠ p) (.slice Aa 200 ca) (l.take 200)) := ⟨Kd.R_far (p := ⟨p, 1, none⟩) HA.out (fun q hq => hq.2.2) _⟩
  clear HX HG HS HD HB HF HZ HA
  have HX := mHX
  have HG := mHG
  have HS := mHS
  have HD := mHD
  have HB := mHB
  have HF := mHF
  have HZ := mHZ
  have HA := mHA
  clear mHX mHG mHS mHD mHB mHF mHZ mHA
  generalize w8.setCell ⟨p, 1, none⟩ (.slice A8_2 B2.length c8_2) = w9 at HX HG HS HD HB HF HZ HA ⊢
  refine done_ (done_of HT_.out (by kernel_rfl)) ?_
  go_wp2
  refine start_ (n := 10) (S := fun _ => True) (ds := []) #[false, false, false, false, false, false, false, false, false, false] (by kernel_rfl) rfl rfl trivial (fun hHeld => ?_)
  refine with_tabW lines_done.tab13 lines_done.bits13 (fun HT_ HW_ => ?_)
  clear hHeld
  have mHX : Aside0 (RdAt p vo (.slice A8_2 B2.length c8_2) line ⟨#[]⟩ 0 (w9.drew)) := ⟨HX.out⟩
  have mHG : Aside0 ((w9.drew).heap[g]? = some (.cells #[.int .i64 frm, .string ⟨#[]⟩, .slice none 0 0, .string whole] 35 (0, 0))) := ⟨HG.out⟩
  have mHS : Aside0 (Kd.S k35 35 (w9.drew) w0.heap.size (fun q => (ok q ∧ q ≠ g) ∧ q < N) vo out) := ⟨Kd.S_drew HS.out⟩
  have mHD : Aside0 (Kd.S k37 37 (w9.drew) w0.heap.size (fun q => ok q ∧ q ≠ g) (.slice A8_2 B2.length c8_2) B2) := ⟨Kd.S_drew HD.out⟩
  have mHB : Aside0 (Below w0.heap.size w0 (w9.drew)) := ⟨below_drew HB.out⟩
  have mHF : Aside0 (Fr ok p W (w9.drew)) := ⟨HF.out.below (below_drew (Below.refl _ _))⟩
  have mHZ : Aside0 (g < (w9.drew).heap.size) := ⟨HZ.out⟩
  have mHA : Aside0 (Kd.R Kd.string 9 (w9.drew) w0.heap.size (fun q => N ≤ q ∧ q ≠ g ∧ q ≠ p) (.slice Aa 200 ca) (l.take 200)) := ⟨Kd.R_drew HA.out⟩
  clear HX HG HS HD HB HF HZ HA
  have HX := mHX
  have HG := mHG
  have HS := mHS
  have HD := mHD
  have HB := mHB
  have HF := mHF
  have HZ := mHZ
  have HA := mHA
  clear mHX mHG mHS mHD mHB mHF mHZ mHA
  generalize w9.drew = w10 at HX HG HS HD HB HF HZ HA ⊢
  refine pure_ (i := 0) (N := some 86) (v := ?_) (a' := ?_) #[true, false, false, false, false, false, false, false, false, false] rfl rfl (any_of HT_.out (by kernel_rfl)) (fun _ _ _ h => h) (Or.inl ⟨by rfl, ?_⟩) ?_ ?_
  rotate_left
  · intro w'
    go_simp
    with_reducible rfl
  rotate_left
  · simp only [Act.put, List.setIfInBounds_toArray, List.set_cons_zero, List.set_cons_succ, i64_w, i32_w]
    rfl
  refine pure_ (i := 1) (N := some 87) (v := ?_) (a' := ?_) #[true, true, false, false, false, false, false, false, false, false] rfl rfl (any_of HT_.out (by kernel_rfl)) (fun _ _ _ h => h) (Or.inl ⟨by rfl, ?_⟩) ?_ ?_
  rotate_left
  · intro w'
    go_simp
    with_reducible rfl
  rotate_left
  · simp only [Act.put, List.setIfInBounds_toArray, List.set_cons_zero, List.set_cons_succ, i64_w, i32_w]
    rfl
  refine pure_ (i := 2) (N := some 88) (v := ?_) (a' := ?_) #[true, true, true, false, false, false, false, false, false, false] rfl rfl (any_of HT_.out (by kernel_rfl)) (fun _ _ _ h => h) (Or.inl ⟨by rfl, ?_⟩) ?_ ?_
  rotate_left
  · intro w'
    go_simp
    with_reducible rfl
  rotate_left
  · simp only [Act.put, List.setIfInBounds_toArray, List.set_cons_zero, List.set_cons_succ, i64_w, i32_w]
    rfl
  refine pure_ (i := 3) (N := some 89) (v := ?_) (a' := ?_) #[true, true, true, true, false, false, false, false, false, false] rfl rfl (any_of HT_.out (by kernel_rfl)) (fun _ _ _ h => h) (Or.inl ⟨by rfl, ?_⟩) ?_ ?_
  rotate_left
  · intro w'
    go_simp
    with_reducible rfl
  rotate_left
  · simp only [Act.put, List.setIfInBounds_toArray, List.set_cons_zero, List.set_cons_succ, i64_w, i32_w]
    rfl
  refine pure_ (i := 4) (N := some 90) (v := ?_) (a' := ?_) #[true, true, true, true, true, false, false, false, false, false] rfl rfl (any_of HT_.out (by kernel_rfl)) (fun _ _ _ h => h) (Or.inl ⟨by rfl, ?_⟩) ?_ ?_
  rotate_left
  · intro w'
    go_simp
    with_reducible rfl
  rotate_left
  · simp only [Act.put, List.setIfInBounds_toArray, List.set_cons_zero, List.set_cons_succ, i64_w, i32_w]
    rfl
  have hgc : w10.cell? ⟨g, 3, none⟩ = some (.string whole) := (blk_cell HG.out 3).trans rfl
  have hgf := blk_frozen HG.out 3
  refine one_ (i := 5) (N := none) #[true, true, true, true, true, true, false, false, false, false] rfl rfl (one_of HT_.out (by kernel_rfl)) (by decide) (fun K hK => ?_)
  refine skip_ (w1 := ?_) (by rfl) rfl ?_ ?_
  rotate_left
  · go_simp
    rfl
  refine hK.out _ _ trivial (fun hHeld => ?_)
  clear hK K hgc hgf hHeld
  have mHX : Aside0 (RdAt p vo (.slice A8_2 B2.length c8_2) line ⟨#[]⟩ 0 (w10.setCell ⟨g, 3, none⟩ (.string ⟨#[]⟩))) := ⟨blk_far HX.out HPG.out _⟩
  have mHG : Aside0 ((w10.setCell ⟨g, 3, none⟩ (.string ⟨#[]⟩)).heap[g]? = some (.cells #[.int .i64 frm, .string ⟨#[]⟩, .slice none 0 0, .string ⟨#[]⟩] 35 (0, 0))) := ⟨blk_put HG.out 3 _ rfl⟩
  have mHS : Aside0 (Kd.S k35 35 (w10.setCell ⟨g, 3, none⟩ (.string ⟨#[]⟩)) w0.heap.size (fun q => (ok q ∧ q ≠ g) ∧ q < N) vo out) := ⟨Kd.S_far (p := ⟨g, 3, none⟩) HS.out (fun q hq => hq.1.2) _⟩
  have mHD : Aside0 (Kd.S k37 37 (w10.setCell ⟨g, 3, none⟩ (.string ⟨#[]⟩)) w0.heap.size (fun q => ok q ∧ q ≠ g) (.slice A8_2 B2.length c8_2) B2) := ⟨Kd.S_far (p := ⟨g, 3, none⟩) HD.out (fun q hq => hq.2) _⟩
  have mHB : Aside0 (Below w0.heap.size w0 (w10.setCell ⟨g, 3, none⟩ (.string ⟨#[]⟩))) := ⟨below_set HB.out HGB.out⟩
  have mHF : Aside0 (Fr ok p W (w10.setCell ⟨g, 3, none⟩ (.string ⟨#[]⟩))) := ⟨HF.out.set_new HGW.out 3 _⟩
  have mHZ : Aside0 (g < (w10.setCell ⟨g, 3, none⟩ (.string ⟨#[]⟩)).heap.size) := ⟨by simpa using HZ.out⟩
  have mHA : Aside0 (Kd.R Kd.string 9 (w10.setCell ⟨g, 3, none⟩ (.string ⟨#[]⟩)) w0.heap.size (fun q => N ≤ q ∧ q ≠ g ∧ q ≠ p) (.slice Aa 200 ca) (l.take 200)) := ⟨Kd.R_far (p := ⟨g, 3, none⟩) HA.out (fun q hq => hq.2.1) _⟩
  clear HX HG HS HD HB HF HZ HA
  have HX := mHX
  have HG := mHG
  have HS := mHS
  have HD := mHD
  have HB := mHB
  have HF := mHF
  have HZ := mHZ
  have HA := mHA
  clear mHX mHG mHS mHD mHB mHF mHZ mHA
  generalize w10.setCell ⟨g, 3, none⟩ (.string ⟨#[]⟩) = w11 at HX HG HS HD HB HF HZ HA ⊢
  refine pure_ (i := 6) (N := some 91) (v := ?_) (a' := ?_) #[true, true, true, true, true, true, true, false, false, false] rfl rfl (any_of HT_.out (by kernel_rfl)) (fun _ _ _ h => h) (Or.inl ⟨by rfl, ?_⟩) ?_ ?_
  rotate_left
  · intro w'
    go_simp
    with_reducible rfl
  rotate_left
  · simp only [Act.put, List.setIfInBounds_toArray, List.set_cons_zero, List.set_cons_succ, i64_w, i32_w]
    rfl
  have hgc : w11.cell? ⟨g, 1, none⟩ = some (.string ⟨#[]⟩) := (blk_cell HG.out 1).trans rfl
  have hgf := blk_frozen HG.out 1
  refine one_ (i := 7) (N := none) #[true, true, true, true, true, true, true, true, false, false] rfl rfl (one_of HT_.out (by kernel_rfl)) (by decide) (fun K hK => ?_)
  refine skip_ (w1 := ?_) (by rfl) rfl ?_ ?_
  rotate_left
  · go_simp
    rfl
  refine hK.out _ _ trivial (fun hHeld => ?_)
  clear hK K hgc hgf hHeld
  have mHX : Aside0 (RdAt p vo (.slice A8_2 B2.length c8_2) line ⟨#[]⟩ 0 (w11.setCell ⟨g, 1, none⟩ (.string (rest.extract 0 n.toNat)))) := ⟨blk_far HX.out HPG.out _⟩
  have mHG : Aside0 ((w11.setCell ⟨g, 1, none⟩ (.string (rest.extract 0 n.toNat))).heap[g]? = some (.cells #[.int .i64 frm, .string (rest.extract 0 n.toNat), .slice none 0 0, .string ⟨#[]⟩] 35 (0, 0))) := ⟨blk_put HG.out 1 _ rfl⟩
  have mHS : Aside0 (Kd.S k35 35 (w11.setCell ⟨g, 1, none⟩ (.string (rest.extract 0 n.toNat))) w0.heap.size (fun q => (ok q ∧ q ≠ g) ∧ q < N) vo out) := ⟨Kd.S_far (p := ⟨g, 1, none⟩) HS.out (fun q hq => hq.1.2) _⟩
  have mHD : Aside0 (Kd.S k37 37 (w11.setCell ⟨g, 1, none⟩ (.string (rest.extract 0 n.toNat))) w0.heap.size (fun q => ok q ∧ q ≠ g) (.slice A8_2 B2.length c8_2) B2) := ⟨Kd.S_far (p := ⟨g, 1, none⟩) HD.out (fun q hq => hq.2) _⟩
  have mHB : Aside0 (Below w0.heap.size w0 (w11.setCell ⟨g, 1, none⟩ (.string (rest.extract 0 n.toNat)))) := ⟨below_set HB.out HGB.out⟩
  have mHF : Aside0 (Fr ok p W (w11.setCell ⟨g, 1, none⟩ (.string (rest.extract 0 n.toNat)))) := ⟨HF.out.set_new HGW.out 1 _⟩
  have mHZ : Aside0 (g < (w11.setCell ⟨g, 1, none⟩ (.string (rest.extract 0 n.toNat))).heap.size) := ⟨by simpa using HZ.out⟩
  have mHA : Aside0 (Kd.R Kd.string 9 (w11.setCell ⟨g, 1, none⟩ (.string (rest.extract 0 n.toNat))) w0.heap.size (fun q => N ≤ q ∧ q ≠ g ∧ q ≠ p) (.slice Aa 200 ca) (l.take 200)) := ⟨Kd.R_far (p := ⟨g, 1, none⟩) HA.out (fun q hq => hq.2.1) _⟩
  clear HX HG HS HD HB HF HZ HA
  have HX := mHX
  have HG := mHG
  have HS := mHS
  have HD := mHD
  have HB := mHB
  have HF := mHF
  have HZ := mHZ
  have HA := mHA
  clear mHX mHG mHS mHD mHB mHF mHZ mHA
  generalize w11.setCell ⟨g, 1, none⟩ (.string (rest.extract 0 n.toNat)) = w12 at HX HG HS HD HB HF HZ HA ⊢
  refine pure_ (i := 8) (N := some 92) (v := ?_) (a' := ?_) #[true, true, true, true, true, true, true, true, true, false] rfl rfl (any_of HT_.out (by kernel_rfl)) (fun _ _ _ h => h) (Or.inl ⟨by rfl, ?_⟩) ?_ ?_
  rotate_left
  · intro w'
    go_simp
    with_reducible rfl
  rotate_left
  · simp only [Act.put, List.setIfInBounds_toArray, List.set_cons_zero, List.set_cons_succ, i64_w, i32_w]
    rfl
  have hgc : w12.cell? ⟨g, 2, none⟩ = some (.slice none 0 0) := (blk_cell HG.out 2).trans rfl
  have hgf := blk_frozen HG.out 2
  refine one_ (i := 9) (N := none) #[true, true, true, true, true, true, true, true, true, true] rfl rfl (one_of HT_.out (by kernel_rfl)) (by decide) (fun K hK => ?_)
  refine skip_ (w1 := ?_) (by rfl) rfl ?_ ?_
  rotate_left
  · go_simp
    rfl
  refine hK.out _ _ trivial (fun hHeld => ?_)
  clear hK K hgc hgf hHeld
  have mHX : Aside0 (RdAt p vo (.slice A8_2 B2.length c8_2) line ⟨#[]⟩ 0 (w12.setCell ⟨g, 2, none⟩ ((.slice Aa 200 ca)))) := ⟨blk_far HX.out HPG.out _⟩
  have mHG : Aside0 ((w12.setCell ⟨g, 2, none⟩ ((.slice Aa 200 ca))).heap[g]? = some (.cells #[.int .i64 frm, .string (rest.extract 0 n.toNat), (.slice Aa 200 ca), .string ⟨#[]⟩] 35 (0, 0))) := ⟨blk_put HG.out 2 _ rfl⟩
  have mHS : Aside0 (Kd.S k35 35 (w12.setCell ⟨g, 2, none⟩ ((.slice Aa 200 ca))) w0.heap.size (fun q => (ok q ∧ q ≠ g) ∧ q < N) vo out) := ⟨Kd.S_far (p := ⟨g, 2, none⟩) HS.out (fun q hq => hq.1.2) _⟩
  have mHD : Aside0 (Kd.S k37 37 (w12.setCell ⟨g, 2, none⟩ ((.slice Aa 200 ca))) w0.heap.size (fun q => ok q ∧ q ≠ g) (.slice A8_2 B2.length c8_2) B2) := ⟨Kd.S_far (p := ⟨g, 2, none⟩) HD.out (fun q hq => hq.2) _⟩
  have mHB : Aside0 (Below w0.heap.size w0 (w12.setCell ⟨g, 2, none⟩ ((.slice Aa 200 ca)))) := ⟨below_set HB.out HGB.out⟩
  have mHF : Aside0 (Fr ok p W (w12.setCell ⟨g, 2, none⟩ ((.slice Aa 200 ca)))) := ⟨HF.out.set_new HGW.out 2 _⟩
  have mHZ : Aside0 (g < (w12.setCell ⟨g, 2, none⟩ ((.slice Aa 200 ca))).heap.size) := ⟨by simpa using HZ.out⟩
  have mHA : Aside0 (Kd.R Kd.string 9 (w12.setCell ⟨g, 2, none⟩ ((.slice Aa 200 ca))) w0.heap.size (fun q => N ≤ q ∧ q ≠ g ∧ q ≠ p) (.slice Aa 200 ca) (l.take 200)) := ⟨Kd.R_far (p := ⟨g, 2, none⟩) HA.out (fun q hq => hq.2.1) _⟩
  clear HX HG HS HD HB HF HZ HA
  have HX := mHX
  have HG := mHG
  have HS := mHS
  have HD := mHD
  have HB := mHB
  have HF := mHF
  have HZ := mHZ
  have HA := mHA
  clear mHX mHG mHS mHD mHB mHF mHZ mHA
  generalize w12.setCell ⟨g, 2, none⟩ ((.slice Aa 200 ca)) = w13 at HX HG HS HD HB HF HZ HA ⊢
  refine done_ (done_of HT_.out (by kernel_rfl)) ?_
  go_wp2
  obtain ⟨Av, cv, rfl⟩ := Kd.S_slice HS.out
  refine start_ (n := 11) (S := fun w' => w'.cell? ⟨p, 0, none⟩ = some (.slice Av out.length cv) ∧ w'.cell? ⟨g, 0, none⟩ = some (.int .i64 frm) ∧ w'.cell? ⟨g, 1, none⟩ = some (.string (rest.extract 0 n.toNat)) ∧ w'.cell? ⟨g, 2, none⟩ = some ((.slice Aa 200 ca)) ∧ w'.cell? ⟨g, 3, none⟩ = some (.string ⟨#[]⟩)) (ds := [10]) #[false, false, false, false, false, false, false, false, false, false, false] (by kernel_rfl) rfl rfl ?_ (fun hHeld => ?_)
  · exact ⟨(blk_cell HX.out 0).trans rfl, (blk_cell HG.out 0).trans rfl, (blk_cell HG.out 1).trans rfl, (blk_cell HG.out 2).trans rfl, (blk_cell HG.out 3).trans rfl⟩
  refine with_tabW lines_done.tab14 lines_done.bits14 (fun HT_ HW_ => ?_)
  have mHX : Aside0 (RdAt p (.slice Av out.length cv) (.slice A8_2 B2.length c8_2) line ⟨#[]⟩ 0 (w13.drew)) := ⟨HX.out⟩
  have mHG : Aside0 ((w13.drew).heap[g]? = some (.cells #[.int .i64 frm, .string (rest.extract 0 n.toNat), (.slice Aa 200 ca), .string ⟨#[]⟩] 35 (0, 0))) := ⟨HG.out⟩
  have mHS : Aside0 (Kd.S k35 35 (w13.drew) w0.heap.size (fun q => (ok q ∧ q ≠ g) ∧ q < N) (.slice Av out.length cv) out) := ⟨Kd.S_drew HS.out⟩
  have mHD : Aside0 (Kd.S k37 37 (w13.drew) w0.heap.size (fun q => ok q ∧ q ≠ g) (.slice A8_2 B2.length c8_2) B2) := ⟨Kd.S_drew HD.out⟩
  have mHB : Aside0 (Below w0.heap.size w0 (w13.drew)) := ⟨below_drew HB.out⟩
  have mHF : Aside0 (Fr ok p W (w13.drew)) := ⟨HF.out.below (below_drew (Below.refl _ _))⟩
  have mHZ : Aside0 (g < (w13.drew).heap.size) := ⟨HZ.out⟩
  have mHA : Aside0 (Kd.R Kd.string 9 (w13.drew) w0.heap.size (fun q => N ≤ q ∧ q ≠ g ∧ q ≠ p) (.slice Aa 200 ca) (l.take 200)) := ⟨Kd.R_drew HA.out⟩
  clear HX HG HS HD HB HF HZ HA
  have HX := mHX
  have HG := mHG
  have HS := mHS
  have HD := mHD
  have HB := mHB
  have HF := mHF
  have HZ := mHZ
  have HA := mHA
  clear mHX mHG mHS mHD mHB mHF mHZ mHA
  generalize w13.drew = w14 at HX HG HS HD HB HF HZ HA hHeld ⊢
  refine pure_ (i := 0) (N := some 93) (v := ?_) (a' := ?_) #[true, false, false, false, false, false, false, false, false, false, false] rfl rfl (any_of HT_.out (by kernel_rfl)) (fun _ _ _ h => h) (Or.inl ⟨by rfl, ?_⟩) ?_ ?_
  rotate_left
  · intro w'
    go_simp
    with_reducible rfl
  rotate_left
  · simp only [Act.put, List.setIfInBounds_toArray, List.set_cons_zero, List.set_cons_succ, i64_w, i32_w]
    rfl
  refine pure_ (i := 1) (N := some 94) (v := ?_) (a' := ?_) #[true, true, false, false, false, false, false, false, false, false, false] rfl rfl (any_of HT_.out (by kernel_rfl)) (fun _ _ _ h => h) (Or.inl ⟨by rfl, ?_⟩) ?_ ?_
  rotate_left
  · intro w'
    go_simp
    with_reducible rfl
  rotate_left
  · simp only [Act.put, List.setIfInBounds_toArray, List.set_cons_zero, List.set_cons_succ, i64_w, i32_w]
    rfl
  refine pure_ (i := 2) (N := some 95) (v := ?_) (a' := ?_) #[true, true, true, false, false, false, false, false, false, false, false] rfl rfl (any_of HT_.out (by kernel_rfl)) (fun _ _ _ h => h) (Or.inl ⟨by rfl, ?_⟩) ?_ ?_
  rotate_left
  · intro w'
    go_simp
    with_reducible rfl
  rotate_left
  · simp only [Act.put, List.setIfInBounds_toArray, List.set_cons_zero, List.set_cons_succ, i64_w, i32_w]
    rfl
  refine pure_ (i := 3) (N := some 96) (v := ?_) (a' := ?_) #[true, true, true, true, false, false, false, false, false, false, false] rfl rfl (any_of HT_.out (by kernel_rfl)) (fun _ _ _ h => h) (Or.inl ⟨by rfl, ?_⟩) ?_ ?_
  rotate_left
  · intro w'
    go_simp
    with_reducible rfl
  rotate_left
  · simp only [Act.put, List.setIfInBounds_toArray, List.set_cons_zero, List.set_cons_succ, i64_w, i32_w]
    rfl
  refine take_ (i := 4) (N := some 97) (v := ?_) (a' := ?_) #[true, true, true, true, true, false, false, false, false, false, false] rfl rfl (take_ofW HT_.out HW_.out (by kernel_rfl)) (fun _ _ _ h => h) (Or.inl ⟨by rfl, ?_⟩) hHeld ?_ ?_
  rotate_left
  · rintro w' ⟨s0, s1, s2, s3, s4⟩
    go_simp
    with_reducible rfl
  rotate_left
  · simp only [Act.put, List.setIfInBounds_toArray, List.set_cons_zero, List.set_cons_succ, i64_w, i32_w]
    rfl
  refine take_ (i := 5) (N := some 98) (v := ?_) (a' := ?_) #[true, true, true, true, true, true, false, false, false, false, false] rfl rfl (take_ofW HT_.out HW_.out (by kernel_rfl)) (fun _ _ _ h => h) (Or.inl ⟨by rfl, ?_⟩) hHeld ?_ ?_
  rotate_left
  · rintro w' ⟨s0, s1, s2, s3, s4⟩
    go_simp
    with_reducible rfl
  rotate_left
  · simp only [Act.put, List.setIfInBounds_toArray, List.set_cons_zero, List.set_cons_succ, i64_w, i32_w]
    rfl
  refine one_ (i := 6) (N := some 99) #[true, true, true, true, true, true, true, false, false, false, false] rfl rfl (one_of HT_.out (by kernel_rfl)) (by decide) (fun K hK => ?_)
  refine value_ (w1 := ?_) (v := ?_) (by rfl) rfl ?_ ?_
  rotate_left 2
  · go_simp
    constructor
    · rfl
    · rfl
  refine hK.out _ _ ⟨Lib.cell?_alloc_some _ hHeld.1, Lib.cell?_alloc_some _ hHeld.2.1, Lib.cell?_alloc_some _ hHeld.2.2.1, Lib.cell?_alloc_some _ hHeld.2.2.2.1, Lib.cell?_alloc_some _ hHeld.2.2.2.2⟩ (fun hHeld => ?_)
  clear hK K
  refine norm_ (a' := ?_) ?_ ?_
  rotate_left
  · show Act.put _ (some 99) _ = _
    simp only [Act.put, List.setIfInBounds_toArray, List.set_cons_zero, List.set_cons_succ, i64_w, i32_w]
    rfl
  refine one_ (i := 7) (N := some 100) #[true, true, true, true, true, true, true, true, false, false, false] rfl rfl (one_of HT_.out (by kernel_rfl)) (by decide) (fun K hK => ?_)
  refine Kd.S_append_step k35 (w0 := w0) w0.heap.size (by rfl) (.tmp 97) (.tmp 99) 30 35 (.agg #[(.int .i64 0), (.string ⟨#[]⟩), (.slice none 0 0), (.string ⟨#[]⟩)]) 64 rfl Tryd.underlying30 info35 rfl (by decide) (by omega) (.slice Av out.length cv) out ⟨frm, rest.extract 0 n.toNat, (l.take 200), ⟨#[]⟩⟩ [.int .i64 frm, .string (rest.extract 0 n.toNat), (.slice Aa 200 ca), .string ⟨#[]⟩] (fun q => ok q ∧ q ≠ g) (fun q => some q = ((.slice Aa 200 ca) : Value).ownBlock) rfl rfl ?aP ?aK ?aF ?aO ?aB ?aS ?aL ?_
  case aP => exact k35_mkM _ _ _ _ (Kd.R_tight rfl HA.out)
  case aK =>
    intro q hq
    have h1 := HA.out.1 q hq.symm
    refine ⟨HOK.out q (by have := HNG.out; omega), fun e => ?_⟩
    have := ((Kd.S_R HS.out).1 q e.symm).2
    omega
  case aF => exact fun q hq => HOK.out q (by have := HZ.out; omega)
  case aO =>
    refine Kd.S_mono HS.out (fun q hq => ⟨hq.1, fun e => ?_⟩)
    have h1 := HA.out.1 q e.symm
    have := hq.2
    omega
  case aB => exact HB.out
  case aS => exact HB.out.size
  case aL => have := HL.out.1; omega
  intro v7 w7 hs7 hb7 hg7 hat7
  have hrow : ∀ q, ((.slice Av out.length cv) : Value).ownBlock = some q → ok q ∧ q ≠ p ∧ q ≠ g := fun q hq => by
    have h1 := (Kd.S_R HS.out).1 q hq
    exact ⟨h1.1.1, fun e => HPK.out (e ▸ h1.1.1), h1.1.2⟩
  obtain ⟨O7, hO7⟩ : ∃ O7, O7 = out ++ [⟨frm, rest.extract 0 n.toNat, (l.take 200), ⟨#[]⟩⟩] := ⟨_, rfl⟩
  rw [← hO7] at hs7
  obtain ⟨A7, c7, rfl⟩ := Kd.S_slice hs7
  have mX : Aside0 (RdAt p (.slice Av out.length cv) (.slice A8_2 B2.length c8_2) line ⟨#[]⟩ 0 w7) := ⟨blk_grown HX.out hg7 (fun e => (hrow p e.symm).2.1 rfl)⟩
  have mG : Aside0 (w7.heap[g]? = some (.cells #[.int .i64 frm, .string (rest.extract 0 n.toNat), (.slice Aa 200 ca), .string ⟨#[]⟩] 35 (0, 0))) := ⟨blk_grown HG.out hg7 (fun e => (hrow g e.symm).2.2 rfl)⟩
  have mD : Aside0 (Kd.S k37 37 w7 w0.heap.size (fun q => ok q ∧ q ≠ g) (.slice A8_2 B2.length c8_2) B2) := ⟨Kd.S_over' HD.out (Kd.S_typed HS.out) (by decide) hg7⟩
  have mF : Aside0 (Fr ok p W w7) := ⟨HF.out.grown hg7 (fun q hq => ⟨(hrow q hq).1, by obtain ⟨cells, hc⟩ := Kd.S_typed HS.out q hq; exact ⟨_, _, _, hc⟩⟩)⟩
  have mS := Aside0.mk hs7
  have mB := Aside0.mk hb7
  have HO7 := Aside0.mk hO7
  clear HX HG HS HD HB HF HZ hs7 hb7 hg7 hat7 hrow hO7 HA
  refine hK.out _ _ ⟨(blk_cell mX.out 0).trans rfl, (blk_cell mG.out 0).trans rfl, (blk_cell mG.out 1).trans rfl, (blk_cell mG.out 2).trans rfl, (blk_cell mG.out 3).trans rfl⟩ (fun hHeld => ?_)
  clear hK K hHeld
  refine norm_ (a' := ?_) ?_ ?_
  rotate_left
  · show Act.put _ (some 100) _ = _
    simp only [Act.put, List.setIfInBounds_toArray, List.set_cons_zero, List.set_cons_succ, i64_w, i32_w]
    rfl
  have hx0 : w7.cell? ⟨p, 0, none⟩ = some (.slice Av out.length cv) := (blk_cell mX.out 0).trans rfl
  have hf0 := blk_frozen mX.out 0
  refine pure_ (i := 8) (N := some 101) (v := ?_) (a' := ?_) #[true, true, true, true, true, true, true, true, true, false, false] rfl rfl (any_of HT_.out (by kernel_rfl)) (fun _ _ _ h => h) (Or.inl ⟨by rfl, ?_⟩) ?_ ?_
  rotate_left
  · intro w'
    go_simp
    with_reducible rfl
  rotate_left
  · simp only [Act.put, List.setIfInBounds_toArray, List.set_cons_zero, List.set_cons_succ, i64_w, i32_w]
    rfl
  refine pure_ (i := 9) (N := some 102) (v := ?_) (a' := ?_) #[true, true, true, true, true, true, true, true, true, true, false] rfl rfl (any_of HT_.out (by kernel_rfl)) (fun _ _ _ h => h) (Or.inl ⟨by rfl, ?_⟩) ?_ ?_
  rotate_left
  · intro w'
    go_simp
    with_reducible rfl
  rotate_left
  · simp only [Act.put, List.setIfInBounds_toArray, List.set_cons_zero, List.set_cons_succ, i64_w, i32_w]
    rfl
  refine last_ (i := 10) (N := none) #[true, true, true, true, true, true, true, true, true, true, true] rfl rfl (one_of HT_.out (by kernel_rfl)) (by decide) (fun K hK => ?_)
  refine skip_ (w1 := ?_) (by rfl) rfl ?_ ?_
  rotate_left
  · go_simp
    rfl
  refine hK.out _ _ ?_
  clear hK K hx0 hf0
  refine done_ (done_of HT_.out (by kernel_rfl)) ?_
  go_wp2
  first | go_end0 | ((try simp only [Exit.inBlock, Exit.then]); refine bodyPost_ret (results_none rfl _ _ _) rfl ?_)
  have e_ := HO7.out
  clear HO7
  subst e_
  have e_ := HB2.out
  clear HB2
  subst e_
  have e_ := HB1.out
  clear HB1
  subst e_
  exact ⟨rfl, _, _, blk_put mX.out 0 _ rfl, Kd.S_mono (Kd.S_far (p := ⟨p, 0, none⟩) mS.out (fun q hq => ne_ok HPK.out (hq.1)) _) (fun q hq => hq.1), Kd.S_mono (Kd.S_far (p := ⟨p, 0, none⟩) mD.out (fun q hq => ne_ok HPK.out (hq.1)) _) (fun q hq => hq.1), below_set mB.out HP.out, mF.out.set_p mX.out 0 _⟩
end Go.Proofs.YtmfkokjbjmahkaaDoor.Hand
