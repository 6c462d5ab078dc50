/- LinesOrder: rows' lines rise, and are lines of the text; what is wrong is told of some row; of two texts rows are those of both. The plain law. -/
import Derived.Test.YtmfkokjbjmahkaaDoorSpecQ
import Derived.Test.YtmfkokjbjmahkaaDoorSaidLinesOrder
namespace Go.Proofs.YtmfkokjbjmahkaaDoor.Pure
open Go Go.RowKit Go.Proofs.YtmfkokjbjmahkaaDoorW.PrintWords Go.Proofs.YtmfkokjbjmahkaaDoorW.PrintLast Go.Proofs.YtmfkokjbjmahkaaDoorW.PrintMore Go.Proofs.YtmfkokjbjmahkaaDoor.X Go.Proofs.YtmfkokjbjmahkaaDoor.Hand
set_option linter.unusedVariables false
theorem rdDg (l : List Dg) (i : Nat) (h : i < l.length) : rd_T37 l (i : Int) = l[i] := by
  simp [rd_T37, List.getD_eq_getElem?_getD, List.getElem?_eq_getElem h]
theorem rowV_bad (f : Int) (s : List Int) : (rowV f s).2.length ≤ 2 := by
  unfold rowV
  split
  · split
    · simp
    · simp only [List.length_append]
      split <;> split <;> simp
  · simp
theorem rowsV_bad : ∀ (l : List (List Int)) (D : Int), (rowsV D l).2.length ≤ 2 * l.length
  | [], D => by simp [rowsV]
  | s :: l, D => by
    have h1 := rowsV_bad l (D + 1)
    have h2 := rowV_bad (D + 1) (cutV 13 s).1
    rw [rowsV, List.length_append, List.length_cons]
    omega
/-- One thing that is wrong: some row has its line. -/
theorem order_l3 {x0 x1 : ByteArray} {L : List Rw} {D : List Dg} {n : Int} {j : Nat} {res : Bool} (hj : j < D.length) (hl : L.length ≤ 10000) (hD : D.length ≤ 10000) (hm : ∃ r ∈ L, r.f0 = D[j].f1)
    (next : Ev (fun k => flonglaw05_LinesOrder.l2 k x0 x1 L D n ((j + 1 : Nat) : Int)) res) : Ev (fun k => flonglaw05_LinesOrder.l3 k x0 x1 L D n (j : Int) false 0) res := by
  refine loop_up (σ := Bool) (fun k s i => flonglaw05_LinesOrder.l3 k x0 x1 L D n (j : Int) s i) L.length (fun _ _ => res) (fun s i => s = (L.take i).any fun r => r.f0 == D[j].f1) ?_ ?_ false 0 (by omega) (by simp)
  · intro s hs
    rw [List.take_length] at hs
    have ht : s = true := by
      rw [hs, List.any_eq_true]
      obtain ⟨r, hr, e⟩ := hm
      exact ⟨r, hr, by rw [e]; exact beq_self_eq_true _⟩
    subst ht
    refine Ev.step (f := fun k => flonglaw05_LinesOrder.l2 k x0 x1 L D n ((j + 1 : Nat) : Int)) (fun k => ?_) next
    simp only [flonglaw05_LinesOrder.l3]
    rw [if_neg (by omega), if_pos trivial, wrap_up (n := D.length) hj (by omega)]
  · intro s i hi hs ih
    have hn : (L.take (i + 1)).any (fun r => r.f0 == D[j].f1) = (s || (L[i].f0 == D[j].f1)) := by
      rw [List.take_succ_eq_append_getElem hi, List.any_append, ← hs]
      simp
    cases s with
    | true =>
      refine Ev.step (f := fun k => flonglaw05_LinesOrder.l3 k x0 x1 L D n (j : Int) true ((i + 1 : Nat) : Int)) (fun k => ?_) (ih true (by rw [hn]; rfl))
      simp only [flonglaw05_LinesOrder.l3]
      rw [if_pos (by omega), if_pos trivial, wrap_up hi (by omega)]
    | false =>
      refine Ev.step (f := fun k => flonglaw05_LinesOrder.l3 k x0 x1 L D n (j : Int) (L[i].f0 == D[j].f1) ((i + 1 : Nat) : Int)) (fun k => ?_) (ih _ (by rw [hn, Bool.false_or]))
      simp only [flonglaw05_LinesOrder.l3, rdRw L i hi, rdDg D j hj]
      rw [if_pos (by omega), if_neg (by simp), if_pos (by omega), if_pos (by omega), if_pos (by omega), wrap_up hi (by omega)]
theorem order_l2 {x0 x1 : ByteArray} {L : List Rw} {D : List Dg} {n : Int} {res : Bool} (hl : L.length ≤ 10000) (hD : D.length ≤ 10000) (hm : ∀ d ∈ D, ∃ r ∈ L, r.f0 = d.f1)
    (next : Ev (fun k => flonglaw05_LinesOrder.l2 k x0 x1 L D n (D.length : Int)) res) : Ev (fun k => flonglaw05_LinesOrder.l2 k x0 x1 L D n 0) res := by
  refine loop_up (σ := Unit) (fun k _ i => flonglaw05_LinesOrder.l2 k x0 x1 L D n i) D.length (fun _ _ => res) (fun _ _ => True) (fun _ _ => next) ?_ () 0 (by omega) trivial
  intro _ j hj _ ih
  refine Ev.step (f := fun k => flonglaw05_LinesOrder.l3 k x0 x1 L D n (j : Int) false 0) (fun k => ?_) (order_l3 hj hl hD (hm _ (List.getElem_mem hj)) (ih () trivial))
  simp only [flonglaw05_LinesOrder.l2]
  rw [if_pos (by omega)]
/-- Rows' lines rise. -/
theorem order_l1 {x0 x1 : ByteArray} {L : List Rw} {D : List Dg} {n : Int} {res : Bool} (hl : L.length ≤ 10000) (h0 : 0 ≤ n ∧ n ≤ 10000) (hb : ∀ r ∈ L, 1 ≤ r.f0 ∧ r.f0 ≤ n + 1) (hp : L.Pairwise fun x y => x.f0 < y.f0)
    (next : Ev (fun k => flonglaw05_LinesOrder.l2 k x0 x1 L D n 0) res) : Ev (fun k => flonglaw05_LinesOrder.l1 k x0 x1 L D n 0) res := by
  have hw : wrap64 (n + 1) = n + 1 := wrap_of (by omega) (by omega)
  refine loop_up (σ := Unit) (fun k _ i => flonglaw05_LinesOrder.l1 k x0 x1 L D n i) L.length (fun _ _ => res) (fun _ _ => True) ?_ ?_ () 0 (by omega) trivial
  · intro _ _
    refine Ev.step (f := fun k => flonglaw05_LinesOrder.l2 k x0 x1 L D n 0) (fun k => ?_) next
    simp only [flonglaw05_LinesOrder.l1]
    rw [if_neg (by omega)]
  · intro _ i hi _ ih
    have hr := hb _ (List.getElem_mem hi)
    refine Ev.step (f := fun k => flonglaw05_LinesOrder.l1 k x0 x1 L D n ((i + 1 : Nat) : Int)) (fun k => ?_) (ih () trivial)
    simp only [flonglaw05_LinesOrder.l1, rdRw L i hi, hw]
    rw [if_pos (by omega), if_pos (by omega), if_neg (by omega), if_neg (by omega), wrap_up hi (by omega)]
    by_cases h : i = 0
    · rw [if_neg (by omega)]
    · have hw1 : wrap64 ((i : Int) - 1) = ((i - 1 : Nat) : Int) := by rw [wrap_of (by omega) (by omega)]; omega
      have hlt := List.pairwise_iff_getElem.1 hp (i - 1) i (by omega) hi (by omega)
      rw [if_pos (by omega), hw1, if_pos (by omega), if_pos (by omega), rdRw L (i - 1) (by omega), if_neg (by omega)]
/-- The rows of the second text, so many lines below. -/
theorem order_l4 {n : Int} {M W O : List Rw} (h0 : 0 ≤ n ∧ n ≤ 10000) (hm : M.length ≤ 10000) (ho : O.length ≤ 10000) (hr : ∀ r ∈ M, 0 ≤ r.f0 ∧ r.f0 ≤ 10000 ∧ r.f2.length ≤ 200) (hro : ∀ r ∈ O, r.f2.length ≤ 200) (e : W = O ++ M.map (upR (n + 1))) :
    Ev (fun k => flonglaw05_LinesOrder.l4 k n M W O 0) true := by
  have hk : Ev (fun k => (flonglaw05_known.f k).bind fun t => some t) true := Ev.bind known_ev (Ev.now _)
  refine loop_up (σ := List Rw) (fun k s i => flonglaw05_LinesOrder.l4 k n M W s i) M.length (fun _ _ => true) (fun s i => s = O ++ (M.take i).map (upR (n + 1))) ?_ ?_ O 0 (by omega) (by simp)
  · intro s hs
    rw [List.take_length, ← e] at hs
    subst hs
    refine Ev.step (f := fun k => (flongref05_Same.f k s s).bind fun t => if t = true then ((flonglaw05_known.f k).bind fun t => some t) else some false) (fun k => ?_) (Ev.bind (same_rows ?_ ?_) (ev_pos rfl hk))
    · simp only [flonglaw05_LinesOrder.l4]
      rw [if_neg (by omega)]
    · rw [e, List.length_append, List.length_map]
      omega
    · intro r hr'
      rw [e] at hr'
      rcases List.mem_append.1 hr' with h | h
      · have := hro r h
        omega
      · obtain ⟨y, hy, rfl⟩ := List.mem_map.1 h
        have := (hr y hy).2.2
        show y.f2.length ≤ _
        omega
  · intro s i hi hs ih
    have hri := hr _ (List.getElem_mem hi)
    have hsl : s.length ≤ 20000 := by
      rw [hs, List.length_append, List.length_map, List.length_take]
      omega
    refine Ev.step (f := fun k => flonglaw05_LinesOrder.l4 k n M W (s ++ [upR (n + 1) M[i]]) ((i + 1 : Nat) : Int)) (fun k => ?_) (ih _ ?_)
    · simp only [flonglaw05_LinesOrder.l4, rdRw M i hi]
      rw [if_pos (by omega), if_pos (by omega), if_pos (by omega), wrap_up hi (by omega), wrap_of (x := M[i].f0 + n) (by omega) (by omega), wrap_of (x := M[i].f0 + n + 1) (by omega) (by omega)]
      unfold upR
      rw [Int.add_assoc]
    · rw [hs, List.take_succ_eq_append_getElem hi, List.map_append, List.append_assoc]
      rfl
theorem open_last {p : List Int} {x : Int} : decide (openP (p ++ [x])) = (x == 10) := by
  by_cases h : x = 10
  · subst h
    rw [decide_eq_true (show openP (p ++ [10]) from Or.inr (by simp))]
    rfl
  · rw [decide_eq_false (show ¬ openP (p ++ [x]) from by
      rintro (e | e)
      · simp at e
      · rw [List.getLast?_concat] at e
        exact h (Option.some.inj e))]
    exact (beq_eq_false_iff_ne.2 h).symm
theorem LinesOrder : flonglaw05_LinesOrder.PureSaid := by
  intro a0 a1 _ _
  refine Ev.rounds (g := fun k => flonglaw05_LinesOrder.f k a0 a1) ?_
  have hk : Ev (fun k => (flonglaw05_known.f k).bind fun t => some t) true := Ev.bind known_ev (Ev.now _)
  have ht : Ev (fun k => flonglaw05_LinesOrder.j0 k a0 a1 true) true := Ev.step (f := fun k => (flonglaw05_known.f k).bind fun t => some t) (fun k => by simp only [flonglaw05_LinesOrder.j0]; rw [if_pos trivial]) hk
  unfold flonglaw05_LinesOrder.f
  refine ev_ite (fun _ => ht) (fun h0 => ?_)
  by_cases h1 : (a1.size : Int) > 700
  · rw [decide_eq_true h1]
    exact ht
  · rw [decide_eq_false h1]
    clear ht
    have ha := bytesOf_Bytes a0
    have hb := bytesOf_Bytes a1
    have hal : (bytesOf a0).length ≤ 700 := by rw [← numsStr_size, str_of]; omega
    have hbl : (bytesOf a1).length ≤ 700 := by rw [← numsStr_size, str_of]; omega
    rw [show a0 = strOfNums (bytesOf a0) from (str_of a0).symm, show a1 = strOfNums (bytesOf a1) from (str_of a1).symm]
    generalize bytesOf a0 = a at ha hal ⊢
    generalize bytesOf a1 = b at hb hbl ⊢
    have d1 : Bytes [10] := by intro x hx; simp at hx; omega
    have hra := read_ev ha (by omega)
    have hrb := read_ev hb (by omega)
    have hrab := read_ev (b := a ++ [10] ++ b) (bytes_append (bytes_append ha d1) hb) (by simp only [List.length_append, List.length_cons, List.length_nil]; omega)
    rw [show a ++ [10] ++ b = a ++ 10 :: b from by simp] at hrab
    refine Ev.step (f := fun k => (lines_Read.f k (strOfNums a)).bind fun t => flonglaw05_LinesOrder.l0 k (strOfNums a) (strOfNums b) t.1 t.2 0 0) (fun k => by simp only [flonglaw05_LinesOrder.j0]; rw [if_neg (by simp)]) (Ev.bind hra ?_)
    refine loop_up (σ := Int) (fun k s i => flonglaw05_LinesOrder.l0 k (strOfNums a) (strOfNums b) (readV a).1 (readV a).2 s i) a.length (fun _ _ => true) (fun s i => s = ((a.take i).count 10 : Int) ∧ ∀ x ∈ a.take i, x ≠ 92) ?_ ?_ 0 0 (by omega) (by simp)
    · rintro n ⟨hn, hx⟩
      rw [List.take_length] at hn hx
      have n92 : (92 : Int) ∉ a := fun h => hx _ h rfl
      have hcl : a.count 10 ≤ a.length := List.count_le_length
      have hll := lns_count a
      have hv := readV_rows n92
      obtain ⟨q0, q1, q2, q3⟩ := rowsV_lines (lns a) 0
      have q4 := rowsV_bad (lns a) 0
      have hboth := readV_both b n92
      obtain ⟨b1, b2⟩ := readV_ok b
      rw [hv] at hboth ⊢
      generalize rowsV 0 (lns a) = R at hboth q0 q1 q2 q3 q4 ⊢
      obtain ⟨L, D⟩ := R
      simp only at hboth q0 q1 q2 q3 q4 ⊢
      subst hn
      refine Ev.step (f := fun k => flonglaw05_LinesOrder.l1 k (strOfNums a) (strOfNums b) L D (a.count 10 : Int) 0) (fun k => by simp only [flonglaw05_LinesOrder.l0]; rw [numsStr_size, if_neg (by omega)]) ?_
      refine order_l1 (by omega) (by omega) (fun r hr => by have := q1 r hr; omega) q2 (order_l2 (by omega) (by omega) q3 ?_)
      have s1 : (⟨#[10]⟩ : ByteArray) = strOfNums [10] := rfl
      refine Ev.step (fun k => by simp only [flonglaw05_LinesOrder.l2]; rw [if_neg (by omega)]) ?_
      simp only [s1, ← numsStr_append, numsStr_size, List.length_append, List.length_cons, List.length_nil, List.nil_append]
      rw [show a ++ [10] ++ b = a ++ 10 :: b from by simp]
      refine Ev.bind hrb (ev_pos (by omega) (ev_pos (by omega) (Ev.bind hrab (ev_pos (by omega) (Ev.bind (Ev.now _) ?_)))))
      have main : ∀ o : Bool, o = decide (openP a) → Ev (fun k => flonglaw05_LinesOrder.j5 k (a.count 10 : Int) (readV b).1 (readV (a ++ 10 :: b)).1 L o) true := by
        intro o ho
        by_cases hp : openP a
        · rw [decide_eq_true hp] at ho
          subst ho
          rw [if_pos hp] at hboth
          refine Ev.step (f := fun k => flonglaw05_LinesOrder.j6 k (a.count 10 : Int) (readV b).1 (readV (a ++ 10 :: b)).1 (L ++ [⟨(a.count 10 : Int) + 1, ⟨#[]⟩, [], ⟨#[]⟩⟩])) (fun k => ?_) (Ev.step (f := fun k => flonglaw05_LinesOrder.l4 k (a.count 10 : Int) (readV b).1 (readV (a ++ 10 :: b)).1 (L ++ [⟨(a.count 10 : Int) + 1, ⟨#[]⟩, [], ⟨#[]⟩⟩]) 0) (fun k => by simp only [flonglaw05_LinesOrder.j6]) (order_l4 (by omega) (by omega) (by simp; omega) (fun r hr => by have := b2 r hr; omega) (fun r hr => ?_) hboth))
          · simp only [flonglaw05_LinesOrder.j5]
            rw [if_pos trivial, if_pos (by omega), wrap_of (x := (a.count 10 : Int) + 1) (by omega) (by omega)]
          · rcases List.mem_append.1 hr with h | h
            · exact (q1 r h).2.2
            · rw [List.mem_singleton] at h
              subst h
              simp
        · rw [decide_eq_false hp] at ho
          subst ho
          rw [if_neg hp, List.append_nil] at hboth
          exact Ev.step (f := fun k => flonglaw05_LinesOrder.j6 k (a.count 10 : Int) (readV b).1 (readV (a ++ 10 :: b)).1 L) (fun k => by simp only [flonglaw05_LinesOrder.j5]; rw [if_neg (by simp)]) (Ev.step (f := fun k => flonglaw05_LinesOrder.l4 k (a.count 10 : Int) (readV b).1 (readV (a ++ 10 :: b)).1 L 0) (fun k => by simp only [flonglaw05_LinesOrder.j6]) (order_l4 (by omega) (by omega) (by omega) (fun r hr => by have := b2 r hr; omega) (fun r hr => (q1 r hr).2.2) hboth))
      rcases List.eq_nil_or_concat a with e | ⟨p, x, e⟩
      · refine ev_pos (str_nil.2 e) (main true ?_)
        exact (decide_eq_true (show openP a from Or.inl e)).symm
      · rw [List.concat_eq_append] at e
        have hpl : a.length = p.length + 1 := by rw [e]; simp
        have hw : wrap64 ((a.length : Int) - 1) = (p.length : Int) := by rw [wrap_of (by omega) (by omega)]; omega
        have hbt : bt (strOfNums a) (p.length : Int) = x := by
          have h := bt_str ha p.length (by omega)
          rw [h]
          subst e
          simp
        rw [hw, hbt]
        refine ev_neg (fun h => by rw [str_nil.1 h] at hpl; simp at hpl) (ev_pos (by omega) (ev_pos (by omega) (main _ ?_)))
        rw [e, open_last]
    · rintro n i hi ⟨hn, hx⟩ ih
      have hbt := bt_str ha i hi
      have hcl : (a.take i).count 10 ≤ (a.take i).length := List.count_le_length
      rw [List.length_take] at hcl
      by_cases e2 : a[i] = 92
      · exact Ev.step (fun k => by simp only [flonglaw05_LinesOrder.l0]; rw [numsStr_size, if_pos (by omega), if_pos (by omega), hbt, if_neg (by omega), if_pos e2]) hk
      have hx' : ∀ x ∈ a.take (i + 1), x ≠ 92 := by
        intro x hxx
        rw [List.take_succ_eq_append_getElem hi] at hxx
        rcases List.mem_append.1 hxx with h | h
        · exact hx x h
        · simp only [List.mem_singleton] at h
          subst h
          exact e2
      by_cases e1 : a[i] = 10
      · refine Ev.step (f := fun k => flonglaw05_LinesOrder.l0 k (strOfNums a) (strOfNums b) (readV a).1 (readV a).2 (n + 1) ((i + 1 : Nat) : Int)) (fun k => ?_) (ih _ ⟨?_, hx'⟩)
        · simp only [flonglaw05_LinesOrder.l0]
          rw [numsStr_size, if_pos (by omega), if_pos (by omega), hbt, if_pos e1, if_neg e2, wrap_up hi (by omega), wrap_of (x := n + 1) (by omega) (by omega)]
        · rw [hn, List.take_succ_eq_append_getElem hi, List.count_append, e1]
          simp
      · refine Ev.step (f := fun k => flonglaw05_LinesOrder.l0 k (strOfNums a) (strOfNums b) (readV a).1 (readV a).2 n ((i + 1 : Nat) : Int)) (fun k => ?_) (ih _ ⟨?_, hx'⟩)
        · simp only [flonglaw05_LinesOrder.l0]
          rw [numsStr_size, if_pos (by omega), if_pos (by omega), hbt, if_neg e1, if_neg e2, wrap_up hi (by omega)]
        · rw [hn, List.take_succ_eq_append_getElem hi, List.count_append, List.count_singleton, if_neg (by simpa using e1)]
          simp
end Go.Proofs.YtmfkokjbjmahkaaDoor.Pure
