/- Runs: rows of glyphs set alike, one behind the other. What makes them such, and that nothing else does. -/
import Derived.Test.YtdcbaefcgghbmaaDoorSpecA
import Derived.Test.YtdcbaefcgghbmaaDoorHandRuns
namespace Go.Proofs.YtdcbaefcgghbmaaDoor.Pure
open Go.RowKit Go.Proofs.YtdcbaefcgghbmaaDoorW.PrintWords Go.Proofs.YtdcbaefcgghbmaaDoorW.PrintLast Go.Proofs.YtdcbaefcgghbmaaDoorW.PrintMore Go.Proofs.YtdcbaefcgghbmaaDoor.X Go.Proofs.YtdcbaefcgghbmaaDoor.Hand
set_option linter.unusedSimpArgs false
set_option linter.unusedVariables false
/-- A row's first. -/
def hd (l : List Gl) : Gl := rd_T28 l 0
theorem hd_cons (g : Gl) (t : List Gl) : hd (g :: t) = g := by simp [hd, rd_T28]
theorem hd_eq {l : List Gl} (h : 0 < l.length) : hd l = l[0] := by
  cases l with
  | nil => simp at h
  | cons g t => rw [hd_cons]; rfl
structure IsRuns (rows : List (List Gl)) (l : List Gl) : Prop where
  flat : rows.flatten = l
  pos : ∀ r ∈ rows, 0 < r.length
  same : ∀ r ∈ rows, ∀ x ∈ r, x.f1 = (hd r).f1
  alt : ∀ (i : Nat) (h : i + 1 < rows.length), (hd rows[i + 1]).f1 ≠ (hd (rows[i]'(by omega))).f1
theorem IsRuns.tail {a : List Gl} {az : List (List Gl)} {l : List Gl} (h : IsRuns (a :: az) l) : IsRuns az az.flatten :=
  ⟨rfl, fun r hr => h.pos r (List.mem_cons_of_mem _ hr), fun r hr => h.same r (List.mem_cons_of_mem _ hr), fun i hi => by
    have := h.alt (i + 1) (by simp only [List.length_cons]; omega)
    simpa using this⟩
theorem runs_key {a b : List Gl} {az bs : List (List Gl)} {l : List Gl} (h : IsRuns (a :: az) l) (h' : IsRuns (b :: bs) l) : b.length ≤ a.length := by
  rcases Nat.lt_or_ge a.length b.length with hlt | hge
  · exfalso
    have ha := h.pos a (by simp)
    have hb := h'.pos b (by simp)
    have e1 : a ++ az.flatten = l := by simpa using h.flat
    have e2 : b ++ bs.flatten = l := by simpa using h'.flat
    have hab : hd a = hd b := by
      have h1 : l[0]? = some (hd a) := by rw [← e1, List.getElem?_append_left ha, hd_eq ha, List.getElem?_eq_getElem ha]
      have h2 : l[0]? = some (hd b) := by rw [← e2, List.getElem?_append_left hb, hd_eq hb, List.getElem?_eq_getElem hb]
      exact Option.some.inj (h1.symm.trans h2)
    cases az with
    | nil =>
      have : l.length = a.length := by rw [← e1]; simp
      have : b.length ≤ l.length := by rw [← e2, List.length_append]; omega
      omega
    | cons c cs =>
      have hc := h.pos c (by simp)
      have h1 : l[a.length]? = some (hd c) := by
        rw [← e1, List.getElem?_append_right (Nat.le_refl _), Nat.sub_self, List.flatten_cons, List.getElem?_append_left hc, hd_eq hc, List.getElem?_eq_getElem hc]
      have h2 : b[a.length]? = some (hd c) := by
        rw [← e2, List.getElem?_append_left hlt] at h1
        exact h1
      have h3 := h'.same b (by simp) (hd c) (List.mem_of_getElem? h2)
      have h4 := h.alt 0 (by simp)
      apply h4
      show (hd c).f1 = (hd a).f1
      rw [h3, hab]
  · exact hge
theorem runs_unique : ∀ (rows rows' : List (List Gl)) (l : List Gl), IsRuns rows l → IsRuns rows' l → rows = rows'
  | [], [], _, _, _ => rfl
  | [], b :: bs, l, h, h' => by
    exfalso
    have := h'.pos b (by simp)
    have e1 := h.flat
    have e2 := h'.flat
    rw [← e1] at e2
    simp at e2
    rw [e2.1] at this
    simp at this
  | a :: az, [], l, h, h' => by
    exfalso
    have := h.pos a (by simp)
    have e1 := h'.flat
    have e2 := h.flat
    rw [← e1] at e2
    simp at e2
    rw [e2.1] at this
    simp at this
  | a :: az, b :: bs, l, h, h' => by
    have h1 := runs_key h h'
    have h2 := runs_key h' h
    have e : a ++ az.flatten = b ++ bs.flatten := by
      have e1 := h.flat
      have e2 := h'.flat
      rw [← e2] at e1
      simpa using e1
    obtain ⟨e3, e4⟩ := List.append_inj e (by omega)
    rw [e3, runs_unique az bs az.flatten h.tail (by rw [e4]; exact h'.tail)]
theorem runLen_same (l : List Gl) (j : Nat) (hj : j < runLen l) : (l[j]'(Nat.lt_of_lt_of_le hj (runLen_le l))).f1 = (hd l).f1 := by
  have hle := runLen_le l
  have hjl : j < l.length := by omega
  unfold runLen at hj
  cases hf : l.findIdx? (fun g => g.f1 != (rd_T28 l 0).f1) with
  | none =>
    have := List.findIdx?_eq_none_iff.1 hf l[j] (List.getElem_mem _)
    simpa [hd] using this
  | some i =>
    rw [hf] at hj
    obtain ⟨h1, h2, h3⟩ := List.findIdx?_eq_some_iff_getElem.1 hf
    have := h3 j (by simpa using hj)
    simpa [hd] using this
theorem runLen_next (l : List Gl) (h : runLen l < l.length) : (l[runLen l]).f1 ≠ (hd l).f1 := by
  cases hf : l.findIdx? (fun g => g.f1 != (rd_T28 l 0).f1) with
  | none =>
    exfalso
    unfold runLen at h
    rw [hf] at h
    simp at h
  | some i =>
    obtain ⟨h1, h2, h3⟩ := List.findIdx?_eq_some_iff_getElem.1 hf
    have e : runLen l = i := by unfold runLen; rw [hf]; rfl
    simp only [e]
    simpa [hd] using h2
theorem runs_are : ∀ (n : Nat) (l : List Gl), l.length ≤ n → IsRuns (runs l) l
  | 0, l, h => by
    obtain rfl := List.eq_nil_of_length_eq_zero (show l.length = 0 by omega)
    rw [runs_nil rfl]
    exact ⟨rfl, by simp, by simp, fun i hi => by simp at hi⟩
  | n + 1, l, h => by
    by_cases h0 : l.length = 0
    · obtain rfl := List.eq_nil_of_length_eq_zero h0
      rw [runs_nil rfl]
      exact ⟨rfl, by simp, by simp, fun i hi => by simp at hi⟩
    · have hp := runLen_pos (l := l) (by omega)
      have hle := runLen_le l
      have ih := runs_are n (l.drop (runLen l)) (by rw [List.length_drop]; omega)
      have ht : 0 < (l.take (runLen l)).length := by rw [List.length_take]; omega
      have hh : hd (l.take (runLen l)) = hd l := by
        rw [hd_eq ht, hd_eq (by omega), List.getElem_take]
      rw [runs_cons (by omega)]
      refine ⟨by rw [List.flatten_cons, ih.flat, List.take_append_drop], ?_, ?_, ?_⟩
      · intro r hr
        rcases List.mem_cons.1 hr with rfl | hr
        · exact ht
        · exact ih.pos r hr
      · intro r hr x hx
        rcases List.mem_cons.1 hr with rfl | hr
        · obtain ⟨j, hj, rfl⟩ := List.getElem_of_mem hx
          rw [hh, List.getElem_take]
          rw [List.length_take] at hj
          exact runLen_same l j (by omega)
        · exact ih.same r hr x hx
      · intro i hi
        cases i with
        | zero =>
          simp only [List.length_cons] at hi
          have h1 : 0 < (l.drop (runLen l)).length := by
            rcases Nat.eq_zero_or_pos (l.drop (runLen l)).length with e | e
            · rw [runs_nil e] at hi
              simp at hi
            · exact e
          have h2 : (runs (l.drop (runLen l)))[0]'(by omega) = (l.drop (runLen l)).take (runLen (l.drop (runLen l))) := by
            simp only [runs_cons h1]
            rfl
          have h3 : hd ((l.drop (runLen l)).take (runLen (l.drop (runLen l)))) = l[runLen l]'(by rw [List.length_drop] at h1; omega) := by
            have hp2 := runLen_pos h1
            rw [hd_eq (by rw [List.length_take]; omega), List.getElem_take, List.getElem_drop]
            simp
          show (hd ((runs (l.drop (runLen l)))[0]'(by omega))).f1 ≠ (hd (l.take (runLen l))).f1
          rw [h2, h3, hh]
          exact runLen_next l (by rw [List.length_drop] at h1; omega)
        | succ i =>
          simp only [List.length_cons] at hi
          have := ih.alt i (by omega)
          simpa using this
theorem runs_IsRuns (l : List Gl) : IsRuns (runs l) l := runs_are l.length l (Nat.le_refl _)
end Go.Proofs.YtdcbaefcgghbmaaDoor.Pure
