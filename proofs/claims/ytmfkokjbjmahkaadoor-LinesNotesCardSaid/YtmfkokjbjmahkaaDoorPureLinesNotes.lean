/- LinesNotes: what stands behind a comment's sign counts for nothing; a line that is such a note alone is no row. The plain law. -/
import Derived.Test.YtmfkokjbjmahkaaDoorSpecQ
import Derived.Test.YtmfkokjbjmahkaaDoorSaidLinesNotes
namespace Go.Proofs.YtmfkokjbjmahkaaDoor.Pure
open Go Go.RowKit Go.Proofs.YtmfkokjbjmahkaaDoorW.PrintWords Go.Proofs.YtmfkokjbjmahkaaDoorW.PrintLast Go.Proofs.YtmfkokjbjmahkaaDoorW.PrintMore Go.Proofs.YtmfkokjbjmahkaaDoor.X Go.Proofs.YtmfkokjbjmahkaaDoor.Hand
set_option linter.unusedVariables false
theorem LinesNotes : flonglaw05_LinesNotes.PureSaid := by
  intro a0 a1 _ _
  refine Ev.rounds (g := fun k => flonglaw05_LinesNotes.f k a0 a1) ?_
  have hk : Ev (fun k => (flonglaw05_known.f k).bind fun t => some t) true := Ev.bind known_ev (Ev.now _)
  have ht : Ev (fun k => flonglaw05_LinesNotes.j0 k a0 a1 true) true := Ev.step (f := fun k => (flonglaw05_known.f k).bind fun t => some t) (fun k => by simp only [flonglaw05_LinesNotes.j0]; rw [if_pos trivial]) hk
  unfold flonglaw05_LinesNotes.f
  refine ev_ite (fun _ => ht) (fun h0 => ?_)
  by_cases h1 : (a1.size : Int) > 300
  · rw [decide_eq_true h1]
    exact ht
  · rw [decide_eq_false h1]
    clear ht
    have ha := bytesOf_Bytes a0
    have hb := bytesOf_Bytes a1
    have hal : (bytesOf a0).length ≤ 300 := by rw [← numsStr_size, str_of]; omega
    have hbl : (bytesOf a1).length ≤ 300 := by rw [← numsStr_size, str_of]; omega
    rw [show a0 = strOfNums (bytesOf a0) from (str_of a0).symm, show a1 = strOfNums (bytesOf a1) from (str_of a1).symm]
    generalize bytesOf a0 = a at ha hal ⊢
    generalize bytesOf a1 = t at hb hbl ⊢
    refine Ev.step (f := fun k => flonglaw05_LinesNotes.l0 k (strOfNums a) (strOfNums t) 0) (fun k => by simp only [flonglaw05_LinesNotes.j0]; rw [if_neg (by simp)]) ?_
    refine loop_up (σ := Unit) (fun k _ i => flonglaw05_LinesNotes.l0 k (strOfNums a) (strOfNums t) i) a.length (fun _ _ => true) (fun _ i => ∀ x ∈ a.take i, x ≠ 92 ∧ x ≠ 10 ∧ x ≠ 13) ?_ ?_ () 0 (by omega) (by simp)
    · intro _ hx
      rw [List.take_length] at hx
      have n92 : (92 : Int) ∉ a := fun h => (hx _ h).1 rfl
      have n10 : (10 : Int) ∉ a := fun h => (hx _ h).2.1 rfl
      have n13 : (13 : Int) ∉ a := fun h => (hx _ h).2.2 rfl
      refine Ev.step (f := fun k => flonglaw05_LinesNotes.l1 k (strOfNums a) (strOfNums t) 0) (fun k => by simp only [flonglaw05_LinesNotes.l0]; rw [numsStr_size, if_neg (by omega)]) ?_
      refine loop_up (σ := Unit) (fun k _ i => flonglaw05_LinesNotes.l1 k (strOfNums a) (strOfNums t) i) t.length (fun _ _ => true) (fun _ i => ∀ x ∈ t.take i, x ≠ 10) ?_ ?_ () 0 (by omega) (by simp)
      · intro _ hy
        rw [List.take_length] at hy
        have m10 : (10 : Int) ∉ t := fun h => hy _ h rfl
        have d1 : Bytes [10] := by intro x hx; simp at hx; omega
        have d2 : Bytes [92, 34] := by intro x hx; simp at hx; omega
        have hx1 := read_ev (b := a ++ [10]) (bytes_append ha d1) (by rw [List.length_append, List.length_singleton]; omega)
        have hx2 := read_ev (b := a ++ [92, 34] ++ t ++ [10]) (bytes_append (bytes_append (bytes_append ha d2) hb) d1) (by simp only [List.length_append, List.length_cons, List.length_nil]; omega)
        have hx3 := read_ev (b := [46, 32, 32, 92, 34] ++ t ++ [10, 92, 34] ++ t ++ [10]) (bytes_append (bytes_append (bytes_append (bytes_append (by intro x hx; simp at hx; omega) hb) (by intro x hx; simp at hx; omega)) hb) d1) (by simp only [List.length_append, List.length_cons, List.length_nil]; omega)
        rw [readV_one n92 n10 n13] at hx1
        rw [show a ++ [92, 34] ++ t ++ [10] = a ++ 92 :: 34 :: t ++ [10] from by simp, readV_note n92 n10 m10] at hx2
        rw [show [46, 32, 32, 92, 34] ++ t ++ [10, 92, 34] ++ t ++ [10] = [46, 32, 32] ++ 92 :: 34 :: t ++ 10 :: ([] ++ 92 :: 34 :: t) ++ [10] from by simp, readV_notes (by decide) (by decide) (by decide) (by decide) m10 (by decide) (by decide)] at hx3
        have s1 : (⟨#[10]⟩ : ByteArray) = strOfNums [10] := rfl
        have s2 : (⟨#[92, 34]⟩ : ByteArray) = strOfNums [92, 34] := rfl
        have s3 : (⟨#[46, 32, 32, 92, 34]⟩ : ByteArray) = strOfNums [46, 32, 32, 92, 34] := rfl
        have s4 : (⟨#[10, 92, 34]⟩ : ByteArray) = strOfNums [10, 92, 34] := rfl
        refine Ev.step (fun k => by simp only [flonglaw05_LinesNotes.l1]; rw [numsStr_size t, if_neg (by omega)]) ?_
        simp only [s1, s2, s3, s4, ← numsStr_append, numsStr_size, List.length_append, List.length_cons, List.length_nil]
        rw [show a ++ [92, 34] ++ t ++ [10] = a ++ 92 :: 34 :: t ++ [10] from by simp, show [46, 32, 32, 92, 34] ++ t ++ [10, 92, 34] ++ t ++ [10] = [46, 32, 32] ++ 92 :: 34 :: t ++ 10 :: ([] ++ 92 :: 34 :: t) ++ [10] from by simp]
        refine ev_pos (by omega) (Ev.bind hx1 (ev_pos (by omega) (ev_pos (by omega) (ev_pos (by omega) (Ev.bind hx2 (ev_pos (by omega) (ev_pos (by omega) (ev_pos (by omega) (ev_pos (by omega) (Ev.bind hx3 (ev_pos rfl ?_)))))))))))
        refine Ev.step (fun k => by simp only [flonglaw05_LinesNotes.j3]; rw [if_neg (by simp)]) ?_
        by_cases he : a = []
        · subst he
          refine ev_pos (str_nil.2 rfl) (ev_pos ?_ hk)
          rw [show (if bareP ([] : List Int) then (([], []) : List Rw × List Dg) else rowV 1 []) = ([], []) from if_pos (Or.inl rfl)]
          rfl
        · have hr : (if bareP a then ([], []) else rowV 1 a) = rowV 1 a := by
            split
            · rw [rowV_bare (by assumption) he]
            · rfl
          rw [hr]
          obtain ⟨r1, r2⟩ := rowV_rows 1 a
          refine ev_neg (fun e => he (str_nil.1 e)) (Ev.bind (same_rows (by omega) (fun r h => by have := r2 r h; omega)) (ev_pos rfl hk))
      · intro _ i hi hy ih
        have hbt := bt_str hb i hi
        by_cases e1 : t[i] = 10
        · exact Ev.step (fun k => by simp only [flonglaw05_LinesNotes.l1]; rw [numsStr_size, if_pos (by omega), if_pos (by omega), hbt, if_pos e1]) hk
        refine Ev.step (f := fun k => flonglaw05_LinesNotes.l1 k (strOfNums a) (strOfNums t) ((i + 1 : Nat) : Int)) (fun k => ?_) (ih () ?_)
        · simp only [flonglaw05_LinesNotes.l1]
          rw [numsStr_size, if_pos (by omega), if_pos (by omega), hbt, if_neg e1, wrap_up hi (by omega)]
        · intro x hxx
          rw [List.take_succ_eq_append_getElem hi] at hxx
          rcases List.mem_append.1 hxx with h | h
          · exact hy x h
          · simp only [List.mem_singleton] at h
            subst h
            exact e1
    · intro _ i hi hx ih
      have hbt := bt_str ha i hi
      by_cases e1 : a[i] = 92
      · exact Ev.step (fun k => by simp only [flonglaw05_LinesNotes.l0]; rw [numsStr_size, if_pos (by omega), if_pos (by omega), hbt, if_pos e1]) hk
      by_cases e2 : a[i] = 10
      · exact Ev.step (fun k => by simp only [flonglaw05_LinesNotes.l0]; rw [numsStr_size, if_pos (by omega), if_pos (by omega), hbt, if_neg e1, if_pos e2]) hk
      by_cases e3 : a[i] = 13
      · exact Ev.step (fun k => by simp only [flonglaw05_LinesNotes.l0]; rw [numsStr_size, if_pos (by omega), if_pos (by omega), hbt, if_neg e1, if_neg e2, if_pos e3]) hk
      refine Ev.step (f := fun k => flonglaw05_LinesNotes.l0 k (strOfNums a) (strOfNums t) ((i + 1 : Nat) : Int)) (fun k => ?_) (ih () ?_)
      · simp only [flonglaw05_LinesNotes.l0]
        rw [numsStr_size, if_pos (by omega), if_pos (by omega), hbt, if_neg e1, if_neg e2, if_neg e3, wrap_up hi (by omega)]
      · intro x hxx
        rw [List.take_succ_eq_append_getElem hi] at hxx
        rcases List.mem_append.1 hxx with h | h
        · exact hx x h
        · simp only [List.mem_singleton] at h
          subst h
          exact ⟨e1, e2, e3⟩
end Go.Proofs.YtmfkokjbjmahkaaDoor.Pure
