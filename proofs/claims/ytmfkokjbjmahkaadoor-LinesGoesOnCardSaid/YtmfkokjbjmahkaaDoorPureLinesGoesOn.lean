/- LinesGoesOn: a line cut in two by a backslash at a line's end is read as if it were one. The plain law. -/
import Derived.Test.YtmfkokjbjmahkaaDoorSpecQ
import Derived.Test.YtmfkokjbjmahkaaDoorSaidLinesGoesOn
namespace Go.Proofs.YtmfkokjbjmahkaaDoor.Pure
open Go Go.RowKit Go.Proofs.YtmfkokjbjmahkaaDoorW.PrintWords Go.Proofs.YtmfkokjbjmahkaaDoorW.PrintLast Go.Proofs.YtmfkokjbjmahkaaDoorW.PrintMore Go.Proofs.YtmfkokjbjmahkaaDoor.X Go.Proofs.YtmfkokjbjmahkaaDoor.Hand
set_option linter.unusedVariables false
theorem rowV_small (frm : Int) (s : List Int) : (rowV frm s).1.length ≤ 1 ∧ ∀ r ∈ (rowV frm s).1, r.f2.length ≤ 200 := by
  unfold rowV
  split
  · split
    · simp
    · refine ⟨by simp, fun r hr => ?_⟩
      simp only [List.mem_singleton] at hr
      subst hr
      simp only
      split
      · rw [List.length_take]
        omega
      · rename_i h
        rw [List.length_map]
        omega
  · simp
theorem LinesGoesOn : flonglaw05_LinesGoesOn.PureSaid := by
  intro a0 a1 _ _
  refine Ev.rounds (g := fun k => flonglaw05_LinesGoesOn.f k a0 a1) ?_
  have ht : Ev (fun k => flonglaw05_LinesGoesOn.j0 k a0 a1 true) true := Ev.step (f := fun k => (flonglaw05_known.f k).bind fun t => some t) (fun k => by simp only [flonglaw05_LinesGoesOn.j0]; rw [if_pos trivial]) (Ev.bind known_ev (Ev.now _))
  unfold flonglaw05_LinesGoesOn.f
  refine ev_ite (fun _ => ht) (fun h0 => ?_)
  by_cases h1 : (a1.size : Int) > 300
  · rw [decide_eq_true h1]
    exact ht
  · rw [decide_eq_false h1]
    clear ht
    have ha := bytesOf_Bytes a0
    have hb := bytesOf_Bytes a1
    have hal : (bytesOf a0).length ≤ 300 := by rw [← numsStr_size, str_of]; omega
    have hbl : (bytesOf a1).length ≤ 300 := by rw [← numsStr_size, str_of]; omega
    rw [show a0 = strOfNums (bytesOf a0) from (str_of a0).symm, show a1 = strOfNums (bytesOf a1) from (str_of a1).symm]
    generalize bytesOf a0 = a at ha hal ⊢
    generalize bytesOf a1 = b at hb hbl ⊢
    have hs := bytes_append ha hb
    have hsl : (a ++ b).length ≤ 600 := by rw [List.length_append]; omega
    have hab : strOfNums a ++ strOfNums b = strOfNums (a ++ b) := (numsStr_append a b).symm
    refine Ev.step (f := fun k => flonglaw05_LinesGoesOn.l0 k (strOfNums a) (strOfNums b) (strOfNums (a ++ b)) 0) (fun k => ?_) ?_
    · simp only [flonglaw05_LinesGoesOn.j0]
      rw [if_neg (by simp), if_pos (by rw [numsStr_size, numsStr_size]; omega), hab]
    · refine loop_up (σ := Unit) (fun k _ i => flonglaw05_LinesGoesOn.l0 k (strOfNums a) (strOfNums b) (strOfNums (a ++ b)) i) (a ++ b).length (fun _ _ => true) (fun _ i => ∀ x ∈ (a ++ b).take i, x ≠ 92 ∧ x ≠ 10 ∧ x ≠ 13) ?_ ?_ () 0 (by omega) (by simp)
      · intro _ hx
        rw [List.take_length] at hx
        have n92 : (92 : Int) ∉ a ++ b := fun h => (hx _ h).1 rfl
        have n10 : (10 : Int) ∉ a ++ b := fun h => (hx _ h).2.1 rfl
        have n13 : (13 : Int) ∉ a ++ b := fun h => (hx _ h).2.2 rfl
        have hx1 := read_ev (b := a ++ b ++ [10]) (bytes_append hs (by intro x hx; simp at hx; omega)) (by rw [List.length_append, List.length_singleton]; omega)
        have hx2 := read_ev (b := a ++ [92, 10] ++ b ++ [10]) (bytes_append (bytes_append (bytes_append ha (by intro x hx; simp at hx; omega)) hb) (by intro x hx; simp at hx; omega)) (by simp only [List.length_append, List.length_cons, List.length_nil] at hsl ⊢; omega)
        rw [readV_one n92 n10 n13] at hx1
        rw [readV_on (fun h => n92 (by simp [h])) (fun h => n92 (by simp [h])) (fun h => n10 (by simp [h])) (fun h => n10 (by simp [h])) (fun h => n13 (by simp [h]))] at hx2
        have hr := rowV_small 1 (a ++ b)
        generalize rowV 1 (a ++ b) = R at hx1 hx2 hr
        refine Ev.step (f := fun k => (lines_Read.f k (strOfNums (a ++ b ++ [10]))).bind fun bt155 => (lines_Read.f k (strOfNums (a ++ [92, 10] ++ b ++ [10]))).bind fun bt161 => ((flongref05_Same.f k bt155.1 bt161.1).bind fun t167 => (if t167 = true then (if (bt155.2.length : Int) = (bt161.2.length : Int) then ((flonglaw05_known.f k).bind fun t168 => (some t168)) else (some false)) else (some false)))) (fun k => ?_) ?_
        · simp only [flonglaw05_LinesGoesOn.l0]
          rw [numsStr_size, if_neg (by omega), if_pos (by omega), show (⟨#[10]⟩ : ByteArray) = strOfNums [10] from rfl, show (⟨#[92, 10]⟩ : ByteArray) = strOfNums [92, 10] from rfl, ← numsStr_append, ← numsStr_append, ← numsStr_append, ← numsStr_append, numsStr_size, numsStr_size, numsStr_size, numsStr_size]
          simp only [List.length_append, List.length_cons, List.length_nil] at hsl ⊢
          congr 1
          funext bt155
          rw [if_pos (by omega), if_pos (by omega), if_pos (by omega)]
        · exact Ev.bind hx1 (Ev.bind hx2 (Ev.bind (same_rows (by omega) (fun r h => by have := hr.2 r h; omega)) (ev_pos rfl (ev_pos rfl (Ev.bind known_ev (Ev.now _))))))
      · intro _ i hi hx ih
        have hk : Ev (fun k => (flonglaw05_known.f k).bind fun t => some t) true := Ev.bind known_ev (Ev.now _)
        have hbt := bt_str hs i hi
        by_cases e1 : (a ++ b)[i] = 92
        · exact Ev.step (fun k => by simp only [flonglaw05_LinesGoesOn.l0]; rw [numsStr_size, if_pos (by omega), if_pos (by omega), hbt, if_pos e1]) hk
        by_cases e2 : (a ++ b)[i] = 10
        · exact Ev.step (fun k => by simp only [flonglaw05_LinesGoesOn.l0]; rw [numsStr_size, if_pos (by omega), if_pos (by omega), hbt, if_neg e1, if_pos e2]) hk
        by_cases e3 : (a ++ b)[i] = 13
        · exact Ev.step (fun k => by simp only [flonglaw05_LinesGoesOn.l0]; rw [numsStr_size, if_pos (by omega), if_pos (by omega), hbt, if_neg e1, if_neg e2, if_pos e3]) hk
        refine Ev.step (f := fun k => flonglaw05_LinesGoesOn.l0 k (strOfNums a) (strOfNums b) (strOfNums (a ++ b)) ((i + 1 : Nat) : Int)) (fun k => ?_) (ih () ?_)
        · simp only [flonglaw05_LinesGoesOn.l0]
          rw [numsStr_size, if_pos (by omega), if_pos (by omega), hbt, if_neg e1, if_neg e2, if_neg e3, wrap_up hi (by omega)]
        · intro x hxx
          rw [List.take_succ_eq_append_getElem hi] at hxx
          rcases List.mem_append.1 hxx with h | h
          · exact hx x h
          · simp only [List.mem_singleton] at h
            subst h
            exact ⟨e1, e2, e3⟩
end Go.Proofs.YtmfkokjbjmahkaaDoor.Pure
