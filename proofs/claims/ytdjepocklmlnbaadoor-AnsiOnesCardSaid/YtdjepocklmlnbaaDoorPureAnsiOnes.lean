/- AnsiOnes: bytes that are rows are just these rows, written; no other bytes are read as them. The plain law. -/
import Derived.Test.YtdjepocklmlnbaaDoorSpecQ
import Derived.Test.YtdjepocklmlnbaaDoorSaidAnsiOnes
namespace Go.Proofs.YtdjepocklmlnbaaDoor.Pure
open Go Go.RowKit Go.Proofs.YtdjepocklmlnbaaDoorW.PrintWords Go.Proofs.YtdjepocklmlnbaaDoorW.PrintLast Go.Proofs.YtdjepocklmlnbaaDoorW.PrintMore Go.Proofs.YtdjepocklmlnbaaDoor.X Go.Proofs.YtdjepocklmlnbaaDoor.Hand
set_option linter.unusedVariables false
theorem lineV_ok {y : List Int} (hb : Bytes y) (h : (lineV y).2 = true) : refGo (nrm (lineV y).1) 0 = y ∧ nrm (lineV y).1 = (lineV y).1 ∧ (lineV y).1.length ≤ y.length ∧ ∀ g ∈ (lineV y).1, 0 ≤ g.f1 ∧ g.f1 ≤ 3 := by
  unfold lineV at h ⊢
  cases ho : lnP (y.length + 1) y 0 [] with
  | none => rw [ho] at h; simp [finV] at h
  | some o =>
    rw [ho] at h
    simp only [finV, Bool.and_eq_true, decide_eq_true_eq] at h ⊢
    have h1 := lnP_length _ _ _ _ _ hb ho
    exact ⟨h.1, h.2, by simpa using h1, lnP_set _ _ _ _ _ ho (by decide) (fun g hg => by simp at hg)⟩
theorem rowsV_at : ∀ (L : List (List Int)) (r : List (List Gl)), rowsV L = some r → r.length = L.length ∧ ∀ (i : Nat) (y : List Int) (x : List Gl), L[i]? = some y → r[i]? = some x → (lineV y).2 = true ∧ x = (lineV y).1
  | [], r, h => by
    cases h
    exact ⟨rfl, fun i y x hy => by simp at hy⟩
  | y :: t, r, h => by
    rw [rowsV] at h
    split at h
    · rename_i hy
      obtain ⟨q, hq, rfl⟩ := Option.map_eq_some_iff.1 h
      obtain ⟨h1, h2⟩ := rowsV_at t q hq
      refine ⟨by simp [h1], fun i z x hz hx => ?_⟩
      cases i with
      | zero =>
        simp at hz hx
        subst hz
        exact ⟨hy, hx.symm⟩
      | succ i => exact h2 i z x (by simpa using hz) (by simpa using hx)
    · cases h
theorem cutC_join : ∀ (t cur : List Int), (t = [] ∧ cur = []) ∨ t.getLast? = some 10 → (cutC cur t).flatMap (· ++ [10]) = cur ++ t
  | [], cur, h => by
    rcases h with h | h
    · rw [h.2]
      rfl
    · simp at h
  | x :: t, cur, h => by
    have h' : t = [] ∨ t.getLast? = some 10 := by
      cases t with
      | nil => exact .inl rfl
      | cons y t =>
        right
        rcases h with h | h
        · simp at h
        · rwa [List.getLast?_cons_cons] at h
    rw [cutC]
    split
    · rename_i hx
      subst hx
      rw [List.flatMap_cons, cutC_join t [] (h'.imp (fun e => ⟨e, rfl⟩) id)]
      simp
    · rename_i hx
      have h2 : t.getLast? = some 10 := by
        rcases h' with e | e
        · subst e
          rcases h with h | h
          · simp at h
          · simp at h
            exact absurd h hx
        · exact e
      rw [cutC_join t _ (.inr h2)]
      simp
theorem AnsiOnes : flonglaw19_AnsiOnes.PureSaid := by
  intro b _ hb0
  have hb : Bytes b := fun x hx => wf_u8 (hb0 x hx)
  refine Ev.rounds (g := fun k => flonglaw19_AnsiOnes.f k b) ?_
  unfold flonglaw19_AnsiOnes.f
  refine ev_ite (fun _ => Ev.bind known_ev (Ev.now _)) (fun h => ?_)
  have hc := cutC_length b []
  have hB : ∀ y ∈ cutC [] b, Bytes y ∧ y.length ≤ 800 := fun y hy => by
    obtain ⟨h4, h5⟩ := cutC_sum b [] y hy
    simp only [List.length_nil] at h4
    exact ⟨fun x hx => (h5 x hx).elim (fun e => by simp at e) (hb x), by omega⟩
  have hL : ∀ y ∈ cutC [] b, LineOK y := fun y hy => by
    obtain ⟨h1, h2⟩ := hB y hy
    exact ⟨h1, by omega, fun r hr => by have := lnP_length _ _ _ _ _ h1 hr; simp at this; omega⟩
  refine Ev.bind (aread_ev hb (by omega) (by omega) hL) ?_
  unfold readA
  by_cases hend : b = [] ∨ b.getLast? = some 10
  · rw [if_pos hend]
    cases hr : rowsV (cutC [] b) with
    | none =>
      simp only [ansV]
      exact ev_neg (by decide) (ev_pos rfl (Ev.bind known_ev (Ev.now _)))
    | some r =>
      simp only [ansV, List.nil_append]
      refine ev_pos trivial ?_
      obtain ⟨hrl, hat⟩ := rowsV_at _ _ hr
      have hj : (cutC [] b).flatMap (· ++ [10]) = b := by
        have := cutC_join b [] (hend.imp (fun e => ⟨e, rfl⟩) id)
        simpa using this
      revert hrl hat hj hB
      generalize cutC [] b = L at hc
      intro hB hrl hat hj
      refine loop_up (fun k s i => flonglaw19_AnsiOnes.l0 k b r s i) r.length (fun _ _ => true) (fun s i => s = (L.take i).flatMap (· ++ [10]) ∧ s.length ≤ 801 * i) ?_ ?_ [] 0 (by omega) ⟨by simp, by simp⟩
      · rintro s ⟨hs, _⟩
        rw [hrl, List.take_length, hj] at hs
        subst hs
        refine Ev.step (f := fun k => (flongref00_Same.f s s).bind fun t597 => (if t597 = true then ((flonglaw19_known.f k).bind fun t598 => (some t598)) else (some false))) (fun k => by simp only [flonglaw19_AnsiOnes.l0]; rw [if_neg (by omega)]) ?_
        exact ev_bind1 (by unfold flongref00_Same.f; simp) (ev_pos rfl (Ev.bind known_ev (Ev.now _)))
      · rintro s i hi ⟨hs, hsl⟩ ih
        have hiL : i < L.length := by omega
        obtain ⟨hok, hx⟩ := hat i L[i] r[i] (List.getElem?_eq_getElem hiL) (List.getElem?_eq_getElem hi)
        obtain ⟨hBy, hyl⟩ := hB L[i] (List.getElem_mem hiL)
        obtain ⟨h1, h2, h3, h4⟩ := lineV_ok hBy hok
        rw [← hx] at h1 h2 h3 h4
        have h8 : ∀ g ∈ r[i], 0 ≤ g.f1 ∧ g.f1 ≤ 255 := fun g hg => by have := h4 g hg; omega
        have hnl := rnormal_ev r[i] (exists_trim (clean r[i])).choose_spec (by omega) h8
        change Ev _ (nrm r[i]) at hnl
        rw [h2] at hnl
        have hrow := rrow_ev (l := r[i]) (by omega) h8
        rw [h1] at hrow
        refine Ev.step (f := fun k => (flongref17_Normal.f k r[i]).bind fun t600 => ((flongref03_Same.f k t600 r[i]).bind fun t604 => (if t604 = true then ((flongref19_Row.f k r[i]).bind fun t606 => (if s.length + t606.length < 140737488355328 then ((some (s ++ t606 : List Int)).bind fun y609 => (if y609.length < 140737488355328 then (flonglaw19_AnsiOnes.l0 k b r (y609 ++ [10]) ((i + 1 : Nat) : Int)) else (none))) else (none))) else (some false)))) (fun k => ?_) ?_
        · simp only [flonglaw19_AnsiOnes.l0]
          rw [if_pos (by omega), if_pos (by omega), rdL r i hi, wrap_up hi (by omega)]
        · refine Ev.bind hnl (Ev.bind (gsame_true rfl (by omega)) (ev_pos rfl (Ev.bind hrow (ev_pos (by omega) (ev_bind1 rfl (ev_pos (by rw [List.length_append]; omega) (ih _ ⟨?_, ?_⟩)))))))
          · rw [List.take_succ_eq_append_getElem hiL, List.flatMap_append, ← hs]
            simp
          · simp only [List.length_append, List.length_singleton]
            omega
  · rw [if_neg hend]
    exact ev_neg (by decide) (ev_pos rfl (Ev.bind known_ev (Ev.now _)))
end Go.Proofs.YtdjepocklmlnbaaDoor.Pure
