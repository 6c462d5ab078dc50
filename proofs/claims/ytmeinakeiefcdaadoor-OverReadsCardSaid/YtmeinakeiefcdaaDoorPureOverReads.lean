/- OverReads: any bytes are the rows that the chapter says, or none; the glyph that they begin with, too. The plain law. -/
import Derived.Test.YtmeinakeiefcdaaDoorSpecQ
import Derived.Test.YtmeinakeiefcdaaDoorSaidOverReads
namespace Go.Proofs.YtmeinakeiefcdaaDoor.Pure
open Go Go.RowKit Go.Proofs.YtmeinakeiefcdaaDoorW.PrintWords Go.Proofs.YtmeinakeiefcdaaDoorW.PrintLast Go.Proofs.YtmeinakeiefcdaaDoorW.PrintMore Go.Proofs.YtmeinakeiefcdaaDoor.X Go.Proofs.YtmeinakeiefcdaaDoor.Hand
set_option linter.unusedVariables false
theorem lineOK_short {y : List Int} (hb : Bytes y) (h : y.length ≤ 1000) : LineOK y :=
  ⟨hb, by omega, fun r hr => by have := (line_set _ _ _ _ (fun g hg => by simp at hg) hr).2; simp at this; omega⟩
theorem lineV_length (y : List Int) : (lineV y).1.length ≤ y.length := by
  unfold lineV
  cases hr : lineN y.length [] y with
  | none => simp [lineE]
  | some r =>
    have := (line_set _ _ _ _ (fun g hg => by simp at hg) hr).2
    show r.length ≤ y.length
    simpa using this
theorem rowsV_small : ∀ (L : List (List Int)) (r : List (List Gl)), rowsV L = some r → r.length = L.length ∧ ∀ n, (∀ y ∈ L, y.length ≤ n) → ∀ x ∈ r, x.length ≤ n
  | [], r, h => by
    cases h
    exact ⟨rfl, fun _ _ x hx => by simp at hx⟩
  | y :: t, r, h => by
    rw [rowsV] at h
    split at h
    · obtain ⟨q, hq, rfl⟩ := Option.map_eq_some_iff.1 h
      obtain ⟨h1, h2⟩ := rowsV_small t q hq
      refine ⟨by simp [h1], fun n hn x hx => ?_⟩
      rcases List.mem_cons.1 hx with rfl | hx
      · have := lineV_length y
        have := hn y (by simp)
        omega
      · exact h2 n (fun z hz => hn z (by simp [hz])) x hx
    · cases h
theorem readO_small {b : List Int} (h : b.length ≤ 1000) : (readO b).1.length ≤ 1000 ∧ ∀ r ∈ (readO b).1, r.length ≤ 1000 := by
  unfold readO
  split
  · cases hr : rowsV (cutC [] b) with
    | none => simp [ovrV]
    | some r =>
      obtain ⟨h1, h2⟩ := rowsV_small _ _ hr
      have h3 := cutC_length b []
      simp only [ovrV, List.nil_append]
      refine ⟨by omega, h2 1000 (fun y hy => ?_)⟩
      obtain ⟨h4, h5⟩ := cutC_sum b [] y hy
      simp only [List.length_nil] at h4
      omega
  · simp
theorem OverReads : flonglaw18_OverReads.PureSaid := by
  intro b _ hb0
  have hb : Bytes b := fun x hx => wf_u8 (hb0 x hx)
  refine Ev.rounds (g := fun k => flonglaw18_OverReads.f k b) ?_
  unfold flonglaw18_OverReads.f
  refine ev_ite (fun _ => Ev.bind known_ev (Ev.now _)) (fun h => ?_)
  have hc := cutC_length b []
  have hL : ∀ y ∈ cutC [] b, LineOK y := fun y hy => by
    obtain ⟨h4, h5⟩ := cutC_sum b [] y hy
    simp only [List.length_nil] at h4
    exact lineOK_short (fun x hx => (h5 x hx).elim (fun e => by simp at e) (hb x)) (by omega)
  obtain ⟨hr1, hr2⟩ := readO_small (b := b) (by omega)
  refine Ev.bind (oread_ev hb (by omega) (by omega) hL) (Ev.bind (rread18_ev hb (by omega) (fun y hy hl => lineOK_short hy (by omega))) (Ev.bind (take18_ev hb (by omega)) (Ev.bind (rtake18_ev hb (by omega)) (Ev.bind (samerows_true _ (by omega) (fun r hr => by have := hr2 r hr; omega)) ?_))))
  exact ev_pos rfl (ev_pos rfl (ev_pos (by simp) (ev_pos rfl (ev_pos rfl (Ev.bind known_ev (Ev.now _))))))
end Go.Proofs.YtmeinakeiefcdaaDoor.Pure
