/- AnsiReads: any bytes are the rows that the chapter says, or none; the sign that they begin with, and what they are without signs, too. The plain law. -/
import Derived.Test.YtdjepocklmlnbaaDoorSpecQ
import Derived.Test.YtdjepocklmlnbaaDoorSaidAnsiReads
namespace Go.Proofs.YtdjepocklmlnbaaDoor.Pure
open Go Go.RowKit Go.Proofs.YtdjepocklmlnbaaDoorW.PrintWords Go.Proofs.YtdjepocklmlnbaaDoorW.PrintLast Go.Proofs.YtdjepocklmlnbaaDoorW.PrintMore Go.Proofs.YtdjepocklmlnbaaDoor.X Go.Proofs.YtdjepocklmlnbaaDoor.Hand
set_option linter.unusedVariables false
theorem lineOK_short {y : List Int} (hb : Bytes y) (h : y.length ≤ 1000) : LineOK y :=
  ⟨hb, by omega, fun r hr => by have := lnP_length _ _ _ _ _ hb hr; simp at this; omega⟩
theorem lineV_length {y : List Int} (hb : Bytes y) : (lineV y).1.length ≤ y.length := by
  unfold lineV finV
  split
  · simp
  · rename_i o ho
    have := lnP_length _ _ _ _ _ hb ho
    simpa using this
theorem rowsV_small : ∀ (L : List (List Int)) (r : List (List Gl)), rowsV L = some r → r.length = L.length ∧ ∀ n, (∀ y ∈ L, Bytes y ∧ y.length ≤ n) → ∀ x ∈ r, x.length ≤ n
  | [], r, h => by
    cases h
    exact ⟨rfl, fun _ _ x hx => by simp at hx⟩
  | y :: t, r, h => by
    rw [rowsV] at h
    split at h
    · obtain ⟨q, hq, rfl⟩ := Option.map_eq_some_iff.1 h
      obtain ⟨h1, h2⟩ := rowsV_small t q hq
      refine ⟨by simp [h1], fun n hn x hx => ?_⟩
      rcases List.mem_cons.1 hx with rfl | hx
      · have := lineV_length (hn y (by simp)).1
        have := (hn y (by simp)).2
        omega
      · exact h2 n (fun z hz => hn z (by simp [hz])) x hx
    · cases h
theorem readA_small {b : List Int} (hb : Bytes b) (h : b.length ≤ 1000) : (readA b).1.length ≤ 1000 ∧ ∀ r ∈ (readA b).1, r.length ≤ 1000 := by
  unfold readA
  split
  · cases hr : rowsV (cutC [] b) with
    | none => simp [ansV]
    | some r =>
      obtain ⟨h1, h2⟩ := rowsV_small _ _ hr
      have h3 := cutC_length b []
      simp only [ansV, List.nil_append]
      refine ⟨by omega, h2 1000 (fun y hy => ?_)⟩
      obtain ⟨h4, h5⟩ := cutC_sum b [] y hy
      simp only [List.length_nil] at h4
      exact ⟨fun x hx => (h5 x hx).elim (fun e => by simp at e) (hb x), by omega⟩
  · simp
theorem AnsiReads : flonglaw19_AnsiReads.PureSaid := by
  intro b _ hb0
  have hb : Bytes b := fun x hx => wf_u8 (hb0 x hx)
  refine Ev.rounds (g := fun k => flonglaw19_AnsiReads.f k b) ?_
  unfold flonglaw19_AnsiReads.f
  refine ev_ite (fun _ => Ev.bind known_ev (Ev.now _)) (fun h => ?_)
  have hc := cutC_length b []
  have hL : ∀ y ∈ cutC [] b, LineOK y := fun y hy => by
    obtain ⟨h4, h5⟩ := cutC_sum b [] y hy
    simp only [List.length_nil] at h4
    exact lineOK_short (fun x hx => (h5 x hx).elim (fun e => by simp at e) (hb x)) (by omega)
  obtain ⟨hr1, hr2⟩ := readA_small hb (by omega)
  refine Ev.bind (aread_ev hb (by omega) (by omega) hL) (Ev.bind (rread_ev hb (by omega) (fun y hy hl => lineOK_short hy (by omega))) (ev_bind1 (signs_eq hb) (Ev.bind (rsigns_ev hb) (Ev.bind (samerows_true _ (by omega) (fun r hr => by have := hr2 r hr; omega)) ?_))))
  refine ev_pos rfl (ev_pos rfl (ev_pos rfl (ev_pos rfl (ev_pos (by simp) ?_))))
  exact Ev.bind (strip_ev hb (by omega)) (Ev.bind (rstrip_ev hb (by omega)) (ev_bind1 (by unfold flongref00_Same.f; simp) (ev_pos rfl (Ev.bind known_ev (Ev.now _)))))
end Go.Proofs.YtdjepocklmlnbaaDoor.Pure
