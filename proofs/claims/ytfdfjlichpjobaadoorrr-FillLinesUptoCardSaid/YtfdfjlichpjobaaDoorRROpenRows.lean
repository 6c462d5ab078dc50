/- Rows of glyphs that can be read as data, and how many glyphs they have: no more than their bulk. -/
import Derived.Test.YtfdfjlichpjobaaDoorRROpenA
import Derived.Deep.Strs
import Derived.Test.YtfdfjlichpjobaaDoorRRX0
namespace Go.Proofs.YtfdfjlichpjobaaDoorRR.Open
open Go.RowKit Go.ChangeShapes Go.Deep Go.Proofs.YtfdfjlichpjobaaDoorRRW.PrintWords Go.Proofs.YtfdfjlichpjobaaDoorRRW.PrintLast Go.Proofs.YtfdfjlichpjobaaDoorRRW.PrintMore Go.Proofs.YtfdfjlichpjobaaDoorRR.X
set_option linter.unusedVariables false

theorem bulk_lenR {H : Type} : ∀ l : List (DataW H), l.length ≤ Rows.uptoBulkAll l
  | [] => Nat.zero_le _
  | d :: r => by
    have h1 := bulk_lenR r
    have h2 : 1 ≤ Rows.uptoBulk d := by
      cases d with
      | lit a => cases a <;> simp [Rows.uptoBulk]
      | _ => simp [Rows.uptoBulk]
    simp only [List.length_cons, Rows.uptoBulkAll]
    omega
/-- What is known of a row, and of what was read. -/
def RowQ (H : Type) (x : List S39) (y : DataW H) : Prop := (∀ g ∈ x, fit39 g) ∧ x.length + 1 ≤ Rows.uptoBulk y
theorem opens_rowG : Opens Tryd.prog 22 (Kd.slice 39 k39) RowQ := by
  intro H enc w base sp held fuel cs y h
  obtain ⟨g, hg, hq⟩ := (opens_slice Tryd.underlying22 (by kernel_rfl) opens_S39) H enc w base sp held fuel cs y h
  refine ⟨g, hg, each_all (Q' := fun z => fit39 z) (fun _ _ hz => hz.1) hq, ?_⟩
  rcases hq with ⟨rfl, he⟩ | ⟨elems, spare, he, hlen, _⟩
  · rw [he]
    simp [Rows.uptoBulk]
  · rw [he]
    have := bulk_lenR elems
    simp only [Rows.uptoBulk]
    omega
/-- Of rows, together. -/
theorem rows_bulk {H : Type} {xs : List (List S39)} {y : DataW H} (h : Each RowQ H xs y) : (xs.map (fun x => x.length + 1)).sum ≤ Rows.uptoBulk y := by
  rcases h with ⟨rfl, _⟩ | ⟨elems, spare, rfl, hlen, hel⟩
  · simp
  · have key : ∀ (xs : List (List S39)) (es : List (DataW H)), es.length = xs.length → (∀ (i : Nat) x z, xs[i]? = some x → es[i]? = some z → RowQ H x z) → (xs.map (fun x => x.length + 1)).sum ≤ Rows.uptoBulkAll es := by
      intro xs
      induction xs with
      | nil => intro es _ _; simp
      | cons x xs ih =>
        intro es he hq
        cases es with
        | nil => simp at he
        | cons e es =>
          have h1 := ih es (by simpa using he) (fun i a b ha hb => hq (i + 1) a b (by simpa using ha) (by simpa using hb))
          have h2 := (hq 0 x e rfl rfl).2
          simp only [List.map_cons, List.sum_cons, Rows.uptoBulkAll]
          omega
    have := key xs elems hlen hel
    simp only [Rows.uptoBulk]
    omega
end Go.Proofs.YtfdfjlichpjobaaDoorRR.Open
