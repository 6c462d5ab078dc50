/- A line that can be read as data is what the printer's kind tells of its cells; and how many glyphs it has is no more than its bulk. -/
import Derived.Test.YtadejblahbebdaaDoorOpenA
import Derived.Deep.Strs
import Derived.Test.YtadejblahbebdaaDoorX0
namespace Go.Proofs.YtadejblahbebdaaDoor.Open
open Go.RowKit Go.ChangeShapes Go.Deep Go.Proofs.YtadejblahbebdaaDoorW.PrintWords Go.Proofs.YtadejblahbebdaaDoorW.PrintLast Go.Proofs.YtadejblahbebdaaDoorW.PrintMore Go.Proofs.YtadejblahbebdaaDoor.X
set_option linter.unusedVariables false

theorem bulk_len {H : Type} : ∀ l : List (DataW H), l.length ≤ Rows.uptoBulkAll l
  | [] => Nat.zero_le _
  | d :: r => by
    have h1 := bulk_len r
    have h2 : 1 ≤ Rows.uptoBulk d := by
      cases d with
      | lit a => cases a <;> simp [Rows.uptoBulk]
      | _ => simp [Rows.uptoBulk]
    simp only [List.length_cons, Rows.uptoBulkAll]
    omega
theorem three_of {α : Type} {cs : List α} (h : cs.length = 3) : ∃ u v t, cs = [u, v, t] := by
  match cs, h with
  | [u, v, t], _ => exact ⟨u, v, t, rfl⟩
def fit49 (x : S49) : Prop := (Lit.int .i64 x.f0).wf = true ∧ ∀ g ∈ x.f1, fit37 g
/-- What is known of a line, and of what was read. -/
def LineQ (H : Type) (x : S49) (y : DataW H) : Prop := fit49 x ∧ x.f1.length + 1 ≤ Rows.uptoBulk y
theorem opens_S49 : Opens Tryd.prog 49 k49 LineQ := by
  intro H enc w base sp held fuel cs y h
  obtain ⟨y0, y1, y2, n, rfl, hl, h0, h1, h2⟩ := trod_struct3 Tryd.underlying49 h
  rw [show Tryd.prog.cellsOf 49 = 3 by kernel_rfl] at hl
  obtain ⟨a, e0, f0, w0⟩ := DataW.trod_int Tryd.underlying3 h0
  obtain ⟨g, hg, hq⟩ := (opens_slice Tryd.underlying33 (by kernel_rfl) opens_S37) H enc w base sp held n _ _ h1
  obtain ⟨b, hb, hb2⟩ := (opens_bool (P := Tryd.prog) Tryd.underlying4) H enc w base sp held n _ _ h2
  obtain ⟨A1, c1, e1, l1, g1⟩ := hg
  have e2 : (cs.drop 2).take (Tryd.prog.cellsOf 4) = [Value.bool b] := hb
  rw [show Tryd.prog.cellsOf 3 = 1 by kernel_rfl] at e0
  rw [show Tryd.prog.cellsOf 33 = 1 by kernel_rfl] at e1
  rw [show Tryd.prog.cellsOf 4 = 1 by kernel_rfl] at e2
  obtain ⟨u, v, t, rfl⟩ := three_of hl
  simp at e0 e1 e2
  subst e0 e1 e2
  refine ⟨⟨a, g, b⟩, k49_mk w ⟨a, g, b⟩ l1 g1, ⟨w0, each_all (Q' := fun z => fit37 z) (fun _ _ hz => hz.1) hq⟩, ?_⟩
  simp only [Rows.uptoBulk, Rows.uptoBulkAll]
  have : g.length ≤ Rows.uptoBulk y1.1 := by
    rcases hq with ⟨rfl, _⟩ | ⟨elems, spare, he, hlen, _⟩
    · simp
    · rw [he]
      have := bulk_len elems
      simp only [Rows.uptoBulk]
      omega
  have h3 : 1 ≤ Rows.uptoBulk y1.1 := by
    rcases hq with ⟨_, he⟩ | ⟨elems, spare, he, hlen, _⟩ <;> rw [he] <;> simp [Rows.uptoBulk]
  omega
/-- Of lines, together. -/
theorem lines_bulk {H : Type} {xs : List S49} {y : DataW H} (h : Each LineQ H xs y) : (xs.map (fun x => x.f1.length + 1)).sum ≤ Rows.uptoBulk y := by
  rcases h with ⟨rfl, _⟩ | ⟨elems, spare, rfl, hlen, hel⟩
  · simp
  · have key : ∀ (xs : List S49) (es : List (DataW H)), es.length = xs.length → (∀ (i : Nat) x z, xs[i]? = some x → es[i]? = some z → LineQ H x z) → (xs.map (fun x => x.f1.length + 1)).sum ≤ Rows.uptoBulkAll es := by
      intro xs
      induction xs with
      | nil => intro es _ _; simp
      | cons x xs ih =>
        intro es he hq
        cases es with
        | nil => simp at he
        | cons e es =>
          have h1 := ih es (by simpa using he) (fun i a b ha hb => hq (i + 1) a b (by simpa using ha) (by simpa using hb))
          have h2 := (hq 0 x e rfl rfl).2
          simp only [List.map_cons, List.sum_cons, Rows.uptoBulkAll]
          omega
    have := key xs elems hlen hel
    simp only [Rows.uptoBulk]
    omega
end Go.Proofs.YtadejblahbebdaaDoor.Open
