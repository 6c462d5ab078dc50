/- Whatever can be read as data at a type is what the printer's kinds tell of its cells: one lemma a shape of type. -/
import Derived.Test.YtaoiogpgncjolaaDoorWMore
import Derived.Test.YtaoiogpgncjolaaDoorRows
import Derived.OpenShut
import Derived.ChangeArms
import Derived.SizedLaws
import Derived.Carry
namespace Go.Proofs.YtaoiogpgncjolaaDoor.Open
open Go.RowKit Go.Proofs.YtaoiogpgncjolaaDoorW.PrintWords Go.Proofs.YtaoiogpgncjolaaDoorW.PrintLast Go.Proofs.YtaoiogpgncjolaaDoorW.PrintMore
set_option linter.unusedVariables false
set_option linter.unusedSimpArgs false

/-- What is read at type t is a value of kind d; Q: what else is known of the value, and of what was read. -/
def Opens (P : Program) (t : TypeId) {α : Type} (d : Kd α) (Q : (H : Type) → α → DataW H → Prop) : Prop :=
  ∀ (H : Type) (enc : TypeId × Value → H) (w : World) (base : Nat) (sp : Nat → Bool) (held : Bool) (fuel : Nat) (cs : List Value) (y : DataW H × List MemPlace),
    DataW.trod enc P w base sp held fuel t cs = some y → ∃ x, d.K w x cs ∧ Q H x y.1

section
variable {P : Program} {t e : TypeId}
theorem opens_int {k : IntKind} (ht : P.underlying t = some (.int k)) : Opens P t (Kd.int k) (fun H x y => (Lit.int k x).wf = true ∧ y = .lit (.int k x)) := by
  intro H enc w base sp held fuel cs y h
  obtain ⟨n, rfl, rfl, hw⟩ := DataW.trod_int ht h
  exact ⟨n, rfl, hw, rfl⟩
theorem opens_bool (ht : P.underlying t = some .bool) : Opens P t Kd.bool (fun H x y => y = .lit (.bool x)) := by
  intro H enc w base sp held fuel cs y h
  cases fuel with
  | zero => simp [DataW.trod] at h
  | succ n =>
    unfold DataW.trod at h
    rw [ht] at h
    split at h <;> first | (exact ⟨_, rfl, (congrArg Prod.fst (Option.some.inj h)).symm⟩) | (rename_i e_; cases e_; done) | (rename_i e_ _; cases e_; done) | cases h
theorem opens_string (ht : P.underlying t = some .string) : Opens P t Kd.string (fun H x y => x.size ≤ maxLen ∧ y = .lit (.string x.data.toList)) := by
  intro H enc w base sp held fuel cs y h
  obtain ⟨s, rfl, rfl, hs⟩ := DataW.trod_string ht h
  exact ⟨s, rfl, hs, rfl⟩

theorem add_add' (a : Addr) (i j : Nat) : (a.add i).add j = a.add (i + j) := by
  unfold Addr.add
  by_cases h1 : i = 0 <;> by_cases h2 : j = 0 <;> simp [h1, h2, Nat.add_assoc]

theorem mapM_some {α β : Type} {f : α → Option β} : ∀ {l : List α} {r : List β}, l.mapM f = some r → r.length = l.length ∧ ∀ (i : Nat) x, l[i]? = some x → f x = r[i]?
  | [], r, h => by
    simp at h
    subst h
    exact ⟨rfl, fun i x hx => by simp at hx⟩
  | a :: l, r, h => by
    simp only [List.mapM_cons, Option.bind_eq_bind, Option.bind_eq_some_iff, Option.pure_def, Option.some.injEq] at h
    obtain ⟨b, hb, r', hr, rfl⟩ := h
    obtain ⟨h1, h2⟩ := mapM_some hr
    refine ⟨by simp [h1], fun i x hx => ?_⟩
    cases i with
    | zero =>
      simp at hx
      subst hx
      simpa using hb
    | succ i => simpa using h2 i x (by simpa using hx)

theorem cells_at {w : World} {base : Nat} {a : Addr} {n : Nat} {c : List Value} (h : w.cells? base a n = some c) : c.length = n ∧ ∀ (i : Nat) u, c[i]? = some u → w.cell? (a.add i) = some u := by
  unfold World.cells? at h
  split at h
  · obtain ⟨h1, h2⟩ := mapM_some h
    refine ⟨by simpa using h1, fun i u hu => ?_⟩
    have hi : i < c.length := (List.getElem?_eq_some_iff.1 hu).1
    rw [h2 i i (by rw [List.getElem?_range (by have := h1; simp at this; omega)]), hu]
  · cases h

theorem exists_list {α β : Type} {R : Nat → α → β → Prop} : ∀ (es : List α) (k : Nat), (∀ (i : Nat) x, es[i]? = some x → ∃ y, R (k + i) x y) → ∃ ys : List β, ys.length = es.length ∧ ∀ (i : Nat) x y, es[i]? = some x → ys[i]? = some y → R (k + i) x y
  | [], _, _ => ⟨[], rfl, fun i x y h => by simp at h⟩
  | e :: es, k, h => by
    obtain ⟨y, hy⟩ := h 0 e rfl
    obtain ⟨ys, h1, h2⟩ := exists_list es (k + 1) (fun i x hx => by have := h (i + 1) x (by simpa using hx); rwa [show k + 1 + i = k + (i + 1) from by omega])
    refine ⟨y :: ys, by simp [h1], fun i x z hx hz => ?_⟩
    cases i with
    | zero =>
      simp at hx hz
      subst hx hz
      exact hy
    | succ i =>
      have := h2 i x z (by simpa using hx) (by simpa using hz)
      rwa [show k + 1 + i = k + (i + 1) from by omega] at this

/-- Element by element. -/
def Each {α : Type} (Q : (H : Type) → α → DataW H → Prop) (H : Type) (xs : List α) (y : DataW H) : Prop :=
  (xs = [] ∧ y = .nil) ∨ ∃ elems spare, y = .slice elems spare ∧ elems.length = xs.length ∧ ∀ (i : Nat) x z, xs[i]? = some x → elems[i]? = some z → Q H x z

theorem opens_slice {α : Type} {d : Kd α} {Q : (H : Type) → α → DataW H → Prop} (ht : P.underlying t = some (.slice e)) (hsz : P.cellsOf e = d.sz) (h : Opens P e d Q) : Opens P t (Kd.slice e d) (Each Q) := by
  intro H enc w base sp held fuel cs y hy
  rcases DataW.trod_slice ht hy with ⟨rfl, rfl⟩ | ⟨a, len, cap, elems, rest, n, rfl, rfl, rfl, hb, hl, hc, hlen, hel, _, _⟩
  · exact ⟨[], ⟨none, 0, rfl, Nat.le_refl _, rfl, by simp, fun h0 => absurd h0 (by simp)⟩, Or.inl ⟨rfl, rfl⟩⟩
  · have hex : ∀ (i : Nat) z, elems[i]? = some z → ∃ x, (∃ c, c.length = d.sz ∧ d.K w x c ∧ ∀ j u, c[j]? = some u → w.cell? (a.add ((0 + i) * d.sz + j)) = some u) ∧ Q H x z.1 := by
      intro i z hz
      have hi : i < len := by rw [← hlen]; exact (List.getElem?_eq_some_iff.1 hz).1
      have h1 := hel i hi
      rw [hz, Option.bind_eq_some_iff] at h1
      obtain ⟨c, hc1, hc2⟩ := h1
      obtain ⟨x, hx, hq⟩ := h H enc w base sp held n c z hc2
      obtain ⟨h2, h3⟩ := cells_at hc1
      exact ⟨x, ⟨c, by rw [h2, hsz], hx, fun j u hu => by have := h3 j u hu; rwa [add_add', hsz, show i * d.sz + j = (0 + i) * d.sz + j from by rw [Nat.zero_add]] at this⟩, hq⟩
    obtain ⟨xs, hxl, hxs⟩ := exists_list (R := fun i z x => (∃ c, c.length = d.sz ∧ d.K w x c ∧ ∀ j u, c[j]? = some u → w.cell? (a.add (i * d.sz + j)) = some u) ∧ Q H x z.1) elems 0 hex
    have hxn : xs.length = len := by omega
    refine ⟨xs, ⟨some a, cap, by rw [hxn], by omega, rfl, by unfold maxLen at hc; omega, fun _ => ⟨a, rfl, fun j x hx => ?_⟩⟩, Or.inr ⟨_, _, rfl, by simp [hxl], fun i x z hx hz => ?_⟩⟩
    · have hj : j < xs.length := (List.getElem?_eq_some_iff.1 hx).1
      obtain ⟨z, hz⟩ : ∃ z, elems[j]? = some z := ⟨elems[j]'(by omega), List.getElem?_eq_getElem (by omega)⟩
      have := (hxs j z x hz hx).1
      rwa [Nat.zero_add] at this
    · rw [List.getElem?_map, Option.map_eq_some_iff] at hz
      obtain ⟨z', hz', rfl⟩ := hz
      exact (hxs i z' x hz' hx).2
theorem sized_each {α : Type} {H : Type} {ts : List TypeId} {ds : List (DataW H)} (h : (DataW.weightsEach P ts ds).all (· ≤ reachBytes) = true) {j : Nat} {Q : (H : Type) → α → DataW H → Prop} {xs : List α} {y : DataW H}
    (ht : ts[j]? = some t) (hu : P.underlying t = some (.slice e)) (hd : ds[j]? = some y) (hq : Each Q H xs y) : xs.length * P.bytesOf e ≤ 140737488351232 := by
  rcases hq with ⟨rfl, _⟩ | ⟨elems, spare, rfl, hl, _⟩
  · simp
  · have h1 := sized_slice h ht hd hu
    rw [hl] at h1
    have h2 : xs.length * P.bytesOf e ≤ (xs.length + spare.length) * P.bytesOf e := Nat.mul_le_mul_right _ (Nat.le_add_right _ _)
    have h3 : reachBytes = 140737488351232 := rfl
    omega
theorem each_all {α : Type} {H : Type} {Q : (H : Type) → α → DataW H → Prop} {Q' : α → Prop} {xs : List α} {y : DataW H} (hi : ∀ x z, Q H x z → Q' x) (hq : Each Q H xs y) : ∀ x ∈ xs, Q' x := by
  rcases hq with ⟨rfl, _⟩ | ⟨elems, spare, rfl, hl, hel⟩
  · simp
  · intro x hx
    obtain ⟨i, hi', rfl⟩ := List.getElem_of_mem hx
    exact hi _ _ (hel i _ (elems[i]'(by omega)) (List.getElem?_eq_getElem hi') (List.getElem?_eq_getElem (by omega)))
end
end Go.Proofs.YtaoiogpgncjolaaDoor.Open
