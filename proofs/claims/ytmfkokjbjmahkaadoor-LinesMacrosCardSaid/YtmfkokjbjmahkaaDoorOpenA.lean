/- OpenA: several of this session's texts in one. -/
import Derived.Test.YtmfkokjbjmahkaaDoorVMore
import Derived.Test.YtmfkokjbjmahkaaDoorRows
import Derived.OpenShut
import Derived.ChangeArms
import Derived.SizedLaws
import Derived.Carry
import Derived.Test.YtmfkokjbjmahkaaDoorHandA
import Derived.LaidMore
import Derived.Handed
import Derived.Shelf.Vars
/- Whatever can be read as data at a type is what the printer's kinds tell of its cells: one lemma a shape of type. -/
namespace Go.Proofs.YtmfkokjbjmahkaaDoor.Open
open Go.RowKit Go.Proofs.YtmfkokjbjmahkaaDoorW.PrintWords Go.Proofs.YtmfkokjbjmahkaaDoorW.PrintLast Go.Proofs.YtmfkokjbjmahkaaDoorW.PrintMore
set_option linter.unusedVariables false
set_option linter.unusedSimpArgs false

/-- What is read at type t is a value of kind d; Q: what else is known of the value, and of what was read. -/
def Opens (P : Program) (t : TypeId) {α : Type} (d : Kd α) (Q : (H : Type) → α → DataW H → Prop) : Prop :=
  ∀ (H : Type) (enc : TypeId × Value → H) (w : World) (base : Nat) (sp : Nat → Bool) (held : Bool) (fuel : Nat) (cs : List Value) (y : DataW H × List MemPlace),
    DataW.trod enc P w base sp held fuel t cs = some y → ∃ x, d.K w x cs ∧ Q H x y.1

section
variable {P : Program} {t e : TypeId}
theorem opens_string (ht : P.underlying t = some .string) : Opens P t Kd.string (fun H x y => x.size ≤ maxLen ∧ y = .lit (.string x.data.toList)) := by
  intro H enc w base sp held fuel cs y h
  obtain ⟨s, rfl, rfl, hs⟩ := DataW.trod_string ht h
  exact ⟨s, rfl, hs, rfl⟩

theorem add_add' (a : Addr) (i j : Nat) : (a.add i).add j = a.add (i + j) := by
  unfold Addr.add
  by_cases h1 : i = 0 <;> by_cases h2 : j = 0 <;> simp [h1, h2, Nat.add_assoc]

theorem mapM_some {α β : Type} {f : α → Option β} : ∀ {l : List α} {r : List β}, l.mapM f = some r → r.length = l.length ∧ ∀ (i : Nat) x, l[i]? = some x → f x = r[i]?
  | [], r, h => by
    simp at h
    subst h
    exact ⟨rfl, fun i x hx => by simp at hx⟩
  | a :: l, r, h => by
    simp only [List.mapM_cons, Option.bind_eq_bind, Option.bind_eq_some_iff, Option.pure_def, Option.some.injEq] at h
    obtain ⟨b, hb, r', hr, rfl⟩ := h
    obtain ⟨h1, h2⟩ := mapM_some hr
    refine ⟨by simp [h1], fun i x hx => ?_⟩
    cases i with
    | zero =>
      simp at hx
      subst hx
      simpa using hb
    | succ i => simpa using h2 i x (by simpa using hx)

theorem cells_at {w : World} {base : Nat} {a : Addr} {n : Nat} {c : List Value} (h : w.cells? base a n = some c) : c.length = n ∧ ∀ (i : Nat) u, c[i]? = some u → w.cell? (a.add i) = some u := by
  unfold World.cells? at h
  split at h
  · obtain ⟨h1, h2⟩ := mapM_some h
    refine ⟨by simpa using h1, fun i u hu => ?_⟩
    have hi : i < c.length := (List.getElem?_eq_some_iff.1 hu).1
    rw [h2 i i (by rw [List.getElem?_range (by have := h1; simp at this; omega)]), hu]
  · cases h

theorem exists_list {α β : Type} {R : Nat → α → β → Prop} : ∀ (es : List α) (k : Nat), (∀ (i : Nat) x, es[i]? = some x → ∃ y, R (k + i) x y) → ∃ ys : List β, ys.length = es.length ∧ ∀ (i : Nat) x y, es[i]? = some x → ys[i]? = some y → R (k + i) x y
  | [], _, _ => ⟨[], rfl, fun i x y h => by simp at h⟩
  | e :: es, k, h => by
    obtain ⟨y, hy⟩ := h 0 e rfl
    obtain ⟨ys, h1, h2⟩ := exists_list es (k + 1) (fun i x hx => by have := h (i + 1) x (by simpa using hx); rwa [show k + 1 + i = k + (i + 1) from by omega])
    refine ⟨y :: ys, by simp [h1], fun i x z hx hz => ?_⟩
    cases i with
    | zero =>
      simp at hx hz
      subst hx hz
      exact hy
    | succ i =>
      have := h2 i x z (by simpa using hx) (by simpa using hz)
      rwa [show k + 1 + i = k + (i + 1) from by omega] at this

/-- Element by element. -/
def Each {α : Type} (Q : (H : Type) → α → DataW H → Prop) (H : Type) (xs : List α) (y : DataW H) : Prop :=
  (xs = [] ∧ y = .nil) ∨ ∃ elems spare, y = .slice elems spare ∧ elems.length = xs.length ∧ ∀ (i : Nat) x z, xs[i]? = some x → elems[i]? = some z → Q H x z

theorem opens_slice {α : Type} {d : Kd α} {Q : (H : Type) → α → DataW H → Prop} (ht : P.underlying t = some (.slice e)) (hsz : P.cellsOf e = d.sz) (h : Opens P e d Q) : Opens P t (Kd.slice e d) (Each Q) := by
  intro H enc w base sp held fuel cs y hy
  rcases DataW.trod_slice ht hy with ⟨rfl, rfl⟩ | ⟨a, len, cap, elems, rest, n, rfl, rfl, rfl, hb, hl, hc, hlen, hel, _, _⟩
  · exact ⟨[], ⟨none, 0, rfl, Nat.le_refl _, rfl, by simp, fun h0 => absurd h0 (by simp)⟩, Or.inl ⟨rfl, rfl⟩⟩
  · have hex : ∀ (i : Nat) z, elems[i]? = some z → ∃ x, (∃ c, c.length = d.sz ∧ d.K w x c ∧ ∀ j u, c[j]? = some u → w.cell? (a.add ((0 + i) * d.sz + j)) = some u) ∧ Q H x z.1 := by
      intro i z hz
      have hi : i < len := by rw [← hlen]; exact (List.getElem?_eq_some_iff.1 hz).1
      have h1 := hel i hi
      rw [hz, Option.bind_eq_some_iff] at h1
      obtain ⟨c, hc1, hc2⟩ := h1
      obtain ⟨x, hx, hq⟩ := h H enc w base sp held n c z hc2
      obtain ⟨h2, h3⟩ := cells_at hc1
      exact ⟨x, ⟨c, by rw [h2, hsz], hx, fun j u hu => by have := h3 j u hu; rwa [add_add', hsz, show i * d.sz + j = (0 + i) * d.sz + j from by rw [Nat.zero_add]] at this⟩, hq⟩
    obtain ⟨xs, hxl, hxs⟩ := exists_list (R := fun i z x => (∃ c, c.length = d.sz ∧ d.K w x c ∧ ∀ j u, c[j]? = some u → w.cell? (a.add (i * d.sz + j)) = some u) ∧ Q H x z.1) elems 0 hex
    have hxn : xs.length = len := by omega
    refine ⟨xs, ⟨some a, cap, by rw [hxn], by omega, rfl, by unfold maxLen at hc; omega, fun _ => ⟨a, rfl, fun j x hx => ?_⟩⟩, Or.inr ⟨_, _, rfl, by simp [hxl], fun i x z hx hz => ?_⟩⟩
    · have hj : j < xs.length := (List.getElem?_eq_some_iff.1 hx).1
      obtain ⟨z, hz⟩ : ∃ z, elems[j]? = some z := ⟨elems[j]'(by omega), List.getElem?_eq_getElem (by omega)⟩
      have := (hxs j z x hz hx).1
      rwa [Nat.zero_add] at this
    · rw [List.getElem?_map, Option.map_eq_some_iff] at hz
      obtain ⟨z', hz', rfl⟩ := hz
      exact (hxs i z' x hz' hx).2
theorem sized_each {α : Type} {H : Type} {ts : List TypeId} {ds : List (DataW H)} (h : (DataW.weightsEach P ts ds).all (· ≤ reachBytes) = true) {j : Nat} {Q : (H : Type) → α → DataW H → Prop} {xs : List α} {y : DataW H}
    (ht : ts[j]? = some t) (hu : P.underlying t = some (.slice e)) (hd : ds[j]? = some y) (hq : Each Q H xs y) : xs.length * P.bytesOf e ≤ 140737488351232 := by
  rcases hq with ⟨rfl, _⟩ | ⟨elems, spare, rfl, hl, _⟩
  · simp
  · have h1 := sized_slice h ht hd hu
    rw [hl] at h1
    have h2 : xs.length * P.bytesOf e ≤ (xs.length + spare.length) * P.bytesOf e := Nat.mul_le_mul_right _ (Nat.le_add_right _ _)
    have h3 : reachBytes = 140737488351232 := rfl
    omega
end
end Go.Proofs.YtmfkokjbjmahkaaDoor.Open

/- What the walks ask of the library's own variable holds in every world that a row speaks of: the world's shape says so. -/
namespace Go.Proofs.YtmfkokjbjmahkaaDoor.Open
open Go Go.RowKit Go.Proofs.YtmfkokjbjmahkaaDoor.Hand
set_option maxRecDepth 100000 in
theorem glob0 {W : World} (h : W.ShapedOpen Tryd.prog) : Glob 0 W :=
  cell_of_shapedOpen_int h (g := 0) (t := 3) (zero := #[.int .i64 0]) (Nat.le_of_ble_eq_true (by kernel_rfl)) (by kernel_rfl) rfl (by kernel_rfl) (by kernel_rfl) Tryd.underlying3
theorem mem_weightsAll {H : Type} {P : Program} {e : TypeId} {w : Nat} {d : DataW H} : ∀ {l : List (DataW H)}, d ∈ l → w ∈ d.weights P e → w ∈ DataW.weightsAll P e l
  | x :: l, hd, hw => by
    rw [DataW.weightsAll]
    rcases List.mem_cons.1 hd with rfl | hd
    · exact List.mem_append.2 (.inl hw)
    · exact List.mem_append.2 (.inr (mem_weightsAll hd hw))
/-- What a row of texts holds: each within reach. -/
theorem sized_texts {H : Type} {P : Program} {t e : TypeId} {ts : List TypeId} {ds : List (DataW H)} (h : (DataW.weightsEach P ts ds).all (· ≤ reachBytes) = true) {j : Nat} {Q : (H : Type) → ByteArray → DataW H → Prop} {xs : List ByteArray} {y : DataW H}
    (hQ : ∀ x z, Q H x z → z = .lit (.string x.data.toList)) (ht : ts[j]? = some t) (hu : P.underlying t = some (.slice e)) (hd : ds[j]? = some y) (hq : Each Q H xs y) : ∀ x ∈ xs, x.size ≤ 140737488351232 := by
  rcases hq with ⟨rfl, _⟩ | ⟨elems, spare, rfl, hl, hel⟩
  · simp
  · intro x hx
    obtain ⟨i, hi, rfl⟩ := List.getElem_of_mem hx
    have hz := hQ _ _ (hel i _ (elems[i]'(by omega)) (List.getElem?_eq_getElem hi) (List.getElem?_eq_getElem (by omega)))
    have hm : xs[i].data.toList.length ∈ DataW.weightsAll P e elems := mem_weightsAll (List.getElem_mem (by omega : i < elems.length)) (by rw [hz]; simp [DataW.weights])
    have := List.all_eq_true.1 h _ (DataW.weights_mem_each ht hd _ (by rw [DataW.weights, hu]; exact List.mem_cons_of_mem _ (List.mem_append.2 (.inl hm))))
    rw [decide_eq_true_eq, Array.length_toList] at this
    exact this
/-- The builder of a plain row, the world's shape handed on. -/
theorem handed_shaped {H : Type} {enc : TypeId × Value → H} {a : Assume} {C : Checked} {os : Os} {f : FuncId} {fn : Func} {s : ChangeSpec} {conds : List PathCond} {apart fresh handsOn again : Bool} {X : World → Array Value → Prop}
    (hX : ∀ (w w' : World) (args : Array Value), w.heap = w'.heap → X w args → X w' args)
    (own : ownKnob C.prog.godebug = none) (started : os.Started) (noInit : C.prog.inits.idxOf? f = none) (hfn : C.prog.funcs[f]? = some fn)
    (witness : ∃ (w : World) (tape : Tape) (i : Input), w.os = os ∧ (w.forCall tape i).Shaped C.prog ∧ i.vars = [] ∧ Input.okWide C.prog (w.forCall tape i) .any w.heap.size f i ∧
      ((s.pre enc C.prog fn conds apart (w.forCall tape i).memory i.args ∧ X (w.forCall tape i).memory i.args) ∧ sizedMet enc C.prog fn (OpenSpec.ofChange s) apart (w.forCall tape i).memory i.args) ∧ a.holds C.prog (lone (Frame.enter C.prog f i.args .normal) [] (w.forCall tape i)))
    (contract : ∀ (W : World) (base : Nat) (args : Array Value) (ds gs : List (DataW H)) (before : List MemPlace),
      (∀ (j : Nat) t v, fn.params[j]? = some t → args[j]? = some v → Value.okWide C.prog W .any base t v) →
      DataW.Whole enc C.prog fn.params.toList s.vars apart W args.toList ds gs before →
      conds.all (PathCond.test C.prog ⟨fn.params.toList, ds, s.plain.varTypes C.prog, gs⟩) = true →
      (DataW.weightsEach C.prog (fn.params.toList ++ s.plain.varTypes C.prog) (ds ++ gs)).all (· ≤ reachBytes) = true → X W args → W.ShapedOpen C.prog →
      a.holds C.prog (lone (Frame.enter C.prog f args .normal) [] W) →
      Calls C.prog f args W fun e W' => ∃ v, e = .returned v ∧ s.post enc C.prog fn apart fresh handsOn again W args v W') :
    ReturnsInHanded a C os f .any (fun w args => (s.pre enc C.prog fn conds apart w args ∧ X w args) ∧ sizedMet enc C.prog fn (OpenSpec.ofChange s) apart w args) (s.post enc C.prog fn apart fresh handsOn again) :=
  returnsInHanded_of_calls own started noInit witness (by
    intro w tape i _ hsh _ hok hpre hholds
    obtain ⟨_, _, _, fn', hfn', _, _, _, _, hval⟩ := hok
    obtain rfl : fn' = fn := Option.some.inj (hfn'.symm.trans hfn)
    obtain ⟨⟨⟨ds, gs, before, hw, hc⟩, hx⟩, hz⟩ := hpre
    refine (contract (w.forCall tape i) w.heap.size i.args ds gs before hval (DataW.Whole.of_heap (w' := w.forCall tape i) (by rfl) hw) hc (hz.weights hw) (hX _ _ _ (by rfl) hx) hsh hholds).mono ?_
    rintro e W' ⟨v, rfl, hp⟩
    exact ChangeSpec.post_blind hp)
end Go.Proofs.YtmfkokjbjmahkaaDoor.Open
