/- OpenA: several of this session's texts in one. -/
import Derived.Test.YtmfkokjbjmahkaaDoorVMore
import Derived.Test.YtmfkokjbjmahkaaDoorRows
import Derived.OpenShut
import Derived.ChangeArms
import Derived.SizedLaws
import Derived.Carry
import Derived.Test.YtmfkokjbjmahkaaDoorHandA
import Derived.LaidMore
import Derived.Handed
import Derived.Shelf.Vars
import Derived.Deep.Strs
import Derived.Lib.SmallJoins
import Derived.Test.YtmfkokjbjmahkaaDoorX0
import Derived.Deep.CondSized
import Derived.JoinedCond
/- Whatever can be read as data at a type is what the printer's kinds tell of its cells: one lemma a shape of type. -/
namespace Go.Proofs.YtmfkokjbjmahkaaDoor.Open
open Go.RowKit Go.Proofs.YtmfkokjbjmahkaaDoorW.PrintWords Go.Proofs.YtmfkokjbjmahkaaDoorW.PrintLast Go.Proofs.YtmfkokjbjmahkaaDoorW.PrintMore
set_option linter.unusedVariables false
set_option linter.unusedSimpArgs false

/-- What is read at type t is a value of kind d; Q: what else is known of the value, and of what was read. -/
def Opens (P : Program) (t : TypeId) {α : Type} (d : Kd α) (Q : (H : Type) → α → DataW H → Prop) : Prop :=
  ∀ (H : Type) (enc : TypeId × Value → H) (w : World) (base : Nat) (sp : Nat → Bool) (held : Bool) (fuel : Nat) (cs : List Value) (y : DataW H × List MemPlace),
    DataW.trod enc P w base sp held fuel t cs = some y → ∃ x, d.K w x cs ∧ Q H x y.1

section
variable {P : Program} {t e : TypeId}
theorem opens_string (ht : P.underlying t = some .string) : Opens P t Kd.string (fun H x y => x.size ≤ maxLen ∧ y = .lit (.string x.data.toList)) := by
  intro H enc w base sp held fuel cs y h
  obtain ⟨s, rfl, rfl, hs⟩ := DataW.trod_string ht h
  exact ⟨s, rfl, hs, rfl⟩

theorem add_add' (a : Addr) (i j : Nat) : (a.add i).add j = a.add (i + j) := by
  unfold Addr.add
  by_cases h1 : i = 0 <;> by_cases h2 : j = 0 <;> simp [h1, h2, Nat.add_assoc]

theorem mapM_some {α β : Type} {f : α → Option β} : ∀ {l : List α} {r : List β}, l.mapM f = some r → r.length = l.length ∧ ∀ (i : Nat) x, l[i]? = some x → f x = r[i]?
  | [], r, h => by
    simp at h
    subst h
    exact ⟨rfl, fun i x hx => by simp at hx⟩
  | a :: l, r, h => by
    simp only [List.mapM_cons, Option.bind_eq_bind, Option.bind_eq_some_iff, Option.pure_def, Option.some.injEq] at h
    obtain ⟨b, hb, r', hr, rfl⟩ := h
    obtain ⟨h1, h2⟩ := mapM_some hr
    refine ⟨by simp [h1], fun i x hx => ?_⟩
    cases i with
    | zero =>
      simp at hx
      subst hx
      simpa using hb
    | succ i => simpa using h2 i x (by simpa using hx)

theorem cells_at {w : World} {base : Nat} {a : Addr} {n : Nat} {c : List Value} (h : w.cells? base a n = some c) : c.length = n ∧ ∀ (i : Nat) u, c[i]? = some u → w.cell? (a.add i) = some u := by
  unfold World.cells? at h
  split at h
  · obtain ⟨h1, h2⟩ := mapM_some h
    refine ⟨by simpa using h1, fun i u hu => ?_⟩
    have hi : i < c.length := (List.getElem?_eq_some_iff.1 hu).1
    rw [h2 i i (by rw [List.getElem?_range (by have := h1; simp at this; omega)]), hu]
  · cases h

theorem exists_list {α β : Type} {R : Nat → α → β → Prop} : ∀ (es : List α) (k : Nat), (∀ (i : Nat) x, es[i]? = some x → ∃ y, R (k + i) x y) → ∃ ys : List β, ys.length = es.length ∧ ∀ (i : Nat) x y, es[i]? = some x → ys[i]? = some y → R (k + i) x y
  | [], _, _ => ⟨[], rfl, fun i x y h => by simp at h⟩
  | e :: es, k, h => by
    obtain ⟨y, hy⟩ := h 0 e rfl
    obtain ⟨ys, h1, h2⟩ := exists_list es (k + 1) (fun i x hx => by have := h (i + 1) x (by simpa using hx); rwa [show k + 1 + i = k + (i + 1) from by omega])
    refine ⟨y :: ys, by simp [h1], fun i x z hx hz => ?_⟩
    cases i with
    | zero =>
      simp at hx hz
      subst hx hz
      exact hy
    | succ i =>
      have := h2 i x z (by simpa using hx) (by simpa using hz)
      rwa [show k + 1 + i = k + (i + 1) from by omega] at this

/-- Element by element. -/
def Each {α : Type} (Q : (H : Type) → α → DataW H → Prop) (H : Type) (xs : List α) (y : DataW H) : Prop :=
  (xs = [] ∧ y = .nil) ∨ ∃ elems spare, y = .slice elems spare ∧ elems.length = xs.length ∧ ∀ (i : Nat) x z, xs[i]? = some x → elems[i]? = some z → Q H x z

theorem opens_slice {α : Type} {d : Kd α} {Q : (H : Type) → α → DataW H → Prop} (ht : P.underlying t = some (.slice e)) (hsz : P.cellsOf e = d.sz) (h : Opens P e d Q) : Opens P t (Kd.slice e d) (Each Q) := by
  intro H enc w base sp held fuel cs y hy
  rcases DataW.trod_slice ht hy with ⟨rfl, rfl⟩ | ⟨a, len, cap, elems, rest, n, rfl, rfl, rfl, hb, hl, hc, hlen, hel, _, _⟩
  · exact ⟨[], ⟨none, 0, rfl, Nat.le_refl _, rfl, by simp, fun h0 => absurd h0 (by simp)⟩, Or.inl ⟨rfl, rfl⟩⟩
  · have hex : ∀ (i : Nat) z, elems[i]? = some z → ∃ x, (∃ c, c.length = d.sz ∧ d.K w x c ∧ ∀ j u, c[j]? = some u → w.cell? (a.add ((0 + i) * d.sz + j)) = some u) ∧ Q H x z.1 := by
      intro i z hz
      have hi : i < len := by rw [← hlen]; exact (List.getElem?_eq_some_iff.1 hz).1
      have h1 := hel i hi
      rw [hz, Option.bind_eq_some_iff] at h1
      obtain ⟨c, hc1, hc2⟩ := h1
      obtain ⟨x, hx, hq⟩ := h H enc w base sp held n c z hc2
      obtain ⟨h2, h3⟩ := cells_at hc1
      exact ⟨x, ⟨c, by rw [h2, hsz], hx, fun j u hu => by have := h3 j u hu; rwa [add_add', hsz, show i * d.sz + j = (0 + i) * d.sz + j from by rw [Nat.zero_add]] at this⟩, hq⟩
    obtain ⟨xs, hxl, hxs⟩ := exists_list (R := fun i z x => (∃ c, c.length = d.sz ∧ d.K w x c ∧ ∀ j u, c[j]? = some u → w.cell? (a.add (i * d.sz + j)) = some u) ∧ Q H x z.1) elems 0 hex
    have hxn : xs.length = len := by omega
    refine ⟨xs, ⟨some a, cap, by rw [hxn], by omega, rfl, by unfold maxLen at hc; omega, fun _ => ⟨a, rfl, fun j x hx => ?_⟩⟩, Or.inr ⟨_, _, rfl, by simp [hxl], fun i x z hx hz => ?_⟩⟩
    · have hj : j < xs.length := (List.getElem?_eq_some_iff.1 hx).1
      obtain ⟨z, hz⟩ : ∃ z, elems[j]? = some z := ⟨elems[j]'(by omega), List.getElem?_eq_getElem (by omega)⟩
      have := (hxs j z x hz hx).1
      rwa [Nat.zero_add] at this
    · rw [List.getElem?_map, Option.map_eq_some_iff] at hz
      obtain ⟨z', hz', rfl⟩ := hz
      exact (hxs i z' x hz' hx).2
theorem sized_each {α : Type} {H : Type} {ts : List TypeId} {ds : List (DataW H)} (h : (DataW.weightsEach P ts ds).all (· ≤ reachBytes) = true) {j : Nat} {Q : (H : Type) → α → DataW H → Prop} {xs : List α} {y : DataW H}
    (ht : ts[j]? = some t) (hu : P.underlying t = some (.slice e)) (hd : ds[j]? = some y) (hq : Each Q H xs y) : xs.length * P.bytesOf e ≤ 140737488351232 := by
  rcases hq with ⟨rfl, _⟩ | ⟨elems, spare, rfl, hl, _⟩
  · simp
  · have h1 := sized_slice h ht hd hu
    rw [hl] at h1
    have h2 : xs.length * P.bytesOf e ≤ (xs.length + spare.length) * P.bytesOf e := Nat.mul_le_mul_right _ (Nat.le_add_right _ _)
    have h3 : reachBytes = 140737488351232 := rfl
    omega
theorem each_all {α : Type} {H : Type} {Q : (H : Type) → α → DataW H → Prop} {Q' : α → Prop} {xs : List α} {y : DataW H} (hi : ∀ x z, Q H x z → Q' x) (hq : Each Q H xs y) : ∀ x ∈ xs, Q' x := by
  rcases hq with ⟨rfl, _⟩ | ⟨elems, spare, rfl, hl, hel⟩
  · simp
  · intro x hx
    obtain ⟨i, hi', rfl⟩ := List.getElem_of_mem hx
    exact hi _ _ (hel i _ (elems[i]'(by omega)) (List.getElem?_eq_getElem hi') (List.getElem?_eq_getElem (by omega)))
end
end Go.Proofs.YtmfkokjbjmahkaaDoor.Open

/- What the walks ask of the library's own variable holds in every world that a row speaks of: the world's shape says so. -/
namespace Go.Proofs.YtmfkokjbjmahkaaDoor.Open
open Go Go.RowKit Go.Proofs.YtmfkokjbjmahkaaDoor.Hand
set_option maxRecDepth 100000 in
theorem glob0 {W : World} (h : W.ShapedOpen Tryd.prog) : Glob 0 W :=
  cell_of_shapedOpen_int h (g := 0) (t := 3) (zero := #[.int .i64 0]) (Nat.le_of_ble_eq_true (by kernel_rfl)) (by kernel_rfl) rfl (by kernel_rfl) (by kernel_rfl) Tryd.underlying3
end Go.Proofs.YtmfkokjbjmahkaaDoor.Open

/- A row of a document (api.Row) that can be read as data is what the printer's kind tells of its cells; and its texts are no more than its bulk. -/
namespace Go.Proofs.YtmfkokjbjmahkaaDoor.Open
open Go Go.RowKit Go.ChangeShapes Go.Deep Go.Joins Go.Proofs.YtmfkokjbjmahkaaDoorW.PrintWords Go.Proofs.YtmfkokjbjmahkaaDoorW.PrintLast Go.Proofs.YtmfkokjbjmahkaaDoorW.PrintMore Go.Proofs.YtmfkokjbjmahkaaDoor.X
set_option linter.unusedVariables false
theorem four_of {α : Type} {cs : List α} (h : cs.length = 4) : ∃ u v t s, cs = [u, v, t, s] := by
  match cs, h with
  | [u, v, t, s], _ => exact ⟨u, v, t, s, rfl⟩
def fit35 (x : S35) : Prop := (Lit.int .i64 x.f0).wf = true
/-- How many bytes a row's texts hold. -/
def rowBulk (x : S35) : Nat := x.f1.size + x.f3.size + (x.f2.map fun s => s.size + 1).sum + 1
theorem texts_bulk {H : Type} {Q : (H : Type) → ByteArray → DataW H → Prop} (hQ : ∀ x z, Q H x z → z = .lit (.string x.data.toList)) {xs : List ByteArray} {y : DataW H} (h : Each Q H xs y) : (xs.map fun s => s.size + 1).sum + 1 ≤ Rows.uptoBulk y := by
  rcases h with ⟨rfl, rfl⟩ | ⟨elems, spare, rfl, hlen, hel⟩
  · simp [Rows.uptoBulk]
  · have key : ∀ (xs : List ByteArray) (es : List (DataW H)), es.length = xs.length → (∀ (i : Nat) x z, xs[i]? = some x → es[i]? = some z → Q H x z) → (xs.map fun s => s.size + 1).sum ≤ Rows.uptoBulkAll es := by
      intro xs
      induction xs with
      | nil => intro es _ _; simp
      | cons x xs ih =>
        intro es he hq
        cases es with
        | nil => simp at he
        | cons e es =>
          have h1 := ih es (by simpa using he) (fun i a b ha hb => hq (i + 1) a b (by simpa using ha) (by simpa using hb))
          have h2 := hQ _ _ (hq 0 x e rfl rfl)
          subst h2
          have h3 : x.data.toList.length = x.size := Array.length_toList
          simp only [List.map_cons, List.sum_cons, Rows.uptoBulkAll, Rows.uptoBulk]
          omega
    have := key xs elems hlen hel
    simp only [Rows.uptoBulk]
    omega
/-- What is known of a row, and of what was read. -/
def RowQ (H : Type) (x : S35) (y : DataW H) : Prop := fit35 x ∧ rowBulk x ≤ Rows.uptoBulk y
theorem opens_S35 : Opens Tryd.prog 35 k35 RowQ := by
  intro H enc w base sp held fuel cs y h
  obtain ⟨y0, y1, y2, y3, n, rfl, hl, h0, h1, h2, h3⟩ := trod_struct4 Tryd.underlying35 h
  rw [show Tryd.prog.cellsOf 35 = 4 by kernel_rfl] at hl
  obtain ⟨a, e0, f0, w0⟩ := DataW.trod_int Tryd.underlying3 h0
  obtain ⟨b, e1, f1, w1⟩ := DataW.trod_string Tryd.underlying9 h1
  obtain ⟨g, hg, hq⟩ := (opens_slice Tryd.underlying23 (by kernel_rfl) (opens_string (P := Tryd.prog) Tryd.underlying9)) H enc w base sp held n _ _ h2
  obtain ⟨c, e3, f3, w3⟩ := DataW.trod_string Tryd.underlying9 h3
  obtain ⟨A2, c2, e2, l2, g2⟩ := hg
  rw [show Tryd.prog.cellsOf 3 = 1 by kernel_rfl] at e0
  rw [show Tryd.prog.cellsOf 9 = 1 by kernel_rfl] at e1 e3
  rw [show Tryd.prog.cellsOf 23 = 1 by kernel_rfl] at e2
  obtain ⟨u, v, t, s, rfl⟩ := four_of hl
  simp at e0 e1 e2 e3
  subst e0 e1 e2 e3
  refine ⟨⟨a, b, g, c⟩, k35_mk w ⟨a, b, g, c⟩ l2 g2, w0, ?_⟩
  have hb := texts_bulk (fun _ _ hz => hz.2) hq
  rw [f0, f1, f3]
  have hb1 : b.data.toList.length = b.size := Array.length_toList
  have hc1 : c.data.toList.length = c.size := Array.length_toList
  simp only [Rows.uptoBulk, Rows.uptoBulkAll, rowBulk]
  omega
/-- Of rows, together. -/
theorem rowsR_bulk {H : Type} {xs : List S35} {y : DataW H} (h : Each RowQ H xs y) : (xs.map (fun x => rowBulk x)).sum ≤ Rows.uptoBulk y := by
  rcases h with ⟨rfl, _⟩ | ⟨elems, spare, rfl, hlen, hel⟩
  · simp
  · have key : ∀ (xs : List S35) (es : List (DataW H)), es.length = xs.length → (∀ (i : Nat) x z, xs[i]? = some x → es[i]? = some z → RowQ H x z) → (xs.map (fun x => rowBulk x)).sum ≤ Rows.uptoBulkAll es := by
      intro xs
      induction xs with
      | nil => intro es _ _; simp
      | cons x xs ih =>
        intro es he hq
        cases es with
        | nil => simp at he
        | cons e es =>
          have h1 := ih es (by simpa using he) (fun i a b ha hb => hq (i + 1) a b (by simpa using ha) (by simpa using hb))
          have h2 := (hq 0 x e rfl rfl).2
          simp only [List.map_cons, List.sum_cons, Rows.uptoBulkAll]
          omega
    have := key xs elems hlen hel
    simp only [Rows.uptoBulk]
    omega
end Go.Proofs.YtmfkokjbjmahkaaDoor.Open

/- A row whose specification bears a condition of its own (a bound on the bulk of what is read), and that lists package variables: the two wraps of the kit (Derived/Handed.lean, Derived/Deep/CondSized.lean), joined. -/
namespace Go.Proofs.YtmfkokjbjmahkaaDoor.Open
open Go
section
variable {H : Type} {enc : TypeId × Value → H}
theorem witness_upto {C : Checked} {os : Os} {f : FuncId} {fn : Func} {s : OpenSpec} {k : (H : Type) → List (DataW H) → Bool} (hk : s.cond = some k) {conds : List PathCond} {apart : Bool} {X : World → Array Value → Prop} (modest : Bool) (w0 : World) (args : Array Value) (fuel : Nat) (hos : w0.os = os)
    (hsh : (w0.forCall (fun _ _ => 0) ⟨#[], args, []⟩).Shaped C.prog)
    (hok : Input.okWideB C.prog (w0.forCall (fun _ _ => 0) ⟨#[], args, []⟩) f ⟨#[], args, []⟩ = true)
    {x : List (DataW H) × List (DataW H) × List MemPlace} (hx : DataW.whole enc C.prog (w0.forCall (fun _ _ => 0) ⟨#[], args, []⟩).memory fn.params.toList s.vars apart args.toList fuel = some x)
    (hconds : conds.all (PathCond.test C.prog ⟨fn.params.toList, x.1, s.bare.plain.varTypes C.prog, x.2.1⟩) = true) (hkk : k H (x.1 ++ x.2.1) = true)
    (hsz : s.bare.sizedB enc C.prog fn apart (w0.forCall (fun _ _ => 0) ⟨#[], args, []⟩).memory args fuel = true)
    (hX : X (w0.forCall (fun _ _ => 0) ⟨#[], args, []⟩).memory args) :
    ∃ (w : World) (tape : Tape) (i : Input), w.os = os ∧ (w.forCall tape i).Shaped C.prog ∧ i.vars = [] ∧ Input.okWide C.prog (w.forCall tape i) .any w.heap.size f i ∧
      ((s.pre enc C.prog fn conds apart (w.forCall tape i).memory i.args ∧ X (w.forCall tape i).memory i.args) ∧ sizedMet enc C.prog fn s apart (w.forCall tape i).memory i.args) ∧ ({ modest := modest } : Assume).holds C.prog (lone (Frame.enter C.prog f i.args .normal) [] (w.forCall tape i)) :=
  ⟨w0, fun _ _ => 0, ⟨#[], args, []⟩, hos, hsh, (Input.okWide_of_okWideB (base := 0) hok).1, (Input.okWide_of_okWideB hok).2,
    ⟨⟨(OpenSpec.pre_some hk conds apart _ _).2 ⟨x.1, x.2.1, x.2.2, DataW.Whole_of_whole hx, hconds, hkk⟩, hX⟩, sizedMet_of_sizedB hsz⟩, by
    simp only [Assume.holds]
    exact ⟨by simp, by simp, fun _ => Modest.zero, by simp, by simp⟩⟩
end
end Go.Proofs.YtmfkokjbjmahkaaDoor.Open

/- A row whose specification bears a condition of its own, and that lists package variables: the world's shape handed on. -/
namespace Go.Proofs.YtmfkokjbjmahkaaDoor.Open
open Go
section
variable {H : Type} {enc : TypeId × Value → H}
theorem cond_shaped {a : Assume} {C : Checked} {os : Os} {f : FuncId} {fn : Func} {s : OpenSpec} {k : (H : Type) → List (DataW H) → Bool} (hk : s.cond = some k) {F : Stop.Interp} {conds : List PathCond} {apart fresh handsOn again : Bool} {X : World → Array Value → Prop}
    (hX : ∀ (w w' : World) (args : Array Value), w.heap = w'.heap → X w args → X w' args)
    (own : ownKnob C.prog.godebug = none) (started : os.Started) (noInit : C.prog.inits.idxOf? f = none) (hfn : C.prog.funcs[f]? = some fn)
    (witness : ∃ (w : World) (tape : Tape) (i : Input), w.os = os ∧ (w.forCall tape i).Shaped C.prog ∧ i.vars = [] ∧ Input.okWide C.prog (w.forCall tape i) .any w.heap.size f i ∧
      ((s.pre enc C.prog fn conds apart (w.forCall tape i).memory i.args ∧ X (w.forCall tape i).memory i.args) ∧ sizedMet enc C.prog fn s apart (w.forCall tape i).memory i.args) ∧ a.holds C.prog (lone (Frame.enter C.prog f i.args .normal) [] (w.forCall tape i)))
    (contract : ∀ (W : World) (base : Nat) (args : Array Value) (ds gs : List (DataW H)) (before : List MemPlace),
      (∀ (j : Nat) t v, fn.params[j]? = some t → args[j]? = some v → Value.okWide C.prog W .any base t v) →
      DataW.Whole enc C.prog fn.params.toList s.vars apart W args.toList ds gs before →
      conds.all (PathCond.test C.prog ⟨fn.params.toList, ds, s.bare.plain.varTypes C.prog, gs⟩) = true → k H (ds ++ gs) = true →
      (DataW.weightsEach C.prog (fn.params.toList ++ s.bare.plain.varTypes C.prog) (ds ++ gs)).all (· ≤ reachBytes) = true → X W args → W.ShapedOpen C.prog →
      a.holds C.prog (lone (Frame.enter C.prog f args .normal) [] W) →
      Calls C.prog f args W fun e W' => ∃ v, e = .returned v ∧ (s.at F).post enc C.prog fn apart fresh handsOn again W args v W') :
    ReturnsInHanded a C os f .any (fun w args => (s.pre enc C.prog fn conds apart w args ∧ X w args) ∧ sizedMet enc C.prog fn s apart w args) ((s.at F).post enc C.prog fn apart fresh handsOn again) := by
  refine returnsInHanded_of_calls own started noInit witness ?_
  intro w tape i _ hsh _ hok hpre hholds
  obtain ⟨_, _, _, fn', hfn', _, _, _, _, hval⟩ := hok
  have e : fn' = fn := Option.some.inj (hfn'.symm.trans hfn)
  subst e
  obtain ⟨⟨hp, hx⟩, hz⟩ := hpre
  obtain ⟨ds, gs, before, hw, hc, hkk⟩ := (OpenSpec.pre_some hk conds apart _ _).1 hp
  have hw' := DataW.Whole.of_heap (w' := w.forCall tape i) (by rfl) hw
  refine (contract (w.forCall tape i) w.heap.size i.args ds gs before hval hw' hc hkk (hz.weights hw) (hX _ _ _ (by rfl) hx) hsh hholds).mono fun e W' ⟨v, he, hp⟩ => ?_
  subst he
  exact ChangeSpec.post_blind hp
end
end Go.Proofs.YtmfkokjbjmahkaaDoor.Open
