/- OpenA: several of this session's texts in one. -/
import Derived.Test.YtdjepocklmlnbaaDoorWMore
import Derived.Test.YtdjepocklmlnbaaDoorRows
import Derived.OpenShut
import Derived.ChangeArms
import Derived.SizedLaws
import Derived.Carry
import Derived.Test.YtdjepocklmlnbaaDoorX0
import Derived.ChangeSame
import Derived.Test.YtdjepocklmlnbaaDoorHandA
import Derived.LaidMore
/- Whatever can be read as data at a type is what the printer's kinds tell of its cells: one lemma a shape of type. -/
namespace Go.Proofs.YtdjepocklmlnbaaDoor.Open
open Go.RowKit Go.Proofs.YtdjepocklmlnbaaDoorW.PrintWords Go.Proofs.YtdjepocklmlnbaaDoorW.PrintLast Go.Proofs.YtdjepocklmlnbaaDoorW.PrintMore
set_option linter.unusedVariables false
set_option linter.unusedSimpArgs false

/-- What is read at type t is a value of kind d; Q: what else is known of the value, and of what was read. -/
def Opens (P : Program) (t : TypeId) {α : Type} (d : Kd α) (Q : (H : Type) → α → DataW H → Prop) : Prop :=
  ∀ (H : Type) (enc : TypeId × Value → H) (w : World) (base : Nat) (sp : Nat → Bool) (held : Bool) (fuel : Nat) (cs : List Value) (y : DataW H × List MemPlace),
    DataW.trod enc P w base sp held fuel t cs = some y → ∃ x, d.K w x cs ∧ Q H x y.1

section
variable {P : Program} {t e : TypeId}
theorem opens_int {k : IntKind} (ht : P.underlying t = some (.int k)) : Opens P t (Kd.int k) (fun H x y => (Lit.int k x).wf = true ∧ y = .lit (.int k x)) := by
  intro H enc w base sp held fuel cs y h
  obtain ⟨n, rfl, rfl, hw⟩ := DataW.trod_int ht h
  exact ⟨n, rfl, hw, rfl⟩
theorem opens_bool (ht : P.underlying t = some .bool) : Opens P t Kd.bool (fun H x y => y = .lit (.bool x)) := by
  intro H enc w base sp held fuel cs y h
  cases fuel with
  | zero => simp [DataW.trod] at h
  | succ n =>
    unfold DataW.trod at h
    rw [ht] at h
    split at h <;> first | (exact ⟨_, rfl, (congrArg Prod.fst (Option.some.inj h)).symm⟩) | (rename_i e_; cases e_; done) | (rename_i e_ _; cases e_; done) | cases h
theorem opens_string (ht : P.underlying t = some .string) : Opens P t Kd.string (fun H x y => x.size ≤ maxLen ∧ y = .lit (.string x.data.toList)) := by
  intro H enc w base sp held fuel cs y h
  obtain ⟨s, rfl, rfl, hs⟩ := DataW.trod_string ht h
  exact ⟨s, rfl, hs, rfl⟩

theorem add_add' (a : Addr) (i j : Nat) : (a.add i).add j = a.add (i + j) := by
  unfold Addr.add
  by_cases h1 : i = 0 <;> by_cases h2 : j = 0 <;> simp [h1, h2, Nat.add_assoc]

theorem mapM_some {α β : Type} {f : α → Option β} : ∀ {l : List α} {r : List β}, l.mapM f = some r → r.length = l.length ∧ ∀ (i : Nat) x, l[i]? = some x → f x = r[i]?
  | [], r, h => by
    simp at h
    subst h
    exact ⟨rfl, fun i x hx => by simp at hx⟩
  | a :: l, r, h => by
    simp only [List.mapM_cons, Option.bind_eq_bind, Option.bind_eq_some_iff, Option.pure_def, Option.some.injEq] at h
    obtain ⟨b, hb, r', hr, rfl⟩ := h
    obtain ⟨h1, h2⟩ := mapM_some hr
    refine ⟨by simp [h1], fun i x hx => ?_⟩
    cases i with
    | zero =>
      simp at hx
      subst hx
      simpa using hb
    | succ i => simpa using h2 i x (by simpa using hx)

theorem cells_at {w : World} {base : Nat} {a : Addr} {n : Nat} {c : List Value} (h : w.cells? base a n = some c) : c.length = n ∧ ∀ (i : Nat) u, c[i]? = some u → w.cell? (a.add i) = some u := by
  unfold World.cells? at h
  split at h
  · obtain ⟨h1, h2⟩ := mapM_some h
    refine ⟨by simpa using h1, fun i u hu => ?_⟩
    have hi : i < c.length := (List.getElem?_eq_some_iff.1 hu).1
    rw [h2 i i (by rw [List.getElem?_range (by have := h1; simp at this; omega)]), hu]
  · cases h

theorem exists_list {α β : Type} {R : Nat → α → β → Prop} : ∀ (es : List α) (k : Nat), (∀ (i : Nat) x, es[i]? = some x → ∃ y, R (k + i) x y) → ∃ ys : List β, ys.length = es.length ∧ ∀ (i : Nat) x y, es[i]? = some x → ys[i]? = some y → R (k + i) x y
  | [], _, _ => ⟨[], rfl, fun i x y h => by simp at h⟩
  | e :: es, k, h => by
    obtain ⟨y, hy⟩ := h 0 e rfl
    obtain ⟨ys, h1, h2⟩ := exists_list es (k + 1) (fun i x hx => by have := h (i + 1) x (by simpa using hx); rwa [show k + 1 + i = k + (i + 1) from by omega])
    refine ⟨y :: ys, by simp [h1], fun i x z hx hz => ?_⟩
    cases i with
    | zero =>
      simp at hx hz
      subst hx hz
      exact hy
    | succ i =>
      have := h2 i x z (by simpa using hx) (by simpa using hz)
      rwa [show k + 1 + i = k + (i + 1) from by omega] at this

/-- Element by element. -/
def Each {α : Type} (Q : (H : Type) → α → DataW H → Prop) (H : Type) (xs : List α) (y : DataW H) : Prop :=
  (xs = [] ∧ y = .nil) ∨ ∃ elems spare, y = .slice elems spare ∧ elems.length = xs.length ∧ ∀ (i : Nat) x z, xs[i]? = some x → elems[i]? = some z → Q H x z

theorem opens_slice {α : Type} {d : Kd α} {Q : (H : Type) → α → DataW H → Prop} (ht : P.underlying t = some (.slice e)) (hsz : P.cellsOf e = d.sz) (h : Opens P e d Q) : Opens P t (Kd.slice e d) (Each Q) := by
  intro H enc w base sp held fuel cs y hy
  rcases DataW.trod_slice ht hy with ⟨rfl, rfl⟩ | ⟨a, len, cap, elems, rest, n, rfl, rfl, rfl, hb, hl, hc, hlen, hel, _, _⟩
  · exact ⟨[], ⟨none, 0, rfl, Nat.le_refl _, rfl, by simp, fun h0 => absurd h0 (by simp)⟩, Or.inl ⟨rfl, rfl⟩⟩
  · have hex : ∀ (i : Nat) z, elems[i]? = some z → ∃ x, (∃ c, c.length = d.sz ∧ d.K w x c ∧ ∀ j u, c[j]? = some u → w.cell? (a.add ((0 + i) * d.sz + j)) = some u) ∧ Q H x z.1 := by
      intro i z hz
      have hi : i < len := by rw [← hlen]; exact (List.getElem?_eq_some_iff.1 hz).1
      have h1 := hel i hi
      rw [hz, Option.bind_eq_some_iff] at h1
      obtain ⟨c, hc1, hc2⟩ := h1
      obtain ⟨x, hx, hq⟩ := h H enc w base sp held n c z hc2
      obtain ⟨h2, h3⟩ := cells_at hc1
      exact ⟨x, ⟨c, by rw [h2, hsz], hx, fun j u hu => by have := h3 j u hu; rwa [add_add', hsz, show i * d.sz + j = (0 + i) * d.sz + j from by rw [Nat.zero_add]] at this⟩, hq⟩
    obtain ⟨xs, hxl, hxs⟩ := exists_list (R := fun i z x => (∃ c, c.length = d.sz ∧ d.K w x c ∧ ∀ j u, c[j]? = some u → w.cell? (a.add (i * d.sz + j)) = some u) ∧ Q H x z.1) elems 0 hex
    have hxn : xs.length = len := by omega
    refine ⟨xs, ⟨some a, cap, by rw [hxn], by omega, rfl, by unfold maxLen at hc; omega, fun _ => ⟨a, rfl, fun j x hx => ?_⟩⟩, Or.inr ⟨_, _, rfl, by simp [hxl], fun i x z hx hz => ?_⟩⟩
    · have hj : j < xs.length := (List.getElem?_eq_some_iff.1 hx).1
      obtain ⟨z, hz⟩ : ∃ z, elems[j]? = some z := ⟨elems[j]'(by omega), List.getElem?_eq_getElem (by omega)⟩
      have := (hxs j z x hz hx).1
      rwa [Nat.zero_add] at this
    · rw [List.getElem?_map, Option.map_eq_some_iff] at hz
      obtain ⟨z', hz', rfl⟩ := hz
      exact (hxs i z' x hz' hx).2
theorem sized_each {α : Type} {H : Type} {ts : List TypeId} {ds : List (DataW H)} (h : (DataW.weightsEach P ts ds).all (· ≤ reachBytes) = true) {j : Nat} {Q : (H : Type) → α → DataW H → Prop} {xs : List α} {y : DataW H}
    (ht : ts[j]? = some t) (hu : P.underlying t = some (.slice e)) (hd : ds[j]? = some y) (hq : Each Q H xs y) : xs.length * P.bytesOf e ≤ 140737488351232 := by
  rcases hq with ⟨rfl, _⟩ | ⟨elems, spare, rfl, hl, _⟩
  · simp
  · have h1 := sized_slice h ht hd hu
    rw [hl] at h1
    have h2 : xs.length * P.bytesOf e ≤ (xs.length + spare.length) * P.bytesOf e := Nat.mul_le_mul_right _ (Nat.le_add_right _ _)
    have h3 : reachBytes = 140737488351232 := rfl
    omega
theorem each_all {α : Type} {H : Type} {Q : (H : Type) → α → DataW H → Prop} {Q' : α → Prop} {xs : List α} {y : DataW H} (hi : ∀ x z, Q H x z → Q' x) (hq : Each Q H xs y) : ∀ x ∈ xs, Q' x := by
  rcases hq with ⟨rfl, _⟩ | ⟨elems, spare, rfl, hl, hel⟩
  · simp
  · intro x hx
    obtain ⟨i, hi', rfl⟩ := List.getElem_of_mem hx
    exact hi _ _ (hel i _ (elems[i]'(by omega)) (List.getElem?_eq_getElem hi') (List.getElem?_eq_getElem (by omega)))
end
end Go.Proofs.YtdjepocklmlnbaaDoor.Open

/- A glyph that can be read as data is what the printer's kind tells of its cells. -/
namespace Go.Proofs.YtdjepocklmlnbaaDoor.Open
open Go.RowKit Go.ChangeShapes Go.Proofs.YtdjepocklmlnbaaDoorW.PrintWords Go.Proofs.YtdjepocklmlnbaaDoorW.PrintLast Go.Proofs.YtdjepocklmlnbaaDoorW.PrintMore Go.Proofs.YtdjepocklmlnbaaDoor.X

def fit44 (x : S44) : Prop := (Lit.int .i32 x.f0).wf = true ∧ (Lit.int .u8 x.f1).wf = true
set_option maxRecDepth 100000 in
theorem opens_S44 : Opens Tryd.prog 44 k44 (fun _ x y => fit44 x ∧ y = .agg [.lit (.int .i32 x.f0), .lit (.int .u8 x.f1)]) := by
  intro H enc w base sp held fuel cs y h
  obtain ⟨y0, y1, n, rfl, hl, h0, h1⟩ := trod_struct2 Tryd.underlying44 h
  rw [show Tryd.prog.cellsOf 44 = 2 by kernel_rfl] at hl
  obtain ⟨p, e0, f0, w0⟩ := DataW.trod_int Tryd.underlying21 h0
  obtain ⟨q, e1, f1, w1⟩ := DataW.trod_int Tryd.underlying5 h1
  rw [show Tryd.prog.cellsOf _ = 1 by kernel_rfl] at e0 e1
  match cs, hl with
  | [u, v], _ =>
    simp at e0 e1
    subst e0 e1
    exact ⟨⟨p, q⟩, k44_mk w ⟨p, q⟩, ⟨w0, w1⟩, by rw [f0, f1]⟩
end Go.Proofs.YtdjepocklmlnbaaDoor.Open

/- Out of what a row lists of the package variables runes.none and runes.wide: the cells that Width reads. -/
namespace Go.Proofs.YtdjepocklmlnbaaDoor.Open
open Go.RowKit Go.Proofs.YtdjepocklmlnbaaDoor.Hand

theorem pair_cells {H : Type} {P : Program} {enc : TypeId × Value → H} {w : World} {base : Nat} {sp : Nat → Bool} {held : Bool} {fuel : Nat} {tE tI : TypeId} {cs : List Value} {y : DataW H × List MemPlace} {a b : Int}
    (hE : P.underlying tE = some (.array 2 tI)) (hI : P.underlying tI = some (.int .i32)) (c1 : P.cellsOf tI = 1)
    (h : DataW.trod enc P w base sp held fuel tE cs = some y) (hy : y.1 = .agg [.lit (.int .i32 a), .lit (.int .i32 b)]) : cs[0]? = some (.int .i32 a) ∧ cs[1]? = some (.int .i32 b) := by
  obtain ⟨xs, m, _, rfl, _, hl, hel⟩ := DataW.trod_array hE h
  have h0 := hel 0 (by omega)
  have h1 := hel 1 (by omega)
  rw [c1, List.getElem?_eq_getElem (by omega)] at h0 h1
  obtain ⟨p, e1, e2, _⟩ := DataW.trod_int hI h0
  obtain ⟨q, f1, f2, _⟩ := DataW.trod_int hI h1
  match xs, hl with
  | [u, v], _ =>
    simp at e2 f2 hy
    subst e2 f2
    simp at hy
    obtain ⟨rfl, rfl⟩ := hy
    constructor
    · have := congrArg (fun l => l[0]?) e1
      simpa [List.getElem?_take, List.getElem?_drop] using this
    · have := congrArg (fun l => l[0]?) f1
      simpa [List.getElem?_take, List.getElem?_drop] using this

theorem pairs_cells {H : Type} {P : Program} {enc : TypeId × Value → H} {w : World} {base : Nat} {sp : Nat → Bool} {held : Bool} {fuel n : Nat} {tA tE tI : TypeId} {cs : List Value} {y : DataW H × List MemPlace} (z : Nat → Int × Int)
    (hA : P.underlying tA = some (.array n tE)) (hE : P.underlying tE = some (.array 2 tI)) (hI : P.underlying tI = some (.int .i32)) (c2 : P.cellsOf tE = 2) (c1 : P.cellsOf tI = 1)
    (h : DataW.trod enc P w base sp held fuel tA cs = some y) (hy : y.1 = .agg ((List.range n).map fun j => .agg [.lit (.int .i32 (z j).1), .lit (.int .i32 (z j).2)])) :
    ∀ j, j < n → cs[j * 2]? = some (.int .i32 (z j).1) ∧ cs[j * 2 + 1]? = some (.int .i32 (z j).2) := by
  intro j hj
  obtain ⟨xs, m, _, rfl, _, hl, hel⟩ := DataW.trod_array hA h
  have h0 := hel j hj
  rw [c2, List.getElem?_eq_getElem (by omega)] at h0
  have e : xs.map (·.1) = (List.range n).map fun j => .agg [.lit (.int .i32 (z j).1), .lit (.int .i32 (z j).2)] := DataW.agg.inj hy
  have ej : (xs[j]'(by omega)).1 = .agg [.lit (.int .i32 (z j).1), .lit (.int .i32 (z j).2)] := by
    have := congrArg (fun l => l[j]?) e
    simp [hj, hl] at this
    exact this
  obtain ⟨k0, k1⟩ := pair_cells hE hI c1 h0 ej
  constructor
  · simpa [List.getElem?_take, List.getElem?_drop] using k0
  · simpa [List.getElem?_take, List.getElem?_drop] using k1

/-- One listed variable's reading. -/
theorem laid_at {P : Program} {w : World} : ∀ {l : List (String × DataW Unit)} {ps : List MemPlace}, DataW.LaidVars P w l ps → ∀ n d, (n, d) ∈ l →
    ∃ g t cs fuel p, P.globalNamed n = some g ∧ (P.globals[g]?).map (·.type) = some t ∧ w.var? P n = some cs ∧ DataW.trod (fun _ => ()) P w 0 (fun _ => true) false fuel t cs.toList = some (d, p)
  | [], _, _, n, d, hm => by cases hm
  | (n', d') :: r, ps, h, n, d, hm => by
    obtain ⟨g, t, cs, fuel, p, q, h1, h2, h3, h4, h5, _⟩ := h
    rcases List.mem_cons.1 hm with e | e
    · cases e
      exact ⟨g, t, cs, fuel, p, h1, h2, h3, h4⟩
    · exact laid_at h5 n d e

theorem cells_table {W : World} {r : List (String × DataW Unit)} (h : laidMet Tryd.prog r W) {name : String} {g tA n : Nat} {d : DataW Unit} {ls : List Int} (hr : (name, d) ∈ r)
    (hg : Tryd.prog.globalNamed name = some g) (ht : (Tryd.prog.globals[g]?).map (·.type) = some tA) (hA : Tryd.prog.underlying tA = some (.array n 84))
    (hd : d = .agg ((List.range n).map fun j => .agg [.lit (.int .i32 (lowAt ls j, highAt ls j).1), .lit (.int .i32 (lowAt ls j, highAt ls j).2)])) :
    ∀ j, j < n → W.cell? ⟨g, j * 2, none⟩ = some (.int .i32 (lowAt ls j)) ∧ W.cell? ⟨g, j * 2 + 1, none⟩ = some (.int .i32 (highAt ls j)) := by
  obtain ⟨ps, hl, _, _⟩ := h
  obtain ⟨g', t', cs, fuel, p, e1, e2, hv, hd'⟩ := laid_at hl _ _ hr
  obtain rfl := Option.some.inj (hg.symm.trans e1)
  obtain rfl := Option.some.inj (ht.symm.trans e2)
  intro j hj
  have := pairs_cells (fun j => (lowAt ls j, highAt ls j)) hA Tryd.underlying84 Tryd.underlying21 (by kernel_rfl) (by kernel_rfl) hd' hd j hj
  rw [Array.getElem?_toList, Array.getElem?_toList] at this
  exact ⟨(World.var?_cell hg hv _).trans this.1, (World.var?_cell hg hv _).trans this.2⟩

theorem tables_of_laid {W : World} {r : List (String × DataW Unit)} (h : laidMet Tryd.prog r W) (h1 : ("flong/runes.none", Rows.laid_flong_runes_none) ∈ r) (h2 : ("flong/runes.wide", Rows.laid_flong_runes_wide) ∈ r) :
    (∀ j, j < 24 → W.cell? ⟨2, j, none⟩ = some (.int .i32 (noneL.getD j 0))) ∧ (∀ j, j < 32 → W.cell? ⟨3, j, none⟩ = some (.int .i32 (wideL.getD j 0))) := by
  have a := cells_table (ls := noneL) h h1 (g := 2) (by kernel_rfl) (by kernel_rfl) Tryd.underlying85 (by rfl)
  have b := cells_table (ls := wideL) h h2 (g := 3) (by kernel_rfl) (by kernel_rfl) Tryd.underlying86 (by rfl)
  constructor
  · intro j hj
    obtain ⟨q, hq | hq⟩ : ∃ q, j = q * 2 ∨ j = q * 2 + 1 := ⟨j / 2, by omega⟩
    · subst hq
      exact (a q (by omega)).1
    · subst hq
      exact (a q (by omega)).2
  · intro j hj
    obtain ⟨q, hq | hq⟩ : ∃ q, j = q * 2 ∨ j = q * 2 + 1 := ⟨j / 2, by omega⟩
    · subst hq
      exact (b q (by omega)).1
    · subst hq
      exact (b q (by omega)).2
end Go.Proofs.YtdjepocklmlnbaaDoor.Open

/- What a row of this seat lists gives all that the walks ask of the package variables. -/
namespace Go.Proofs.YtdjepocklmlnbaaDoor.Open
open Go.RowKit Go.ChangeShapes Go.Proofs.YtdjepocklmlnbaaDoor.Hand
theorem glob0 {W : World} {r : List (String × DataW Unit)} (h : laidMet Tryd.prog r W) (h1 : ("flong/runes.none", Rows.laid_flong_runes_none) ∈ r) (h2 : ("flong/runes.wide", Rows.laid_flong_runes_wide) ∈ r) : Glob 0 W :=
  have t := tables_of_laid h h1 h2
  ⟨t.1, t.2⟩
theorem glob1 {W : World} {r : List (String × DataW Unit)} (h : laidMet Tryd.prog r W) (h1 : ("flong/cells.blank", Rows.laid_flong_cells_blank) ∈ r) : Glob 1 W := by
  obtain ⟨ps, hl, _, _⟩ := h
  obtain ⟨g', t', cs, fuel, p, e1, e2, hv, hd'⟩ := laid_at hl _ _ h1
  obtain rfl := Option.some.inj ((show Tryd.prog.globalNamed "flong/cells.blank" = some 1 by kernel_rfl).symm.trans e1)
  obtain rfl := Option.some.inj ((show (Tryd.prog.globals[1]?).map (·.type) = some 44 by kernel_rfl).symm.trans e2)
  have hg : Tryd.prog.globalNamed "flong/cells.blank" = some 1 := by kernel_rfl
  obtain ⟨y0, y1, n, hy, hl', h0, h1⟩ := trod_struct2 Tryd.underlying44 hd'
  rw [show Tryd.prog.cellsOf 44 = 2 by kernel_rfl] at hl'
  obtain ⟨p0, e0, f0, _⟩ := DataW.trod_int Tryd.underlying21 h0
  obtain ⟨q0, e1, f1, _⟩ := DataW.trod_int Tryd.underlying5 h1
  rw [show Tryd.prog.cellsOf _ = 1 by kernel_rfl] at e0 e1
  have hy1 : Rows.laid_flong_cells_blank = DataW.agg [y0.1, y1.1] := congrArg Prod.fst hy
  rw [f0, f1] at hy1
  simp [Rows.laid_flong_cells_blank] at hy1
  obtain ⟨rfl, rfl⟩ := hy1
  match hcs : cs.toList, hl' with
  | [u, v], _ =>
    rw [hcs] at e0 e1
    simp at e0 e1
    subst e0 e1
    have c0 : cs[0]? = some (.int .i32 32) := by rw [← Array.getElem?_toList, hcs]; rfl
    have c1 : cs[1]? = some (.int .u8 0) := by rw [← Array.getElem?_toList, hcs]; rfl
    exact ⟨(World.var?_cell hg hv _).trans c0, (World.var?_cell hg hv _).trans c1⟩
set_option maxRecDepth 100000 in
theorem glob2 {W : World} {r : List (String × DataW Unit)} (h : laidMet Tryd.prog r W) (h1 : ("flong/ansi.signs", Rows.laid_flong_ansi_signs) ∈ r) : Glob 2 W := by
  obtain ⟨ps, hl, _, _⟩ := h
  obtain ⟨g', t', cs, fuel, p, e1, e2, hv, hd'⟩ := laid_at hl _ _ h1
  obtain rfl := Option.some.inj ((show Tryd.prog.globalNamed "flong/ansi.signs" = some 0 by kernel_rfl).symm.trans e1)
  obtain rfl := Option.some.inj ((show (Tryd.prog.globals[0]?).map (·.type) = some 56 by kernel_rfl).symm.trans e2)
  have hg : Tryd.prog.globalNamed "flong/ansi.signs" = some 0 := by kernel_rfl
  obtain ⟨xs, m, _, hx, _, hl4, hel⟩ := DataW.trod_array Tryd.underlying56 hd'
  have hm : Rows.laid_flong_ansi_signs = DataW.agg (xs.map (·.1)) := congrArg Prod.fst hx
  have hmap : xs.map (·.1) = [.lit (.string [27, 91, 48, 109]), .lit (.string [27, 91, 49, 109]), .lit (.string [27, 91, 52, 109]), .lit (.string [27, 91, 49, 59, 52, 109])] := (DataW.agg.inj hm).symm
  intro i hi
  have h0 := hel i hi
  rw [show Tryd.prog.cellsOf 9 = 1 by kernel_rfl, Nat.mul_one, List.getElem?_eq_getElem (by omega)] at h0
  obtain ⟨s, es, ex, _⟩ := DataW.trod_string Tryd.underlying9 h0
  have hq : (xs.map (·.1))[i]? = some (.lit (.string s.data.toList)) := by rw [List.getElem?_map, List.getElem?_eq_getElem (by omega), ex]; rfl
  rw [hmap] at hq
  have hs : s = signS i := by
    apply ByteArray.ext
    apply Array.ext'
    have hcases : i = 0 ∨ i = 1 ∨ i = 2 ∨ i = 3 := by omega
    rcases hcases with rfl | rfl | rfl | rfl <;> (simp at hq; rw [← hq]; rfl)
  have hc : cs.toList[i]? = some (.string s) := by
    have := congrArg (fun l => l[0]?) es
    simpa [List.getElem?_take, List.getElem?_drop] using this
  exact (World.var?_cell hg hv _).trans (by rw [← Array.getElem?_toList, hc, hs])
end Go.Proofs.YtdjepocklmlnbaaDoor.Open
