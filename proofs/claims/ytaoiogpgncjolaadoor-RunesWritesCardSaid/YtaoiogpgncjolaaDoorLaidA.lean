/- Out of what a row lists of the package variables runes.none and runes.wide: the cells that Width reads. -/
import Derived.Test.YtaoiogpgncjolaaDoorHand02b
import Derived.Test.YtaoiogpgncjolaaDoorOpenKd
import Derived.LaidMore
namespace Go.Proofs.YtaoiogpgncjolaaDoor.Open
open Go.RowKit Go.Proofs.YtaoiogpgncjolaaDoor.Hand

theorem pair_cells {H : Type} {P : Program} {enc : TypeId × Value → H} {w : World} {base : Nat} {sp : Nat → Bool} {held : Bool} {fuel : Nat} {tE tI : TypeId} {cs : List Value} {y : DataW H × List MemPlace} {a b : Int}
    (hE : P.underlying tE = some (.array 2 tI)) (hI : P.underlying tI = some (.int .i32)) (c1 : P.cellsOf tI = 1)
    (h : DataW.trod enc P w base sp held fuel tE cs = some y) (hy : y.1 = .agg [.lit (.int .i32 a), .lit (.int .i32 b)]) : cs[0]? = some (.int .i32 a) ∧ cs[1]? = some (.int .i32 b) := by
  obtain ⟨xs, m, _, rfl, _, hl, hel⟩ := DataW.trod_array hE h
  have h0 := hel 0 (by omega)
  have h1 := hel 1 (by omega)
  rw [c1, List.getElem?_eq_getElem (by omega)] at h0 h1
  obtain ⟨p, e1, e2, _⟩ := DataW.trod_int hI h0
  obtain ⟨q, f1, f2, _⟩ := DataW.trod_int hI h1
  match xs, hl with
  | [u, v], _ =>
    simp at e2 f2 hy
    subst e2 f2
    simp at hy
    obtain ⟨rfl, rfl⟩ := hy
    constructor
    · have := congrArg (fun l => l[0]?) e1
      simpa [List.getElem?_take, List.getElem?_drop] using this
    · have := congrArg (fun l => l[0]?) f1
      simpa [List.getElem?_take, List.getElem?_drop] using this

theorem pairs_cells {H : Type} {P : Program} {enc : TypeId × Value → H} {w : World} {base : Nat} {sp : Nat → Bool} {held : Bool} {fuel n : Nat} {tA tE tI : TypeId} {cs : List Value} {y : DataW H × List MemPlace} (z : Nat → Int × Int)
    (hA : P.underlying tA = some (.array n tE)) (hE : P.underlying tE = some (.array 2 tI)) (hI : P.underlying tI = some (.int .i32)) (c2 : P.cellsOf tE = 2) (c1 : P.cellsOf tI = 1)
    (h : DataW.trod enc P w base sp held fuel tA cs = some y) (hy : y.1 = .agg ((List.range n).map fun j => .agg [.lit (.int .i32 (z j).1), .lit (.int .i32 (z j).2)])) :
    ∀ j, j < n → cs[j * 2]? = some (.int .i32 (z j).1) ∧ cs[j * 2 + 1]? = some (.int .i32 (z j).2) := by
  intro j hj
  obtain ⟨xs, m, _, rfl, _, hl, hel⟩ := DataW.trod_array hA h
  have h0 := hel j hj
  rw [c2, List.getElem?_eq_getElem (by omega)] at h0
  have e : xs.map (·.1) = (List.range n).map fun j => .agg [.lit (.int .i32 (z j).1), .lit (.int .i32 (z j).2)] := DataW.agg.inj hy
  have ej : (xs[j]'(by omega)).1 = .agg [.lit (.int .i32 (z j).1), .lit (.int .i32 (z j).2)] := by
    have := congrArg (fun l => l[j]?) e
    simp [hj, hl] at this
    exact this
  obtain ⟨k0, k1⟩ := pair_cells hE hI c1 h0 ej
  constructor
  · simpa [List.getElem?_take, List.getElem?_drop] using k0
  · simpa [List.getElem?_take, List.getElem?_drop] using k1

/-- One listed variable's reading. -/
theorem laid_at {P : Program} {w : World} : ∀ {l : List (String × DataW Unit)} {ps : List MemPlace}, DataW.LaidVars P w l ps → ∀ n d, (n, d) ∈ l →
    ∃ g t cs fuel p, P.globalNamed n = some g ∧ (P.globals[g]?).map (·.type) = some t ∧ w.var? P n = some cs ∧ DataW.trod (fun _ => ()) P w 0 (fun _ => true) false fuel t cs.toList = some (d, p)
  | [], _, _, n, d, hm => by cases hm
  | (n', d') :: r, ps, h, n, d, hm => by
    obtain ⟨g, t, cs, fuel, p, q, h1, h2, h3, h4, h5, _⟩ := h
    rcases List.mem_cons.1 hm with e | e
    · cases e
      exact ⟨g, t, cs, fuel, p, h1, h2, h3, h4⟩
    · exact laid_at h5 n d e

theorem cells_table {W : World} {r : List (String × DataW Unit)} (h : laidMet Tryd.prog r W) {name : String} {g tA n : Nat} {d : DataW Unit} {ls : List Int} (hr : (name, d) ∈ r)
    (hg : Tryd.prog.globalNamed name = some g) (ht : (Tryd.prog.globals[g]?).map (·.type) = some tA) (hA : Tryd.prog.underlying tA = some (.array n 43))
    (hd : d = .agg ((List.range n).map fun j => .agg [.lit (.int .i32 (lowAt ls j, highAt ls j).1), .lit (.int .i32 (lowAt ls j, highAt ls j).2)])) :
    ∀ j, j < n → W.cell? ⟨g, j * 2, none⟩ = some (.int .i32 (lowAt ls j)) ∧ W.cell? ⟨g, j * 2 + 1, none⟩ = some (.int .i32 (highAt ls j)) := by
  obtain ⟨ps, hl, _, _⟩ := h
  obtain ⟨g', t', cs, fuel, p, e1, e2, hv, hd'⟩ := laid_at hl _ _ hr
  obtain rfl := Option.some.inj (hg.symm.trans e1)
  obtain rfl := Option.some.inj (ht.symm.trans e2)
  intro j hj
  have := pairs_cells (fun j => (lowAt ls j, highAt ls j)) hA Tryd.underlying43 Tryd.underlying21 (by kernel_rfl) (by kernel_rfl) hd' hd j hj
  rw [Array.getElem?_toList, Array.getElem?_toList] at this
  exact ⟨(World.var?_cell hg hv _).trans this.1, (World.var?_cell hg hv _).trans this.2⟩

theorem tables_of_laid {W : World} {r : List (String × DataW Unit)} (h : laidMet Tryd.prog r W) (h1 : ("flong/runes.none", Rows.laid_flong_runes_none) ∈ r) (h2 : ("flong/runes.wide", Rows.laid_flong_runes_wide) ∈ r) :
    (∀ j, j < 24 → W.cell? ⟨0, j, none⟩ = some (.int .i32 (noneL.getD j 0))) ∧ (∀ j, j < 32 → W.cell? ⟨1, j, none⟩ = some (.int .i32 (wideL.getD j 0))) := by
  have a := cells_table (ls := noneL) h h1 (g := 0) (by kernel_rfl) (by kernel_rfl) Tryd.underlying44 (by rfl)
  have b := cells_table (ls := wideL) h h2 (g := 1) (by kernel_rfl) (by kernel_rfl) Tryd.underlying45 (by rfl)
  constructor
  · intro j hj
    obtain ⟨q, hq | hq⟩ : ∃ q, j = q * 2 ∨ j = q * 2 + 1 := ⟨j / 2, by omega⟩
    · subst hq
      exact (a q (by omega)).1
    · subst hq
      exact (a q (by omega)).2
  · intro j hj
    obtain ⟨q, hq | hq⟩ : ∃ q, j = q * 2 ∨ j = q * 2 + 1 := ⟨j / 2, by omega⟩
    · subst hq
      exact (b q (by omega)).1
    · subst hq
      exact (b q (by omega)).2
end Go.Proofs.YtaoiogpgncjolaaDoor.Open
