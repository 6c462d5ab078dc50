/- SpecN: several of this session's texts in one. -/
import Derived.Test.YtfdfjlichpjobaaDoorRRSpecA
import Derived.Test.YtfdfjlichpjobaaDoorRRX3
import Derived.Test.YtfdfjlichpjobaaDoorRRX2
import Derived.Test.YtfdfjlichpjobaaDoorRRX5
import Derived.Test.YtfdfjlichpjobaaDoorRRX7
import Derived.Test.YtfdfjlichpjobaaDoorRRX8
import Derived.Test.YtfdfjlichpjobaaDoorRRHandL
/- What may be written of a row. -/
namespace Go.Proofs.YtfdfjlichpjobaaDoorRR.Pure
open Go.RowKit Go.Proofs.YtfdfjlichpjobaaDoorRRW.PrintWords Go.Proofs.YtfdfjlichpjobaaDoorRRW.PrintLast Go.Proofs.YtfdfjlichpjobaaDoorRRW.PrintMore Go.Proofs.YtfdfjlichpjobaaDoorRR.X Go.Proofs.YtfdfjlichpjobaaDoorRR.Hand
set_option linter.unusedSimpArgs false
set_option linter.unusedVariables false
/-- One glyph, as it may be written. -/
def cleanG (g : Gl) : Gl := ⟨safe (if g.f0 = 160 then 32 else g.f0), Go.bits .and .u8 g.f1 3⟩
def clean (l : List Gl) : List Gl := (l.map cleanG).dropWhile (fun g => !decide (wid g.f0 > 0))
theorem clean_ev (l : List Gl) (h : l.length < 17592186044416) : Ev (fun k => cells_Clean.f k l) (clean l) := by
  unfold cells_Clean.f
  refine ev_eq (loop_up (fun k o i => cells_Clean.l0 k o l (l.length : Int) i) l.length (fun o i => if o = [] then clean (l.drop i) else o ++ (l.drop i).map cleanG) (fun o i => o.length ≤ i) ?_ ?_ [] 0 (by omega) (by simp)) (by simp)
  · intro o _
    refine Ev.step (f := fun _ => some o) (fun k => by simp only [cells_Clean.l0]; rw [if_neg (by omega)]) (ev_eq (Ev.now _) ?_)
    rw [List.drop_length]
    split
    · rename_i e
      rw [e]
      rfl
    · simp
  · intro o i hi ho ih
    have hj : ∀ x : Int, (if l[i].f0 = 160 then 32 else l[i].f0) = x → Ev (fun k => cells_Clean.j1 k o l (l.length : Int) (i : Int) x l[i].f1) (if o = [] then clean (l.drop i) else o ++ (l.drop i).map cleanG) := by
      intro x hx
      have hg : cleanG l[i] = ⟨safe x, Go.bits .and .u8 l[i].f1 3⟩ := by rw [cleanG, hx]
      refine Ev.step (f := fun k => (runes_Safe.f k x).bind fun t => (if (o.length : Int) > 0 then (cells_Clean.l0 k (o ++ [(⟨t, Go.bits .and .u8 l[i].f1 3⟩ : Gl)]) l (l.length : Int) ((i + 1 : Nat) : Int)) else (if wid t > 0 then (cells_Clean.l0 k (o ++ [(⟨t, Go.bits .and .u8 l[i].f1 3⟩ : Gl)]) l (l.length : Int) ((i + 1 : Nat) : Int)) else (cells_Clean.l0 k o l (l.length : Int) ((i + 1 : Nat) : Int))))) (fun k => ?_) ?_
      · simp only [cells_Clean.j1]
        rw [wrap_up hi (by omega)]
        congr 1
        funext t
        rw [show runes_Width.f t = some (wid t) from rfl, Option.bind_some, if_pos (show o.length < 17592186044416 by omega)]
      · refine Ev.bind (safe_ev x) ?_
        rw [← hg]
        have h1 : Ev (fun k => cells_Clean.l0 k (o ++ [cleanG l[i]]) l (l.length : Int) ((i + 1 : Nat) : Int)) (o ++ cleanG l[i] :: (l.drop (i + 1)).map cleanG) := by
          refine ev_eq (ih (o ++ [cleanG l[i]]) (by simp; omega)) ?_
          rw [if_neg (by simp), List.append_assoc]
          rfl
        refine ev_ite (fun hc => ev_eq h1 ?_) (fun hc => ?_)
        · rw [if_neg (by intro e; rw [e] at hc; simp at hc), List.drop_eq_getElem_cons hi, List.map_cons]
        · obtain rfl : o = [] := by
            rcases o with _ | ⟨_, _⟩
            · rfl
            · exfalso
              apply hc
              simp only [List.length_cons]
              omega
          rw [if_pos rfl]
          have hw : wid (safe x) = wid (cleanG l[i]).f0 := by rw [hg]
          rw [hw]
          refine ev_ite (fun hp => ev_eq h1 ?_) (fun hp => ev_eq (ih [] (by simp)) ?_)
          · rw [List.drop_eq_getElem_cons hi, clean, List.map_cons, List.dropWhile_cons, if_neg (by simp [hp])]
            rfl
          · rw [if_pos rfl, List.drop_eq_getElem_cons hi, clean, clean, List.map_cons, List.dropWhile_cons, if_pos (by simp [hp])]
    refine Ev.step (f := fun k => if l[i].f0 = 160 then cells_Clean.j1 k o l (l.length : Int) (i : Int) 32 l[i].f1 else cells_Clean.j1 k o l (l.length : Int) (i : Int) l[i].f0 l[i].f1) (fun k => ?_) ?_
    · simp only [cells_Clean.l0]
      rw [if_pos (by omega), if_pos (by omega), if_pos (by omega), rdG l i hi]
    · exact ev_ite (fun hc => hj 32 (if_pos hc)) (fun hc => hj _ (if_neg hc))
end Go.Proofs.YtfdfjlichpjobaaDoorRR.Pure

/- What may be written: plainly. -/
namespace Go.Proofs.YtfdfjlichpjobaaDoorRR.Pure
open Go.RowKit Go.Proofs.YtfdfjlichpjobaaDoorRRW.PrintWords Go.Proofs.YtfdfjlichpjobaaDoorRRW.PrintLast Go.Proofs.YtfdfjlichpjobaaDoorRRW.PrintMore Go.Proofs.YtfdfjlichpjobaaDoorRR.X Go.Proofs.YtfdfjlichpjobaaDoorRR.Hand
set_option linter.unusedSimpArgs false
set_option linter.unusedVariables false
theorem safe_160 {x : Int} (h : x ≠ 160) : safe x ≠ 160 := by
  unfold safe
  split
  · exact h
  · decide
theorem and3 {x : Int} (h : 0 ≤ x ∧ x ≤ 255) : 0 ≤ Go.bits .and .u8 x 3 ∧ Go.bits .and .u8 x 3 ≤ 3 ∧ Go.bits .and .u8 (Go.bits .and .u8 x 3) 3 = Go.bits .and .u8 x 3 := by
  have h1 : ∀ n : Nat, n < 256 → 0 ≤ Go.bits .and .u8 (n : Int) 3 ∧ Go.bits .and .u8 (n : Int) 3 ≤ 3 ∧ Go.bits .and .u8 (Go.bits .and .u8 (n : Int) 3) 3 = Go.bits .and .u8 (n : Int) 3 := by decide +kernel
  obtain ⟨n, rfl⟩ := Int.eq_ofNat_of_zero_le h.1
  exact h1 n (by omega)
/-- Cleaned: what it is. -/
def Cl (g : Gl) : Prop := safe g.f0 = g.f0 ∧ g.f0 ≠ 160 ∧ 0 ≤ g.f1 ∧ g.f1 ≤ 3 ∧ Go.bits .and .u8 g.f1 3 = g.f1
theorem cleanG_Cl (g : Gl) (h : 0 ≤ g.f1 ∧ g.f1 ≤ 255) : Cl (cleanG g) := by
  have h3 := and3 h
  refine ⟨safe_safe _, safe_160 ?_, h3.1, h3.2.1, h3.2.2⟩
  split
  · decide
  · assumption
theorem cleanG_self {g : Gl} (h : Cl g) : cleanG g = g := by
  unfold cleanG
  rw [if_neg h.2.1, h.1, h.2.2.2.2]
theorem map_self {l : List Gl} (h : ∀ g ∈ l, Cl g) : l.map cleanG = l := by
  induction l with
  | nil => rfl
  | cons g l ih => rw [List.map_cons, cleanG_self (h g (by simp)), ih (fun x hx => h x (by simp [hx]))]
theorem clean_Cl (l : List Gl) (h : ∀ g ∈ l, 0 ≤ g.f1 ∧ g.f1 ≤ 255) : ∀ g ∈ clean l, Cl g := by
  intro g hg
  have := (List.dropWhile_sublist _).subset hg
  obtain ⟨x, hx, rfl⟩ := List.mem_map.1 this
  exact cleanG_Cl x (h x hx)
theorem dropWhile_twice {α : Type} (p : α → Bool) : ∀ l : List α, (l.dropWhile p).dropWhile p = l.dropWhile p
  | [] => rfl
  | a :: l => by
    rw [List.dropWhile_cons]
    split
    · exact dropWhile_twice p l
    · rename_i h
      rw [List.dropWhile_cons, if_neg h]
theorem dropWhile_head {α : Type} (p : α → Bool) : ∀ l : List α, ∀ h : 0 < (l.dropWhile p).length, p (l.dropWhile p)[0] = false
  | [], h => by simp at h
  | a :: l, h => by
    by_cases hp : p a = true
    · have e : (a :: l).dropWhile p = l.dropWhile p := by rw [List.dropWhile_cons, if_pos hp]
      simp only [e] at h ⊢
      exact dropWhile_head p l h
    · have e : (a :: l).dropWhile p = a :: l := by rw [List.dropWhile_cons, if_neg hp]
      simp only [e]
      simpa using hp
theorem clean_clean (l : List Gl) (h : ∀ g ∈ l, 0 ≤ g.f1 ∧ g.f1 ≤ 255) : clean (clean l) = clean l := by
  show ((clean l).map cleanG).dropWhile (fun g => !decide (wid g.f0 > 0)) = clean l
  rw [map_self (clean_Cl l h)]
  unfold clean
  exact dropWhile_twice _ _
theorem clean_length (l : List Gl) : (clean l).length ≤ l.length := by
  have := (List.dropWhile_sublist (fun g : Gl => !decide (wid g.f0 > 0)) (l := l.map cleanG)).length_le
  simpa [clean] using this
theorem clean_head (l : List Gl) (h : 0 < (clean l).length) : wid ((clean l)[0]).f0 ≠ 0 := by
  have := dropWhile_head (fun g : Gl => !decide (wid g.f0 > 0)) (l.map cleanG) h
  simp at this
  have h2 : 0 < wid ((clean l)[0]).f0 := this
  omega
end Go.Proofs.YtfdfjlichpjobaaDoorRR.Pure

/- Whether two rows of glyphs are the same. -/
namespace Go.Proofs.YtfdfjlichpjobaaDoorRR.Pure
open Go.RowKit Go.Proofs.YtfdfjlichpjobaaDoorRRW.PrintWords Go.Proofs.YtfdfjlichpjobaaDoorRRW.PrintLast Go.Proofs.YtfdfjlichpjobaaDoorRRW.PrintMore Go.Proofs.YtfdfjlichpjobaaDoorRR.X
set_option linter.unusedSimpArgs false
set_option linter.unusedVariables false
theorem gsame_ev (a b : List Gl) (h : a.length ≤ 9223372036854775807) : Ev (fun k => flongref03_Same.f k a b) (decide (a = b)) := by
  unfold flongref03_Same.f
  refine ev_ite (fun hl => ?_) (fun hl => ev_eq (Ev.now _) (by symm; rw [decide_eq_false_iff_not]; intro e; exact hl (by rw [e])))
  have hl' : a.length = b.length := by omega
  refine ev_eq (loop_up (σ := Unit) (fun k _ i => flongref03_Same.l0 k a b i) a.length (fun _ i => decide (a.drop i = b.drop i)) (fun _ _ => True) ?_ ?_ () 0 (by omega) trivial) (by simp)
  · intro _ _
    exact Ev.step (f := fun _ => some true) (fun k => by simp only [flongref03_Same.l0]; rw [if_neg (by omega)]) (ev_eq (Ev.now _) (by simp [hl']))
  · intro _ i hi _ ih
    refine Ev.step (f := fun k => if (!((a[i].f0) == (b[i].f0)) || (!((a[i].f1) == (b[i].f1)))) = true then some false else flongref03_Same.l0 k a b ((i + 1 : Nat) : Int)) (fun k => ?_) ?_
    · simp only [flongref03_Same.l0]
      rw [if_pos (by omega), if_pos (by omega), if_pos (by omega), rdG a i hi, rdG b i (by omega), wrap_up hi h]
    · refine ev_ite (fun hc => ev_eq (Ev.now _) ?_) (fun hc => ev_eq (ih () trivial) ?_)
      · symm
        rw [decide_eq_false_iff_not, drop_ne hi (by omega)]
        exact fun e => (gl_ne _ _).1 hc e.1
      · have e : a[i] = b[i] := Decidable.of_not_not fun e => hc ((gl_ne _ _).2 e)
        simp only [drop_ne hi (show i < b.length by omega), e, true_and]
theorem gsame_true {a b : List Gl} (e : a = b) (h : a.length ≤ 9223372036854775807) : Ev (fun k => flongref03_Same.f k a b) true := ev_eq (gsame_ev a b h) (by simp [e])
end Go.Proofs.YtfdfjlichpjobaaDoorRR.Pure

/- Rows of rows of glyphs: the same. -/
namespace Go.Proofs.YtfdfjlichpjobaaDoorRR.Pure
open Go.RowKit Go.Proofs.YtfdfjlichpjobaaDoorRRW.PrintWords Go.Proofs.YtfdfjlichpjobaaDoorRRW.PrintLast Go.Proofs.YtfdfjlichpjobaaDoorRRW.PrintMore Go.Proofs.YtfdfjlichpjobaaDoorRR.X
set_option linter.unusedSimpArgs false
set_option linter.unusedVariables false
theorem rdL (l : List (List Gl)) (i : Nat) (h : i < l.length) : rd_L3 l (i : Int) = l[i] := by
  simp [rd_L3, List.getD_eq_getElem?_getD, List.getElem?_eq_getElem h]
theorem samerows_true (a : List (List Gl)) (h : a.length ≤ 5000) (h2 : ∀ r ∈ a, r.length ≤ 5000) : Ev (fun k => flongref03_SameRows.f k a a) true := by
  unfold flongref03_SameRows.f
  refine ev_pos rfl ?_
  refine loop_up (σ := Unit) (fun k _ i => flongref03_SameRows.l0 k a a i) a.length (fun _ _ => true) (fun _ _ => True) ?_ ?_ () 0 (by omega) trivial
  · intro _ _
    exact Ev.step (f := fun _ => some true) (fun k => by simp only [flongref03_SameRows.l0]; rw [if_neg (by omega)]) (Ev.now _)
  · intro _ i hi _ ih
    refine Ev.step (f := fun k => (flongref03_Same.f k a[i] a[i]).bind fun t => if t = true then flongref03_SameRows.l0 k a a ((i + 1 : Nat) : Int) else some false) (fun k => ?_) ?_
    · simp only [flongref03_SameRows.l0]
      rw [if_pos (by omega), if_pos (by omega), if_pos (by omega), rdL a i hi, wrap_up hi (by omega)]
    · have := h2 a[i] (List.getElem_mem hi)
      exact Ev.bind (gsame_true rfl (by omega)) (ev_pos rfl (ih () trivial))
end Go.Proofs.YtfdfjlichpjobaaDoorRR.Pure

/- The references of layer 2 that look at one rune. -/
namespace Go.Proofs.YtfdfjlichpjobaaDoorRR.Pure
open Go.RowKit Go.Proofs.YtfdfjlichpjobaaDoorRRW.PrintWords Go.Proofs.YtfdfjlichpjobaaDoorRRW.PrintLast Go.Proofs.YtfdfjlichpjobaaDoorRRW.PrintMore Go.Proofs.YtfdfjlichpjobaaDoorRR.X Go.Proofs.YtfdfjlichpjobaaDoorRR.Hand
set_option linter.unusedSimpArgs false
set_option linter.unusedVariables false
theorem rvalid_eq (a : Int) : flongref02_Valid.f a = some (validB a) := by
  unfold flongref02_Valid.f
  by_cases h1 : a ≥ 0 <;> by_cases h2 : a < 1114112 <;> by_cases h3 : a < 55296 <;> simp only [h1, h2, h3, if_true, if_false] <;> congr 1 <;> (rw [Bool.eq_iff_iff]; simp [validB]; omega)
theorem rcontrol_eq (a : Int) : flongref02_Control.f a = some (controlB a) := by
  unfold flongref02_Control.f
  by_cases h1 : a ≥ 0 <;> by_cases h2 : a ≤ 31 <;> by_cases h3 : a ≥ 127 <;> by_cases h4 : a ≤ 159 <;> by_cases h5 : a = 8232 <;> simp only [h1, h2, h3, h4, h5, if_true, if_false] <;> congr 1 <;> (rw [Bool.eq_iff_iff]; simp [controlB]; omega)
theorem rsafe_eq (a : Int) : flongref02_Safe.f a = some (safe a) := by
  unfold flongref02_Safe.f
  rw [rvalid_eq, Option.bind_some]
  by_cases h1 : validB a = true
  · rw [if_pos h1, rcontrol_eq, Option.bind_some]
    cases h2 : controlB a <;> simp [safe, h1, h2]
  · rw [if_neg h1]
    simp [safe, h1]
theorem within_step (r : Int) (ls : List Int) (n : Nat) (hn : ls.length = 2 * n) (hs : n ≤ 1000) (i : Nat) (hlt : i < n) (k : Nat) : flongref02_within.l0 (k + 1) r ls ((2 * i : Nat) : Int) =
    if r ≥ lowAt ls i then (if r ≤ highAt ls i then some true else flongref02_within.l0 k r ls ((2 * (i + 1) : Nat) : Int)) else flongref02_within.l0 k r ls ((2 * (i + 1) : Nat) : Int) := by
  have e0 : rd ls ((2 * i : Nat) : Int) = lowAt ls i := by
    rw [rd_nat ls (2 * i) (by omega)]
    simp [lowAt, List.getD_eq_getElem?_getD, Nat.mul_comm i 2, List.getElem?_eq_getElem (show 2 * i < ls.length by omega)]
  have e1 : rd ls (((2 * i : Nat) : Int) + 1) = highAt ls i := by
    rw [show ((2 * i : Nat) : Int) + 1 = ((2 * i + 1 : Nat) : Int) from by omega, rd_nat ls (2 * i + 1) (by omega)]
    simp [highAt, List.getD_eq_getElem?_getD, Nat.mul_comm i 2, List.getElem?_eq_getElem (show 2 * i + 1 < ls.length by omega)]
  simp only [flongref02_within.l0]
  rw [wrap_of (x := ((2 * i : Nat) : Int) + 1) (by omega) (by omega), wrap_of (x := ((2 * i : Nat) : Int) + 2) (by omega) (by omega), if_pos (by omega), if_pos (by omega), if_pos (by omega), e0, e1, show ((2 * i : Nat) : Int) + 2 = ((2 * (i + 1) : Nat) : Int) from by omega]
  split
  · rw [if_pos (by omega)]
  · rfl
theorem within_end (r : Int) (ls : List Int) (n : Nat) (hn : ls.length = 2 * n) (hs : n ≤ 1000) (k : Nat) : flongref02_within.l0 (k + 1) r ls ((2 * n : Nat) : Int) = some false := by
  simp only [flongref02_within.l0]
  rw [wrap_of (by omega) (by omega), if_neg (by omega)]
theorem part_range (r : Int) (ls : List Int) (n i : Nat) (hlt : i < n) : (∃ j, i ≤ j ∧ j < n ∧ lowAt ls j ≤ r ∧ r ≤ highAt ls j) ↔ (lowAt ls i ≤ r ∧ r ≤ highAt ls i) ∨ ∃ j, i + 1 ≤ j ∧ j < n ∧ lowAt ls j ≤ r ∧ r ≤ highAt ls j := by
  constructor
  · rintro ⟨j, h1, h2, h3⟩
    by_cases e : j = i
    · subst e; exact .inl h3
    · exact .inr ⟨j, by omega, h2, h3⟩
  · rintro (h | ⟨j, h1, h2, h3⟩)
    · exact ⟨i, Nat.le_refl _, hlt, h⟩
    · exact ⟨j, by omega, h2, h3⟩
theorem within_l (r : Int) (ls : List Int) (n : Nat) (hn : ls.length = 2 * n) (hs : n ≤ 1000) : ∀ (d i : Nat), n - i = d → i ≤ n → ∀ b : Bool, (b = true ↔ ∃ j, i ≤ j ∧ j < n ∧ lowAt ls j ≤ r ∧ r ≤ highAt ls j) → Ev (fun k => flongref02_within.l0 k r ls ((2 * i : Nat) : Int)) b := by
  intro d
  induction d with
  | zero =>
    intro i hd hi b hb
    obtain rfl : i = n := by clear hb; omega
    refine Ev.step (f := fun _ => some false) (fun k => within_end r ls i hn hs k) (ev_eq (Ev.now _) ?_)
    cases b with
    | false => rfl
    | true =>
      obtain ⟨j, h1, h2, _⟩ := hb.1 rfl
      exact absurd h2 (Nat.not_lt.2 h1)
  | succ d ih =>
    intro i hd hi b hb
    have hlt : i < n := by clear hb; omega
    have hnext := ih (i + 1) (by clear hb; omega) (by clear hb; omega)
    refine Ev.step (within_step r ls n hn hs i hlt) ?_
    refine ev_ite (fun h => ev_ite (fun h' => ev_eq (Ev.now _) ?_) (fun h' => hnext b ?_)) (fun h => hnext b ?_)
    · exact ((hb.trans (part_range r ls n i hlt)).2 (.inl ⟨h, h'⟩)).symm
    · rw [hb, part_range r ls n i hlt]
      exact ⟨fun z => z.resolve_left (fun q => h' q.2), .inr⟩
    · rw [hb, part_range r ls n i hlt]
      exact ⟨fun z => z.resolve_left (fun q => h q.1), .inr⟩
theorem within_ev (r : Int) (ls : List Int) (n : Nat) (hn : ls.length = 2 * n) (hs : n ≤ 1000) : Ev (fun k => flongref02_within.f k r ls) (inRange ls n r) := by
  unfold flongref02_within.f
  refine within_l r ls n hn hs n 0 (by omega) (by omega) _ ?_
  rw [inRange_true]
  constructor
  · rintro ⟨j, h2, h3⟩; exact ⟨j, Nat.zero_le _, h2, h3⟩
  · rintro ⟨j, _, h2, h3⟩; exact ⟨j, h2, h3⟩
theorem rwidth_ev (r : Int) : Ev (fun k => flongref02_Width.f k r) (wid r) := by
  have hj : ∀ b : Bool, Ev (fun k => flongref02_Width.j0 k r b) (if b = true then 0 else if inRange noneL 12 r = true then 0 else if inRange wideL 16 r = true then 2 else 1) := by
    intro b
    refine Ev.step (f := fun k => if b = true then some 0 else ((flongref02_within.f k r noneL).bind fun t => if t = true then some 0 else ((flongref02_within.f k r wideL).bind fun t => if t = true then some 2 else some 1))) (fun k => by simp only [flongref02_Width.j0, noneL, wideL]) ?_
    refine ev_ite (fun h => ev_eq (Ev.now _) (by simp [h])) (fun h => Ev.bind (within_ev r noneL 12 rfl (by omega)) (ev_ite (fun h1 => ev_eq (Ev.now _) (by simp [h, h1])) (fun h1 => Ev.bind (within_ev r wideL 16 rfl (by omega)) (ev_ite (fun h2 => ev_eq (Ev.now _) (by simp [h, h1, h2])) (fun h2 => ev_eq (Ev.now _) (by simp [h, h1, h2]))))))
  unfold flongref02_Width.f
  refine ev_bind1 (rvalid_eq r) (ev_ite (fun h => ev_bind1 (rcontrol_eq r) (ev_eq (hj _) ?_)) (fun h => ev_eq (hj _) ?_))
  · simp [wid, h]
  · simp [wid, h]
end Go.Proofs.YtfdfjlichpjobaaDoorRR.Pure

/- The reference: how wide a row of glyphs is. -/
namespace Go.Proofs.YtfdfjlichpjobaaDoorRR.Pure
open Go.RowKit Go.Proofs.YtfdfjlichpjobaaDoorRRW.PrintWords Go.Proofs.YtfdfjlichpjobaaDoorRRW.PrintLast Go.Proofs.YtfdfjlichpjobaaDoorRRW.PrintMore Go.Proofs.YtfdfjlichpjobaaDoorRR.X Go.Proofs.YtfdfjlichpjobaaDoorRR.Hand
set_option linter.unusedSimpArgs false
set_option linter.unusedVariables false
theorem rgwidth_ev (l : List Gl) (h : l.length ≤ 5000) : Ev (fun k => flongref03_Width.f k l) (width l) := by
  unfold flongref03_Width.f
  refine ev_eq (loop_up (fun k n i => flongref03_Width.l0 k l n i) l.length (fun n i => n + width (l.drop i)) (fun n i => 0 ≤ n ∧ n ≤ 2 * i) ?_ ?_ 0 0 (by omega) ⟨by omega, by omega⟩) (by simp)
  · intro n _
    exact Ev.step (f := fun _ => some n) (fun k => by simp only [flongref03_Width.l0]; rw [if_neg (by omega)]) (ev_eq (Ev.now _) (by simp [width_nil]))
  · intro n i hi ⟨h0, h1⟩ ih
    have hw := wid_range l[i].f0
    refine Ev.step (f := fun k => (flongref02_Width.f k l[i].f0).bind fun t => flongref03_Width.l0 k l (wrap64 (n + t)) ((i + 1 : Nat) : Int)) (fun k => ?_) ?_
    · simp only [flongref03_Width.l0]
      rw [if_pos (by omega), if_pos (by omega), rdG l i hi, wrap_up hi (by omega)]
    · refine Ev.bind (rwidth_ev _) ?_
      rw [wrap_of (by omega) (by omega)]
      refine ev_eq (ih (n + wid l[i].f0) ⟨by omega, by omega⟩) ?_
      rw [List.drop_eq_getElem_cons hi, width_cons]
      omega
end Go.Proofs.YtfdfjlichpjobaaDoorRR.Pure

/- The reference: what may be written of a row. -/
namespace Go.Proofs.YtfdfjlichpjobaaDoorRR.Pure
open Go.RowKit Go.Proofs.YtfdfjlichpjobaaDoorRRW.PrintWords Go.Proofs.YtfdfjlichpjobaaDoorRRW.PrintLast Go.Proofs.YtfdfjlichpjobaaDoorRRW.PrintMore Go.Proofs.YtfdfjlichpjobaaDoorRR.X Go.Proofs.YtfdfjlichpjobaaDoorRR.Hand
set_option linter.unusedSimpArgs false
set_option linter.unusedVariables false
theorem tmod4 {x : Int} (h : 0 ≤ x ∧ x ≤ 255) : Int.tmod x 4 = Go.bits .and .u8 x 3 := by
  have h1 : ∀ n : Nat, n < 256 → Int.tmod (n : Int) 4 = Go.bits .and .u8 (n : Int) 3 := by decide +kernel
  obtain ⟨n, rfl⟩ := Int.eq_ofNat_of_zero_le h.1
  exact h1 n (by omega)
theorem safe_32 : safe 32 = 32 := by decide +kernel
theorem rclean_ev (l : List Gl) (h : l.length ≤ 5000) (h8 : ∀ g ∈ l, 0 ≤ g.f1 ∧ g.f1 ≤ 255) : Ev (fun k => flongref03_Clean.f k l) (clean l) := by
  unfold flongref03_Clean.f
  refine ev_eq (loop_up (fun k o i => flongref03_Clean.l0 k l o i) l.length (fun o i => if o = [] then clean (l.drop i) else o ++ (l.drop i).map cleanG) (fun o i => o.length ≤ i) ?_ ?_ [] 0 (by omega) (by simp)) (by simp)
  · intro o _
    refine Ev.step (f := fun _ => some o) (fun k => by simp only [flongref03_Clean.l0]; rw [if_neg (by omega)]) (ev_eq (Ev.now _) ?_)
    rw [List.drop_length]
    split
    · rename_i e
      rw [e]
      rfl
    · simp
  · intro o i hi ho ih
    have h1 : Ev (fun k => flongref03_Clean.l0 k l (o ++ [cleanG l[i]]) ((i + 1 : Nat) : Int)) (o ++ cleanG l[i] :: (l.drop (i + 1)).map cleanG) := by
      refine ev_eq (ih (o ++ [cleanG l[i]]) (by simp; omega)) ?_
      rw [if_neg (by simp), List.append_assoc]
      rfl
    have hst : Int.tmod l[i].f1 4 = Go.bits .and .u8 l[i].f1 3 := tmod4 (h8 l[i] (List.getElem_mem hi))
    have hj : ∀ x : Int, cleanG l[i] = ⟨x, Int.tmod l[i].f1 4⟩ → Ev (fun k => if (o.length : Int) > 0 then (if o.length < 17592186044416 then flongref03_Clean.l0 k l (o ++ [(⟨x, Int.tmod l[i].f1 4⟩ : Gl)]) ((i + 1 : Nat) : Int) else none) else ((flongref02_Width.f k x).bind fun t => if t > 0 then (if o.length < 17592186044416 then flongref03_Clean.l0 k l (o ++ [(⟨x, Int.tmod l[i].f1 4⟩ : Gl)]) ((i + 1 : Nat) : Int) else none) else flongref03_Clean.l0 k l o ((i + 1 : Nat) : Int))) (if o = [] then clean (l.drop i) else o ++ (l.drop i).map cleanG) := by
      intro x hx
      rw [← hx]
      refine ev_ite (fun hc => ev_pos (by omega) (ev_eq h1 ?_)) (fun hc => ?_)
      · rw [if_neg (by intro e; rw [e] at hc; simp at hc), List.drop_eq_getElem_cons hi, List.map_cons]
      · obtain rfl : o = [] := by
          rcases o with _ | ⟨_, _⟩
          · rfl
          · exfalso
            apply hc
            simp only [List.length_cons]
            omega
        rw [if_pos rfl]
        have hw : wid x = wid (cleanG l[i]).f0 := by rw [hx]
        refine Ev.bind (rwidth_ev x) ?_
        rw [hw]
        refine ev_ite (fun hp => ev_pos (by simp) (ev_eq h1 ?_)) (fun hp => ev_eq (ih [] (by simp)) ?_)
        · rw [List.drop_eq_getElem_cons hi, clean, List.map_cons, List.dropWhile_cons, if_neg (by simp [hp])]
          rfl
        · rw [if_pos rfl, List.drop_eq_getElem_cons hi, clean, clean, List.map_cons, List.dropWhile_cons, if_pos (by simp [hp])]
    by_cases hc : l[i].f0 = 160
    · refine Ev.step (f := fun k => if (o.length : Int) > 0 then (if o.length < 17592186044416 then flongref03_Clean.l0 k l (o ++ [(⟨32, Int.tmod l[i].f1 4⟩ : Gl)]) ((i + 1 : Nat) : Int) else none) else ((flongref02_Width.f k 32).bind fun t => if t > 0 then (if o.length < 17592186044416 then flongref03_Clean.l0 k l (o ++ [(⟨32, Int.tmod l[i].f1 4⟩ : Gl)]) ((i + 1 : Nat) : Int) else none) else flongref03_Clean.l0 k l o ((i + 1 : Nat) : Int))) (fun k => ?_) (hj 32 ?_)
      · simp only [flongref03_Clean.l0]
        rw [if_pos (by omega), if_pos (by omega), rdG l i hi, rsafe_eq, Option.bind_some, if_pos hc, wrap_up hi (by omega)]
      · rw [cleanG, if_pos hc, safe_32, hst]
    · refine Ev.step (f := fun k => if (o.length : Int) > 0 then (if o.length < 17592186044416 then flongref03_Clean.l0 k l (o ++ [(⟨safe l[i].f0, Int.tmod l[i].f1 4⟩ : Gl)]) ((i + 1 : Nat) : Int) else none) else ((flongref02_Width.f k (safe l[i].f0)).bind fun t => if t > 0 then (if o.length < 17592186044416 then flongref03_Clean.l0 k l (o ++ [(⟨safe l[i].f0, Int.tmod l[i].f1 4⟩ : Gl)]) ((i + 1 : Nat) : Int) else none) else flongref03_Clean.l0 k l o ((i + 1 : Nat) : Int))) (fun k => ?_) (hj (safe l[i].f0) ?_)
      · simp only [flongref03_Clean.l0]
        rw [if_pos (by omega), if_pos (by omega), rdG l i hi, rsafe_eq, Option.bind_some, if_neg hc, wrap_up hi (by omega)]
      · rw [cleanG, if_neg hc, hst]
end Go.Proofs.YtfdfjlichpjobaaDoorRR.Pure
