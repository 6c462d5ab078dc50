/- SpecN: several of this session's texts in one. -/
import Derived.Test.YtadejblahbebdaaDoorSpecA
import Derived.Test.YtadejblahbebdaaDoorX14
import Derived.Test.YtadejblahbebdaaDoorX4
import Derived.Test.YtadejblahbebdaaDoorX3
/- Whether two rows of glyphs are the same. -/
namespace Go.Proofs.YtadejblahbebdaaDoor.Pure
open Go.RowKit Go.Proofs.YtadejblahbebdaaDoorW.PrintWords Go.Proofs.YtadejblahbebdaaDoorW.PrintLast Go.Proofs.YtadejblahbebdaaDoorW.PrintMore Go.Proofs.YtadejblahbebdaaDoor.X
set_option linter.unusedSimpArgs false
set_option linter.unusedVariables false
theorem gsame_ev (a b : List Gl) (h : a.length ≤ 9223372036854775807) : Ev (fun k => flongref03_Same.f k a b) (decide (a = b)) := by
  unfold flongref03_Same.f
  refine ev_ite (fun hl => ?_) (fun hl => ev_eq (Ev.now _) (by symm; rw [decide_eq_false_iff_not]; intro e; exact hl (by rw [e])))
  have hl' : a.length = b.length := by omega
  refine ev_eq (loop_up (σ := Unit) (fun k _ i => flongref03_Same.l0 k a b i) a.length (fun _ i => decide (a.drop i = b.drop i)) (fun _ _ => True) ?_ ?_ () 0 (by omega) trivial) (by simp)
  · intro _ _
    exact Ev.step (f := fun _ => some true) (fun k => by simp only [flongref03_Same.l0]; rw [if_neg (by omega)]) (ev_eq (Ev.now _) (by simp [hl']))
  · intro _ i hi _ ih
    refine Ev.step (f := fun k => if (!((a[i].f0) == (b[i].f0)) || (!((a[i].f1) == (b[i].f1)))) = true then some false else flongref03_Same.l0 k a b ((i + 1 : Nat) : Int)) (fun k => ?_) ?_
    · simp only [flongref03_Same.l0]
      rw [if_pos (by omega), if_pos (by omega), if_pos (by omega), rdG a i hi, rdG b i (by omega), wrap_up hi h]
    · refine ev_ite (fun hc => ev_eq (Ev.now _) ?_) (fun hc => ev_eq (ih () trivial) ?_)
      · symm
        rw [decide_eq_false_iff_not, drop_ne hi (by omega)]
        exact fun e => (gl_ne _ _).1 hc e.1
      · have e : a[i] = b[i] := Decidable.of_not_not fun e => hc ((gl_ne _ _).2 e)
        simp only [drop_ne hi (show i < b.length by omega), e, true_and]
theorem gsame_true {a b : List Gl} (e : a = b) (h : a.length ≤ 9223372036854775807) : Ev (fun k => flongref03_Same.f k a b) true := ev_eq (gsame_ev a b h) (by simp [e])
end Go.Proofs.YtadejblahbebdaaDoor.Pure

/- What may be written of a row. -/
namespace Go.Proofs.YtadejblahbebdaaDoor.Pure
open Go.RowKit Go.Proofs.YtadejblahbebdaaDoorW.PrintWords Go.Proofs.YtadejblahbebdaaDoorW.PrintLast Go.Proofs.YtadejblahbebdaaDoorW.PrintMore Go.Proofs.YtadejblahbebdaaDoor.X Go.Proofs.YtadejblahbebdaaDoor.Hand
set_option linter.unusedSimpArgs false
set_option linter.unusedVariables false
/-- One glyph, as it may be written. -/
def cleanG (g : Gl) : Gl := ⟨safe (if g.f0 = 160 then 32 else g.f0), Go.bits .and .u8 g.f1 3⟩
def clean (l : List Gl) : List Gl := (l.map cleanG).dropWhile (fun g => !decide (wid g.f0 > 0))
theorem clean_ev (l : List Gl) (h : l.length < 17592186044416) : Ev (fun k => cells_Clean.f k l) (clean l) := by
  unfold cells_Clean.f
  refine ev_eq (loop_up (fun k o i => cells_Clean.l0 k o l (l.length : Int) i) l.length (fun o i => if o = [] then clean (l.drop i) else o ++ (l.drop i).map cleanG) (fun o i => o.length ≤ i) ?_ ?_ [] 0 (by omega) (by simp)) (by simp)
  · intro o _
    refine Ev.step (f := fun _ => some o) (fun k => by simp only [cells_Clean.l0]; rw [if_neg (by omega)]) (ev_eq (Ev.now _) ?_)
    rw [List.drop_length]
    split
    · rename_i e
      rw [e]
      rfl
    · simp
  · intro o i hi ho ih
    have hj : ∀ x : Int, (if l[i].f0 = 160 then 32 else l[i].f0) = x → Ev (fun k => cells_Clean.j1 k o l (l.length : Int) (i : Int) x l[i].f1) (if o = [] then clean (l.drop i) else o ++ (l.drop i).map cleanG) := by
      intro x hx
      have hg : cleanG l[i] = ⟨safe x, Go.bits .and .u8 l[i].f1 3⟩ := by rw [cleanG, hx]
      refine Ev.step (f := fun k => (runes_Safe.f k x).bind fun t => (if (o.length : Int) > 0 then (cells_Clean.l0 k (o ++ [(⟨t, Go.bits .and .u8 l[i].f1 3⟩ : Gl)]) l (l.length : Int) ((i + 1 : Nat) : Int)) else (if wid t > 0 then (cells_Clean.l0 k (o ++ [(⟨t, Go.bits .and .u8 l[i].f1 3⟩ : Gl)]) l (l.length : Int) ((i + 1 : Nat) : Int)) else (cells_Clean.l0 k o l (l.length : Int) ((i + 1 : Nat) : Int))))) (fun k => ?_) ?_
      · simp only [cells_Clean.j1]
        rw [wrap_up hi (by omega)]
        congr 1
        funext t
        rw [show runes_Width.f t = some (wid t) from rfl, Option.bind_some, if_pos (show o.length < 17592186044416 by omega)]
      · refine Ev.bind (safe_ev x) ?_
        rw [← hg]
        have h1 : Ev (fun k => cells_Clean.l0 k (o ++ [cleanG l[i]]) l (l.length : Int) ((i + 1 : Nat) : Int)) (o ++ cleanG l[i] :: (l.drop (i + 1)).map cleanG) := by
          refine ev_eq (ih (o ++ [cleanG l[i]]) (by simp; omega)) ?_
          rw [if_neg (by simp), List.append_assoc]
          rfl
        refine ev_ite (fun hc => ev_eq h1 ?_) (fun hc => ?_)
        · rw [if_neg (by intro e; rw [e] at hc; simp at hc), List.drop_eq_getElem_cons hi, List.map_cons]
        · obtain rfl : o = [] := by
            rcases o with _ | ⟨_, _⟩
            · rfl
            · exfalso
              apply hc
              simp only [List.length_cons]
              omega
          rw [if_pos rfl]
          have hw : wid (safe x) = wid (cleanG l[i]).f0 := by rw [hg]
          rw [hw]
          refine ev_ite (fun hp => ev_eq h1 ?_) (fun hp => ev_eq (ih [] (by simp)) ?_)
          · rw [List.drop_eq_getElem_cons hi, clean, List.map_cons, List.dropWhile_cons, if_neg (by simp [hp])]
            rfl
          · rw [if_pos rfl, List.drop_eq_getElem_cons hi, clean, clean, List.map_cons, List.dropWhile_cons, if_pos (by simp [hp])]
    refine Ev.step (f := fun k => if l[i].f0 = 160 then cells_Clean.j1 k o l (l.length : Int) (i : Int) 32 l[i].f1 else cells_Clean.j1 k o l (l.length : Int) (i : Int) l[i].f0 l[i].f1) (fun k => ?_) ?_
    · simp only [cells_Clean.l0]
      rw [if_pos (by omega), if_pos (by omega), if_pos (by omega), rdG l i hi]
    · exact ev_ite (fun hc => hj 32 (if_pos hc)) (fun hc => hj _ (if_neg hc))
end Go.Proofs.YtadejblahbebdaaDoor.Pure

/- What may be written: plainly. -/
namespace Go.Proofs.YtadejblahbebdaaDoor.Pure
open Go.RowKit Go.Proofs.YtadejblahbebdaaDoorW.PrintWords Go.Proofs.YtadejblahbebdaaDoorW.PrintLast Go.Proofs.YtadejblahbebdaaDoorW.PrintMore Go.Proofs.YtadejblahbebdaaDoor.X Go.Proofs.YtadejblahbebdaaDoor.Hand
set_option linter.unusedSimpArgs false
set_option linter.unusedVariables false
theorem safe_160 {x : Int} (h : x ≠ 160) : safe x ≠ 160 := by
  unfold safe
  split
  · exact h
  · decide
theorem and3 {x : Int} (h : 0 ≤ x ∧ x ≤ 255) : 0 ≤ Go.bits .and .u8 x 3 ∧ Go.bits .and .u8 x 3 ≤ 3 ∧ Go.bits .and .u8 (Go.bits .and .u8 x 3) 3 = Go.bits .and .u8 x 3 := by
  have h1 : ∀ n : Nat, n < 256 → 0 ≤ Go.bits .and .u8 (n : Int) 3 ∧ Go.bits .and .u8 (n : Int) 3 ≤ 3 ∧ Go.bits .and .u8 (Go.bits .and .u8 (n : Int) 3) 3 = Go.bits .and .u8 (n : Int) 3 := by decide +kernel
  obtain ⟨n, rfl⟩ := Int.eq_ofNat_of_zero_le h.1
  exact h1 n (by omega)
/-- Cleaned: what it is. -/
def Cl (g : Gl) : Prop := safe g.f0 = g.f0 ∧ g.f0 ≠ 160 ∧ 0 ≤ g.f1 ∧ g.f1 ≤ 3 ∧ Go.bits .and .u8 g.f1 3 = g.f1
theorem cleanG_Cl (g : Gl) (h : 0 ≤ g.f1 ∧ g.f1 ≤ 255) : Cl (cleanG g) := by
  have h3 := and3 h
  refine ⟨safe_safe _, safe_160 ?_, h3.1, h3.2.1, h3.2.2⟩
  split
  · decide
  · assumption
theorem cleanG_self {g : Gl} (h : Cl g) : cleanG g = g := by
  unfold cleanG
  rw [if_neg h.2.1, h.1, h.2.2.2.2]
theorem map_self {l : List Gl} (h : ∀ g ∈ l, Cl g) : l.map cleanG = l := by
  induction l with
  | nil => rfl
  | cons g l ih => rw [List.map_cons, cleanG_self (h g (by simp)), ih (fun x hx => h x (by simp [hx]))]
theorem clean_Cl (l : List Gl) (h : ∀ g ∈ l, 0 ≤ g.f1 ∧ g.f1 ≤ 255) : ∀ g ∈ clean l, Cl g := by
  intro g hg
  have := (List.dropWhile_sublist _).subset hg
  obtain ⟨x, hx, rfl⟩ := List.mem_map.1 this
  exact cleanG_Cl x (h x hx)
theorem dropWhile_twice {α : Type} (p : α → Bool) : ∀ l : List α, (l.dropWhile p).dropWhile p = l.dropWhile p
  | [] => rfl
  | a :: l => by
    rw [List.dropWhile_cons]
    split
    · exact dropWhile_twice p l
    · rename_i h
      rw [List.dropWhile_cons, if_neg h]
theorem dropWhile_head {α : Type} (p : α → Bool) : ∀ l : List α, ∀ h : 0 < (l.dropWhile p).length, p (l.dropWhile p)[0] = false
  | [], h => by simp at h
  | a :: l, h => by
    by_cases hp : p a = true
    · have e : (a :: l).dropWhile p = l.dropWhile p := by rw [List.dropWhile_cons, if_pos hp]
      simp only [e] at h ⊢
      exact dropWhile_head p l h
    · have e : (a :: l).dropWhile p = a :: l := by rw [List.dropWhile_cons, if_neg hp]
      simp only [e]
      simpa using hp
theorem clean_clean (l : List Gl) (h : ∀ g ∈ l, 0 ≤ g.f1 ∧ g.f1 ≤ 255) : clean (clean l) = clean l := by
  show ((clean l).map cleanG).dropWhile (fun g => !decide (wid g.f0 > 0)) = clean l
  rw [map_self (clean_Cl l h)]
  unfold clean
  exact dropWhile_twice _ _
theorem clean_length (l : List Gl) : (clean l).length ≤ l.length := by
  have := (List.dropWhile_sublist (fun g : Gl => !decide (wid g.f0 > 0)) (l := l.map cleanG)).length_le
  simpa [clean] using this
theorem clean_head (l : List Gl) (h : 0 < (clean l).length) : wid ((clean l)[0]).f0 ≠ 0 := by
  have := dropWhile_head (fun g : Gl => !decide (wid g.f0 > 0)) (l.map cleanG) h
  simp at this
  have h2 : 0 < wid ((clean l)[0]).f0 := this
  omega
end Go.Proofs.YtadejblahbebdaaDoor.Pure

/- A row trimmed. -/
namespace Go.Proofs.YtadejblahbebdaaDoor.Pure
open Go.RowKit Go.Proofs.YtadejblahbebdaaDoorW.PrintWords Go.Proofs.YtadejblahbebdaaDoorW.PrintLast Go.Proofs.YtadejblahbebdaaDoorW.PrintMore Go.Proofs.YtadejblahbebdaaDoor.X Go.Proofs.YtadejblahbebdaaDoor.Hand
set_option linter.unusedSimpArgs false
set_option linter.unusedVariables false
theorem clone_eq {l : List Gl} (h : l.length < 17592186044416) : clone_G.f l = some l := by
  unfold clone_G.f
  rw [if_pos h]
/-- So many are left of a row trimmed. -/
structure IsTrim (l : List Gl) (m : Nat) : Prop where
  le : m ≤ l.length
  last : ∀ g : Gl, 0 < m → l[m - 1]? = some g → g.f0 ≠ 32
  rest : ∀ (i : Nat) (g : Gl), m ≤ i → l[i]? = some g → g.f0 = 32
theorem exists_trim (l : List Gl) : ∃ m, IsTrim l m := by
  have h : ∀ n, n ≤ l.length → ∃ m, m ≤ n ∧ (∀ g : Gl, 0 < m → l[m - 1]? = some g → g.f0 ≠ 32) ∧ ∀ (i : Nat) (g : Gl), m ≤ i → i < n → l[i]? = some g → g.f0 = 32 := by
    intro n
    induction n with
    | zero => exact fun _ => ⟨0, Nat.le_refl _, fun g h => absurd h (by omega), fun i g _ h => absurd h (by omega)⟩
    | succ n ih =>
      intro hn
      by_cases hc : (l[n]'(by omega)).f0 = 32
      · obtain ⟨m, h1, h2, h3⟩ := ih (by omega)
        refine ⟨m, by omega, h2, fun i g hi hlt hg => ?_⟩
        by_cases e : i = n
        · subst e
          rw [List.getElem?_eq_getElem (by omega)] at hg
          obtain rfl := Option.some.inj hg
          exact hc
        · exact h3 i g hi (by omega) hg
      · refine ⟨n + 1, Nat.le_refl _, fun g _ hg => ?_, fun i g hi hlt => by omega⟩
        rw [Nat.add_sub_cancel, List.getElem?_eq_getElem (by omega)] at hg
        obtain rfl := Option.some.inj hg
        exact hc
  obtain ⟨m, h1, h2, h3⟩ := h l.length (Nat.le_refl _)
  exact ⟨m, h1, h2, fun i g hi hg => h3 i g hi (List.getElem?_eq_some_iff.1 hg).1 hg⟩
theorem trim_ev {l : List Gl} {m : Nat} (hm : IsTrim l m) (h : l.length < 17592186044416) : Ev (fun k => cells_Trim.f k l) (l.take m) := by
  have hle := hm.le
  have hend : (if 0 ≤ (m : Int) then (if (m : Int) ≤ (l.length : Int) then ((clone_G.f (l.take (m : Int).toNat)).bind fun t286 => (some t286)) else (none)) else (none)) = some (l.take m) := by
    rw [if_pos (by omega), if_pos (by omega), Int.toNat_natCast, clone_eq (by rw [List.length_take]; omega), Option.bind_some]
  have key : ∀ d n, n - m = d → m ≤ n → n ≤ l.length → Ev (fun k => cells_Trim.l0 k l (n : Int)) (l.take m) := by
    intro d
    induction d with
    | zero =>
      intro n hd h1 h2
      obtain rfl : n = m := by omega
      refine Ev.step (f := fun _ => some (l.take n)) (fun k => ?_) (Ev.now _)
      simp only [cells_Trim.l0]
      by_cases hp : 0 < n
      · have hg := hm.last l[n - 1] hp (List.getElem?_eq_getElem (by omega))
        rw [if_pos (by omega), wrap_of (by omega) (by omega), show (n : Int) - 1 = ((n - 1 : Nat) : Int) by omega, if_pos (by omega), if_pos (by omega), rdG l (n - 1) (by omega), if_neg hg, hend]
      · rw [if_neg (by omega), hend]
    | succ d ih =>
      intro n hd h1 h2
      have hg := hm.rest (n - 1) (l[n - 1]'(by omega)) (by omega) (List.getElem?_eq_getElem (by omega))
      refine Ev.step (f := fun k => cells_Trim.l0 k l ((n - 1 : Nat) : Int)) (fun k => ?_) (ih (n - 1) (by omega) (by omega) (by omega))
      simp only [cells_Trim.l0]
      rw [if_pos (by omega), wrap_of (by omega) (by omega), show (n : Int) - 1 = ((n - 1 : Nat) : Int) by omega, if_pos (by omega), if_pos (by omega), rdG l (n - 1) (by omega), if_pos hg]
  unfold cells_Trim.f
  exact key (l.length - m) l.length rfl hle (Nat.le_refl _)
end Go.Proofs.YtadejblahbebdaaDoor.Pure
