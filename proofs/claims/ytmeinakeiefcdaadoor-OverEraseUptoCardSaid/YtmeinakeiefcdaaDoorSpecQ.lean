/- SpecQ: several of this session's texts in one. -/
import Derived.Test.YtmeinakeiefcdaaDoorVMore
import Derived.Test.YtmeinakeiefcdaaDoorX0
import Derived.Test.YtmeinakeiefcdaaDoorHandA
import Derived.Test.YtmeinakeiefcdaaDoorX1
import Derived.Test.YtmeinakeiefcdaaDoorX2
import Derived.Test.YtmeinakeiefcdaaDoorX3
import Derived.Test.YtmeinakeiefcdaaDoorHandR
import Derived.Laws.BitsLemmas
import Derived.Test.YtmeinakeiefcdaaDoorHandO
import Derived.Laws.IdiomStrings
import Derived.Laws.Cover4
import Derived.Lib.DecodeN
import Derived.Test.YtmeinakeiefcdaaDoorX4
import Derived.Test.YtmeinakeiefcdaaDoorX5
import Derived.Test.YtmeinakeiefcdaaDoorHandI
import Derived.Test.YtmeinakeiefcdaaDoorX6
import Derived.Test.YtmeinakeiefcdaaDoorX7
/- Plain lemmas on printed functions: what holds from some number of rounds on. -/
namespace Go.Proofs.YtmeinakeiefcdaaDoor.Pure
open Go.RowKit Go.Proofs.YtmeinakeiefcdaaDoorW.PrintWords Go.Proofs.YtmeinakeiefcdaaDoorW.PrintLast

theorem ev_pos {α : Type} {c : Prop} [Decidable c] {f g : Nat → Option α} {r : α} (h : c) (k : Ev f r) : Ev (fun n => if c then f n else g n) r := by
  obtain ⟨K, k⟩ := k
  exact ⟨K, fun n hn => by simp only [if_pos h]; exact k n hn⟩
theorem ev_neg {α : Type} {c : Prop} [Decidable c] {f g : Nat → Option α} {r : α} (h : ¬ c) (k : Ev g r) : Ev (fun n => if c then f n else g n) r := by
  obtain ⟨K, k⟩ := k
  exact ⟨K, fun n hn => by simp only [if_neg h]; exact k n hn⟩
theorem ev_ite {α : Type} {c : Prop} [Decidable c] {f g : Nat → Option α} {r : α} (h : c → Ev f r) (k : ¬ c → Ev g r) : Ev (fun n => if c then f n else g n) r := by
  by_cases hc : c
  · exact ev_pos hc (h hc)
  · exact ev_neg hc (k hc)
theorem ev_eq {α : Type} {g : Nat → Option α} {r r' : α} (h : Ev g r) (e : r = r') : Ev g r' := e ▸ h
/-- What answers at once. -/
theorem ev_bind1 {α β : Type} {g : Option α} {f : Nat → α → Option β} {a : α} {r : β} (h : g = some a) (k : Ev (fun n => f n a) r) : Ev (fun n => g.bind (f n)) r := by
  subst h
  exact k
theorem ev_one {α : Type} {g : Option α} {r : α} (h : g = some r) : Ev (fun _ => g) r := ⟨0, fun _ _ => h⟩
theorem wrap_of {x : Int} (h0 : -9223372036854775808 ≤ x) (h1 : x ≤ 9223372036854775807) : wrap64 x = x := by
  unfold wrap64
  omega
theorem wrap32_of {x : Int} (h0 : -2147483648 ≤ x) (h1 : x ≤ 2147483647) : wrap32 x = x := by
  unfold wrap32
  omega
theorem wf_u8 {x : Int} (h : (Lit.int .u8 x).wf = true) : 0 ≤ x ∧ x ≤ 255 := by
  have h' : (decide (IntKind.min .u8 ≤ x) && decide (x ≤ IntKind.max .u8)) = true := h
  rw [Bool.and_eq_true, decide_eq_true_eq, decide_eq_true_eq, show IntKind.min .u8 = 0 from rfl, show IntKind.max .u8 = 255 from rfl] at h'
  exact h'
end Go.Proofs.YtmeinakeiefcdaaDoor.Pure

/- A loop that goes up to a length, whatever its state. -/
namespace Go.Proofs.YtmeinakeiefcdaaDoor.Pure
open Go.RowKit Go.Proofs.YtmeinakeiefcdaaDoorW.PrintWords Go.Proofs.YtmeinakeiefcdaaDoorW.PrintLast

theorem loop_up {σ β : Type} (L : Nat → σ → Int → Option β) (n : Nat) (res : σ → Nat → β) (I : σ → Nat → Prop)
    (hend : ∀ s, I s n → Ev (fun k => L k s (n : Int)) (res s n))
    (hstep : ∀ s i, i < n → I s i → (∀ s', I s' (i + 1) → Ev (fun k => L k s' ((i + 1 : Nat) : Int)) (res s' (i + 1))) → Ev (fun k => L k s (i : Int)) (res s i)) :
    ∀ s i, i ≤ n → I s i → Ev (fun k => L k s (i : Int)) (res s i) := by
  have h : ∀ d i, n - i = d → i ≤ n → ∀ s, I s i → Ev (fun k => L k s (i : Int)) (res s i) := by
    intro d
    induction d with
    | zero =>
      intro i hd hi s hs
      obtain rfl : i = n := by omega
      exact hend s hs
    | succ d ih =>
      intro i hd hi s hs
      exact hstep s i (by omega) hs (fun s' hs' => ih (i + 1) (by omega) (by omega) s' hs')
  exact fun s i hi hs => h (n - i) i rfl hi s hs
theorem wrap_up {i n : Nat} (h : i < n) (hn : n ≤ 9223372036854775807) : wrap64 ((i : Int) + 1) = ((i + 1 : Nat) : Int) := by
  rw [wrap_of (by omega) (by omega)]
  omega
end Go.Proofs.YtmeinakeiefcdaaDoor.Pure

/- Rows of glyphs, plainly. -/
namespace Go.Proofs.YtmeinakeiefcdaaDoor.Pure
open Go.RowKit Go.Proofs.YtmeinakeiefcdaaDoorW.PrintWords Go.Proofs.YtmeinakeiefcdaaDoorW.PrintLast Go.Proofs.YtmeinakeiefcdaaDoorW.PrintMore Go.Proofs.YtmeinakeiefcdaaDoor.X

abbrev Gl := S35
theorem rdG (l : List Gl) (i : Nat) (h : i < l.length) : rd_T35 l (i : Int) = l[i] := by
  simp [rd_T35, List.getD_eq_getElem?_getD, List.getElem?_eq_getElem h]
theorem gl_ext {a b : Gl} (h0 : a.f0 = b.f0) (h1 : a.f1 = b.f1) : a = b := by
  cases a
  cases b
  simp_all
instance : DecidableEq Gl := fun a b => if h : a.f0 = b.f0 ∧ a.f1 = b.f1 then .isTrue (gl_ext h.1 h.2) else .isFalse (fun e => h (by rw [e]; exact ⟨rfl, rfl⟩))
end Go.Proofs.YtmeinakeiefcdaaDoor.Pure

/- What package runes computes of one rune: its printed functions answer by plain functions. -/
namespace Go.Proofs.YtmeinakeiefcdaaDoor.Pure
open Go.RowKit Go.Proofs.YtmeinakeiefcdaaDoorW.PrintWords Go.Proofs.YtmeinakeiefcdaaDoorW.PrintLast Go.Proofs.YtmeinakeiefcdaaDoorW.PrintMore Go.Proofs.YtmeinakeiefcdaaDoor.X Go.Proofs.YtmeinakeiefcdaaDoor.Hand
set_option linter.unusedSimpArgs false

theorem valid_eq (a : Int) : runes_Valid.f a = some (validB a) := by
  unfold runes_Valid.f
  by_cases h1 : a ≥ 0 <;> by_cases h2 : a ≤ 1114111 <;> by_cases h3 : a < 55296 <;> simp only [h1, h2, h3, if_true, if_false] <;> congr 1 <;> (rw [Bool.eq_iff_iff]; simp [validB]; omega)

theorem validB_iff (a : Int) : validB a = true ↔ 0 ≤ a ∧ a ≤ 1114111 ∧ (a < 55296 ∨ 57343 < a) := by
  simp [validB]
theorem controlB_iff (a : Int) : controlB a = true ↔ (0 ≤ a ∧ a < 32) ∨ (127 ≤ a ∧ a ≤ 159) ∨ a = 8232 ∨ a = 8233 := by
  simp [controlB]

theorem control_ev (a : Int) : Ev (fun k => runes_Control.f k a) (controlB a) := by
  have j1 : ∀ x : Bool, Ev (fun k => runes_Control.j1 k a x) (x || (decide (a = 8232) || decide (a = 8233))) := by
    intro x
    refine Ev.step (f := fun _ => if x = true then some true else if a = 8232 then some true else if a = 8233 then some true else some false) (fun k => by simp only [runes_Control.j1]) ?_
    refine ev_one ?_
    cases x <;> simp
    split <;> simp_all
    split <;> simp_all
  have j0 : ∀ x : Bool, Ev (fun k => runes_Control.j0 k a x) (x || ((decide (127 ≤ a) && decide (a ≤ 159)) || (decide (a = 8232) || decide (a = 8233)))) := by
    intro x
    refine Ev.step (f := fun k => if x = true then runes_Control.j1 k a x else if a ≥ 127 then runes_Control.j1 k a (decide (a ≤ 159)) else runes_Control.j1 k a false) (fun k => by simp only [runes_Control.j0]) ?_
    refine ev_ite (fun h => ev_eq (j1 _) (by simp [h])) (fun h => ev_ite (fun h2 => ev_eq (j1 _) (by simp_all <;> omega)) (fun h2 => ev_eq (j1 _) (by simp_all <;> omega)))
  unfold runes_Control.f
  exact ev_ite (fun h => ev_eq (j0 _) (by simp_all [controlB] <;> omega)) (fun h => ev_eq (j0 _) (by simp_all [controlB] <;> omega))

/-- What may be written in a rune's place. -/
def safe (a : Int) : Int := if validB a = true ∧ controlB a = false then a else 65533
theorem safe_ev (a : Int) : Ev (fun k => runes_Safe.f k a) (safe a) := by
  unfold runes_Safe.f
  refine ev_bind1 (valid_eq a) ?_
  refine ev_ite (fun h => ?_) (fun h => ev_eq (Ev.now _) (by simp_all [safe]))
  refine Ev.bind (control_ev a) ?_
  refine ev_ite (fun h2 => ev_eq (Ev.now _) (by simp_all [safe])) (fun h2 => ev_eq (Ev.now _) (by simp_all [safe]))

theorem safe_valid (a : Int) : validB (safe a) = true := by
  unfold safe
  split
  · rename_i h
    exact h.1
  · decide +kernel
theorem safe_control (a : Int) : controlB (safe a) = false := by
  unfold safe
  split
  · rename_i h
    exact h.2
  · decide +kernel
theorem safe_safe (a : Int) : safe (safe a) = safe a := by
  have h1 := safe_valid a
  have h2 := safe_control a
  generalize safe a = b at h1 h2
  simp [safe, h1, h2]
theorem wid_range (a : Int) : 0 ≤ wid a ∧ wid a ≤ 2 := by
  unfold wid
  split
  · omega
  · split
    · omega
    · split
      · omega
      · split <;> omega
end Go.Proofs.YtmeinakeiefcdaaDoor.Pure

/- What may be written of a row. -/
namespace Go.Proofs.YtmeinakeiefcdaaDoor.Pure
open Go.RowKit Go.Proofs.YtmeinakeiefcdaaDoorW.PrintWords Go.Proofs.YtmeinakeiefcdaaDoorW.PrintLast Go.Proofs.YtmeinakeiefcdaaDoorW.PrintMore Go.Proofs.YtmeinakeiefcdaaDoor.X Go.Proofs.YtmeinakeiefcdaaDoor.Hand
set_option linter.unusedSimpArgs false
set_option linter.unusedVariables false
/-- One glyph, as it may be written. -/
def cleanG (g : Gl) : Gl := ⟨safe (if g.f0 = 160 then 32 else g.f0), Go.bits .and .u8 g.f1 3⟩
def clean (l : List Gl) : List Gl := (l.map cleanG).dropWhile (fun g => !decide (wid g.f0 > 0))
theorem clean_ev (l : List Gl) (h : l.length < 17592186044416) : Ev (fun k => cells_Clean.f k l) (clean l) := by
  unfold cells_Clean.f
  refine ev_eq (loop_up (fun k o i => cells_Clean.l0 k o l (l.length : Int) i) l.length (fun o i => if o = [] then clean (l.drop i) else o ++ (l.drop i).map cleanG) (fun o i => o.length ≤ i) ?_ ?_ [] 0 (by omega) (by simp)) (by simp)
  · intro o _
    refine Ev.step (f := fun _ => some o) (fun k => by simp only [cells_Clean.l0]; rw [if_neg (by omega)]) (ev_eq (Ev.now _) ?_)
    rw [List.drop_length]
    split
    · rename_i e
      rw [e]
      rfl
    · simp
  · intro o i hi ho ih
    have hj : ∀ x : Int, (if l[i].f0 = 160 then 32 else l[i].f0) = x → Ev (fun k => cells_Clean.j1 k o l (l.length : Int) (i : Int) x l[i].f1) (if o = [] then clean (l.drop i) else o ++ (l.drop i).map cleanG) := by
      intro x hx
      have hg : cleanG l[i] = ⟨safe x, Go.bits .and .u8 l[i].f1 3⟩ := by rw [cleanG, hx]
      refine Ev.step (f := fun k => (runes_Safe.f k x).bind fun t => (if (o.length : Int) > 0 then (cells_Clean.l0 k (o ++ [(⟨t, Go.bits .and .u8 l[i].f1 3⟩ : Gl)]) l (l.length : Int) ((i + 1 : Nat) : Int)) else (if wid t > 0 then (cells_Clean.l0 k (o ++ [(⟨t, Go.bits .and .u8 l[i].f1 3⟩ : Gl)]) l (l.length : Int) ((i + 1 : Nat) : Int)) else (cells_Clean.l0 k o l (l.length : Int) ((i + 1 : Nat) : Int))))) (fun k => ?_) ?_
      · simp only [cells_Clean.j1]
        rw [wrap_up hi (by omega)]
        congr 1
        funext t
        rw [show runes_Width.f t = some (wid t) from rfl, Option.bind_some, if_pos (show o.length < 17592186044416 by omega)]
      · refine Ev.bind (safe_ev x) ?_
        rw [← hg]
        have h1 : Ev (fun k => cells_Clean.l0 k (o ++ [cleanG l[i]]) l (l.length : Int) ((i + 1 : Nat) : Int)) (o ++ cleanG l[i] :: (l.drop (i + 1)).map cleanG) := by
          refine ev_eq (ih (o ++ [cleanG l[i]]) (by simp; omega)) ?_
          rw [if_neg (by simp), List.append_assoc]
          rfl
        refine ev_ite (fun hc => ev_eq h1 ?_) (fun hc => ?_)
        · rw [if_neg (by intro e; rw [e] at hc; simp at hc), List.drop_eq_getElem_cons hi, List.map_cons]
        · obtain rfl : o = [] := by
            rcases o with _ | ⟨_, _⟩
            · rfl
            · exfalso
              apply hc
              simp only [List.length_cons]
              omega
          rw [if_pos rfl]
          have hw : wid (safe x) = wid (cleanG l[i]).f0 := by rw [hg]
          rw [hw]
          refine ev_ite (fun hp => ev_eq h1 ?_) (fun hp => ev_eq (ih [] (by simp)) ?_)
          · rw [List.drop_eq_getElem_cons hi, clean, List.map_cons, List.dropWhile_cons, if_neg (by simp [hp])]
            rfl
          · rw [if_pos rfl, List.drop_eq_getElem_cons hi, clean, clean, List.map_cons, List.dropWhile_cons, if_pos (by simp [hp])]
    refine Ev.step (f := fun k => if l[i].f0 = 160 then cells_Clean.j1 k o l (l.length : Int) (i : Int) 32 l[i].f1 else cells_Clean.j1 k o l (l.length : Int) (i : Int) l[i].f0 l[i].f1) (fun k => ?_) ?_
    · simp only [cells_Clean.l0]
      rw [if_pos (by omega), if_pos (by omega), if_pos (by omega), rdG l i hi]
    · exact ev_ite (fun hc => hj 32 (if_pos hc)) (fun hc => hj _ (if_neg hc))
end Go.Proofs.YtmeinakeiefcdaaDoor.Pure

/- What may be written: plainly. -/
namespace Go.Proofs.YtmeinakeiefcdaaDoor.Pure
open Go.RowKit Go.Proofs.YtmeinakeiefcdaaDoorW.PrintWords Go.Proofs.YtmeinakeiefcdaaDoorW.PrintLast Go.Proofs.YtmeinakeiefcdaaDoorW.PrintMore Go.Proofs.YtmeinakeiefcdaaDoor.X Go.Proofs.YtmeinakeiefcdaaDoor.Hand
set_option linter.unusedSimpArgs false
set_option linter.unusedVariables false
theorem safe_160 {x : Int} (h : x ≠ 160) : safe x ≠ 160 := by
  unfold safe
  split
  · exact h
  · decide
theorem and3 {x : Int} (h : 0 ≤ x ∧ x ≤ 255) : 0 ≤ Go.bits .and .u8 x 3 ∧ Go.bits .and .u8 x 3 ≤ 3 ∧ Go.bits .and .u8 (Go.bits .and .u8 x 3) 3 = Go.bits .and .u8 x 3 := by
  have h1 : ∀ n : Nat, n < 256 → 0 ≤ Go.bits .and .u8 (n : Int) 3 ∧ Go.bits .and .u8 (n : Int) 3 ≤ 3 ∧ Go.bits .and .u8 (Go.bits .and .u8 (n : Int) 3) 3 = Go.bits .and .u8 (n : Int) 3 := by decide +kernel
  obtain ⟨n, rfl⟩ := Int.eq_ofNat_of_zero_le h.1
  exact h1 n (by omega)
/-- Cleaned: what it is. -/
def Cl (g : Gl) : Prop := safe g.f0 = g.f0 ∧ g.f0 ≠ 160 ∧ 0 ≤ g.f1 ∧ g.f1 ≤ 3 ∧ Go.bits .and .u8 g.f1 3 = g.f1
theorem cleanG_Cl (g : Gl) (h : 0 ≤ g.f1 ∧ g.f1 ≤ 255) : Cl (cleanG g) := by
  have h3 := and3 h
  refine ⟨safe_safe _, safe_160 ?_, h3.1, h3.2.1, h3.2.2⟩
  split
  · decide
  · assumption
theorem cleanG_self {g : Gl} (h : Cl g) : cleanG g = g := by
  unfold cleanG
  rw [if_neg h.2.1, h.1, h.2.2.2.2]
theorem map_self {l : List Gl} (h : ∀ g ∈ l, Cl g) : l.map cleanG = l := by
  induction l with
  | nil => rfl
  | cons g l ih => rw [List.map_cons, cleanG_self (h g (by simp)), ih (fun x hx => h x (by simp [hx]))]
theorem clean_Cl (l : List Gl) (h : ∀ g ∈ l, 0 ≤ g.f1 ∧ g.f1 ≤ 255) : ∀ g ∈ clean l, Cl g := by
  intro g hg
  have := (List.dropWhile_sublist _).subset hg
  obtain ⟨x, hx, rfl⟩ := List.mem_map.1 this
  exact cleanG_Cl x (h x hx)
theorem dropWhile_head {α : Type} (p : α → Bool) : ∀ l : List α, ∀ h : 0 < (l.dropWhile p).length, p (l.dropWhile p)[0] = false
  | [], h => by simp at h
  | a :: l, h => by
    by_cases hp : p a = true
    · have e : (a :: l).dropWhile p = l.dropWhile p := by rw [List.dropWhile_cons, if_pos hp]
      simp only [e] at h ⊢
      exact dropWhile_head p l h
    · have e : (a :: l).dropWhile p = a :: l := by rw [List.dropWhile_cons, if_neg hp]
      simp only [e]
      simpa using hp
theorem clean_length (l : List Gl) : (clean l).length ≤ l.length := by
  have := (List.dropWhile_sublist (fun g : Gl => !decide (wid g.f0 > 0)) (l := l.map cleanG)).length_le
  simpa [clean] using this
theorem clean_head (l : List Gl) (h : 0 < (clean l).length) : wid ((clean l)[0]).f0 ≠ 0 := by
  have := dropWhile_head (fun g : Gl => !decide (wid g.f0 > 0)) (l.map cleanG) h
  simp at this
  have h2 : 0 < wid ((clean l)[0]).f0 := this
  omega
end Go.Proofs.YtmeinakeiefcdaaDoor.Pure

/- A row trimmed. -/
namespace Go.Proofs.YtmeinakeiefcdaaDoor.Pure
open Go.RowKit Go.Proofs.YtmeinakeiefcdaaDoorW.PrintWords Go.Proofs.YtmeinakeiefcdaaDoorW.PrintLast Go.Proofs.YtmeinakeiefcdaaDoorW.PrintMore Go.Proofs.YtmeinakeiefcdaaDoor.X Go.Proofs.YtmeinakeiefcdaaDoor.Hand
set_option linter.unusedSimpArgs false
set_option linter.unusedVariables false
theorem clone_eq {l : List Gl} (h : l.length < 17592186044416) : clone_G.f l = some l := by
  unfold clone_G.f
  rw [if_pos h]
/-- So many are left of a row trimmed. -/
structure IsTrim (l : List Gl) (m : Nat) : Prop where
  le : m ≤ l.length
  last : ∀ g : Gl, 0 < m → l[m - 1]? = some g → g.f0 ≠ 32
  rest : ∀ (i : Nat) (g : Gl), m ≤ i → l[i]? = some g → g.f0 = 32
theorem exists_trim (l : List Gl) : ∃ m, IsTrim l m := by
  have h : ∀ n, n ≤ l.length → ∃ m, m ≤ n ∧ (∀ g : Gl, 0 < m → l[m - 1]? = some g → g.f0 ≠ 32) ∧ ∀ (i : Nat) (g : Gl), m ≤ i → i < n → l[i]? = some g → g.f0 = 32 := by
    intro n
    induction n with
    | zero => exact fun _ => ⟨0, Nat.le_refl _, fun g h => absurd h (by omega), fun i g _ h => absurd h (by omega)⟩
    | succ n ih =>
      intro hn
      by_cases hc : (l[n]'(by omega)).f0 = 32
      · obtain ⟨m, h1, h2, h3⟩ := ih (by omega)
        refine ⟨m, by omega, h2, fun i g hi hlt hg => ?_⟩
        by_cases e : i = n
        · subst e
          rw [List.getElem?_eq_getElem (by omega)] at hg
          obtain rfl := Option.some.inj hg
          exact hc
        · exact h3 i g hi (by omega) hg
      · refine ⟨n + 1, Nat.le_refl _, fun g _ hg => ?_, fun i g hi hlt => by omega⟩
        rw [Nat.add_sub_cancel, List.getElem?_eq_getElem (by omega)] at hg
        obtain rfl := Option.some.inj hg
        exact hc
  obtain ⟨m, h1, h2, h3⟩ := h l.length (Nat.le_refl _)
  exact ⟨m, h1, h2, fun i g hi hg => h3 i g hi (List.getElem?_eq_some_iff.1 hg).1 hg⟩
theorem trim_ev {l : List Gl} {m : Nat} (hm : IsTrim l m) (h : l.length < 17592186044416) : Ev (fun k => cells_Trim.f k l) (l.take m) := by
  have hle := hm.le
  have hend : (if 0 ≤ (m : Int) then (if (m : Int) ≤ (l.length : Int) then ((clone_G.f (l.take (m : Int).toNat)).bind fun t286 => (some t286)) else (none)) else (none)) = some (l.take m) := by
    rw [if_pos (by omega), if_pos (by omega), Int.toNat_natCast, clone_eq (by rw [List.length_take]; omega), Option.bind_some]
  have key : ∀ d n, n - m = d → m ≤ n → n ≤ l.length → Ev (fun k => cells_Trim.l0 k l (n : Int)) (l.take m) := by
    intro d
    induction d with
    | zero =>
      intro n hd h1 h2
      obtain rfl : n = m := by omega
      refine Ev.step (f := fun _ => some (l.take n)) (fun k => ?_) (Ev.now _)
      simp only [cells_Trim.l0]
      by_cases hp : 0 < n
      · have hg := hm.last l[n - 1] hp (List.getElem?_eq_getElem (by omega))
        rw [if_pos (by omega), wrap_of (by omega) (by omega), show (n : Int) - 1 = ((n - 1 : Nat) : Int) by omega, if_pos (by omega), if_pos (by omega), rdG l (n - 1) (by omega), if_neg hg, hend]
      · rw [if_neg (by omega), hend]
    | succ d ih =>
      intro n hd h1 h2
      have hg := hm.rest (n - 1) (l[n - 1]'(by omega)) (by omega) (List.getElem?_eq_getElem (by omega))
      refine Ev.step (f := fun k => cells_Trim.l0 k l ((n - 1 : Nat) : Int)) (fun k => ?_) (ih (n - 1) (by omega) (by omega) (by omega))
      simp only [cells_Trim.l0]
      rw [if_pos (by omega), wrap_of (by omega) (by omega), show (n : Int) - 1 = ((n - 1 : Nat) : Int) by omega, if_pos (by omega), if_pos (by omega), rdG l (n - 1) (by omega), if_pos hg]
  unfold cells_Trim.f
  exact key (l.length - m) l.length rfl hle (Nat.le_refl _)
end Go.Proofs.YtmeinakeiefcdaaDoor.Pure

/- A row made normal, and erased: package plain's and the reference's. -/
namespace Go.Proofs.YtmeinakeiefcdaaDoor.Pure
open Go.RowKit Go.Proofs.YtmeinakeiefcdaaDoorW.PrintWords Go.Proofs.YtmeinakeiefcdaaDoorW.PrintLast Go.Proofs.YtmeinakeiefcdaaDoorW.PrintMore Go.Proofs.YtmeinakeiefcdaaDoor.X Go.Proofs.YtmeinakeiefcdaaDoor.Hand
set_option linter.unusedSimpArgs false
set_option linter.unusedVariables false
/-- How a glyph is set, behind one that is set as p (none: first). -/
def setOf (p : Option Int) (g : Gl) : Int := if g.f0 = 32 then 0 else match p with | some s => if wid g.f0 = 0 then s else g.f1 | none => g.f1
def normGo : Option Int → List Gl → List Gl
  | _, [] => []
  | p, g :: t => ⟨g.f0, setOf p g⟩ :: normGo (some (setOf p g)) t
/-- How the last is set. -/
def lastS (o : List Gl) : Option Int := o.getLast?.map (·.f1)
theorem lastS_snoc (o : List Gl) (g : Gl) : lastS (o ++ [g]) = some g.f1 := by simp [lastS]
theorem normGo_length : ∀ (l : List Gl) (p : Option Int), (normGo p l).length = l.length
  | [], _ => rfl
  | g :: t, p => by rw [normGo, List.length_cons, normGo_length t, List.length_cons]
theorem normGo_runes : ∀ (l : List Gl) (p : Option Int), (normGo p l).map (·.f0) = l.map (·.f0)
  | [], _ => rfl
  | g :: t, p => by rw [normGo, List.map_cons, normGo_runes t, List.map_cons]
theorem set_mid (o : List Gl) (g x : Gl) (t : List Gl) : (o ++ g :: t).set o.length x = (o ++ [x]) ++ t := by
  rw [List.set_append_right _ _ (Nat.le_refl _), Nat.sub_self, List.set_cons_zero, List.append_assoc]
  rfl
theorem rd_mid (o : List Gl) (g : Gl) (t : List Gl) : rd_T35 (o ++ g :: t) (o.length : Int) = g := by
  rw [rdG _ _ (by rw [List.length_append, List.length_cons]; omega)]
  simp
theorem rd_before (o : List Gl) (y g : Gl) (t : List Gl) : rd_T35 ((o ++ [y]) ++ g :: t) (((o ++ [y]).length - 1 : Nat) : Int) = y := by
  have e : (o ++ [y]).length - 1 = o.length := by simp
  rw [e, rdG _ _ (by rw [List.length_append, List.length_append, List.length_singleton, List.length_cons]; omega)]
  simp
theorem normal_ev (l : List Gl) {m : Nat} (hm : IsTrim (clean l) m) (h : l.length ≤ 1000000) : Ev (fun k => plain_Normal.f k l) (normGo none ((clean l).take m)) := by
  have hcl := clean_length l
  unfold plain_Normal.f
  refine Ev.bind (clean_ev l (by omega)) (Ev.bind (trim_ev hm (by omega)) ?_)
  have hlen : ((clean l).take m).length ≤ 1000000 := by rw [List.length_take]; omega
  generalize (clean l).take m = c at hlen
  refine ev_eq (loop_up (fun k o i => plain_Normal.l0 k (o ++ c.drop o.length) (c.length : Int) i) c.length (fun o i => o ++ normGo (lastS o) (c.drop i)) (fun o i => o.length = i) ?_ ?_ [] 0 (by omega) rfl) (by simp [lastS])
  · intro o ho
    refine Ev.step (f := fun _ => some (o ++ c.drop o.length)) (fun k => by simp only [plain_Normal.l0]; rw [if_neg (by omega)]) (ev_eq (Ev.now _) ?_)
    rw [ho, List.drop_length, normGo]
  · intro o i hi ho ih
    subst ho
    obtain ⟨g, t, hgt⟩ : ∃ g t, c.drop o.length = g :: t := ⟨c[o.length], c.drop (o.length + 1), List.drop_eq_getElem_cons hi⟩
    have ht : c.drop (o.length + 1) = t := by
      have := List.drop_eq_getElem_cons hi
      rw [hgt] at this
      injection this with _ h2
      exact h2.symm
    have hxl : (o ++ g :: t).length = c.length := by
      have := congrArg List.length hgt
      rw [List.length_drop] at this
      rw [List.length_append, ← this]
      omega
    have hnext : ∀ x : Gl, x = ⟨g.f0, setOf (lastS o) g⟩ → Ev (fun k => plain_Normal.l0 k ((o ++ [x]) ++ t) (c.length : Int) ((o.length + 1 : Nat) : Int)) (o ++ normGo (lastS o) (g :: t)) := by
      intro x hx
      have h1 := ih (o ++ [x]) (by simp)
      rw [show (o ++ [x]).length = o.length + 1 by simp, ht] at h1
      refine ev_eq h1 ?_
      rw [lastS_snoc, normGo, hx, List.append_assoc]
      rfl
    have hsame : ∀ x : Gl, x = g → (o ++ [x]) ++ t = o ++ g :: t := by
      intro x hx
      rw [hx, List.append_assoc]
      rfl
    rw [hgt]
    by_cases h32 : g.f0 = 32
    · refine Ev.step (f := fun k => plain_Normal.l0 k ((o ++ [⟨g.f0, 0⟩]) ++ t) (c.length : Int) ((o.length + 1 : Nat) : Int)) (fun k => ?_) (hnext ⟨g.f0, 0⟩ (by simp [setOf, h32]))
      simp only [plain_Normal.l0]
      rw [if_pos (by omega), if_pos (by omega), if_pos (by omega), rd_mid, if_pos h32, Int.toNat_natCast, set_mid, wrap_up hi (by omega)]
    · rcases List.eq_nil_or_concat o with ho | ⟨o', y, ho⟩
      · have hn := hnext g (gl_ext rfl (by simp [setOf, h32, ho, lastS]))
        rw [hsame g rfl] at hn
        refine Ev.step (f := fun k => plain_Normal.l0 k (o ++ g :: t) (c.length : Int) ((o.length + 1 : Nat) : Int)) (fun k => ?_) hn
        have h0 : o.length = 0 := by rw [ho]; rfl
        simp only [plain_Normal.l0]
        rw [if_pos (by omega), if_pos (by omega), if_pos (by omega), rd_mid, if_neg h32, if_neg (by omega), wrap_up hi (by omega)]
      · rw [List.concat_eq_append] at ho
        have hol : o.length = o'.length + 1 := by rw [ho]; simp
        have hls : lastS o = some y.f1 := by rw [ho, lastS_snoc]
        have hprev : rd_T35 (o ++ g :: t) ((o.length - 1 : Nat) : Int) = y := by
          rw [ho]
          exact rd_before o' y g t
        by_cases hz : wid g.f0 = 0
        · refine Ev.step (fun k => ?_) (hnext ⟨g.f0, y.f1⟩ (by simp [setOf, h32, hls, hz]))
          simp only [plain_Normal.l0]
          rw [if_pos (by omega), if_pos (by omega), if_pos (by omega), rd_mid, if_neg h32, if_pos (by omega), show runes_Width.f g.f0 = some (wid g.f0) from rfl, Option.bind_some, if_pos hz, wrap_of (x := (o.length : Int) - 1) (by omega) (by omega), show (o.length : Int) - 1 = ((o.length - 1 : Nat) : Int) by omega, if_pos (by omega), if_pos (by omega), hprev, Int.toNat_natCast, set_mid, wrap_up hi (by omega)]
        · have hn := hnext g (gl_ext rfl (by simp [setOf, h32, hls, hz]))
          rw [hsame g rfl] at hn
          refine Ev.step (fun k => ?_) hn
          simp only [plain_Normal.l0]
          rw [if_pos (by omega), if_pos (by omega), if_pos (by omega), rd_mid, if_neg h32, if_pos (by omega), show runes_Width.f g.f0 = some (wid g.f0) from rfl, Option.bind_some, if_neg hz, wrap_up hi (by omega)]
end Go.Proofs.YtmeinakeiefcdaaDoor.Pure

/- Rows as they may be written. -/
namespace Go.Proofs.YtmeinakeiefcdaaDoor.Pure
open Go.RowKit Go.Proofs.YtmeinakeiefcdaaDoorW.PrintWords Go.Proofs.YtmeinakeiefcdaaDoorW.PrintLast Go.Proofs.YtmeinakeiefcdaaDoorW.PrintMore Go.Proofs.YtmeinakeiefcdaaDoor.X Go.Proofs.YtmeinakeiefcdaaDoor.Hand
set_option linter.unusedSimpArgs false
set_option linter.unusedVariables false
/-- A row, normal. -/
noncomputable def nrm (l : List Gl) : List Gl := normGo none ((clean l).take (exists_trim (clean l)).choose)
theorem nrm_length (l : List Gl) : (nrm l).length ≤ l.length := by
  have := clean_length l
  unfold nrm
  rw [normGo_length, List.length_take]
  omega
end Go.Proofs.YtmeinakeiefcdaaDoor.Pure

/- Blanks. -/
namespace Go.Proofs.YtmeinakeiefcdaaDoor.Pure
open Go.RowKit Go.Proofs.YtmeinakeiefcdaaDoorW.PrintWords Go.Proofs.YtmeinakeiefcdaaDoorW.PrintLast Go.Proofs.YtmeinakeiefcdaaDoorW.PrintMore Go.Proofs.YtmeinakeiefcdaaDoor.X Go.Proofs.YtmeinakeiefcdaaDoor.Hand
set_option linter.unusedSimpArgs false
set_option linter.unusedVariables false
def sp : Gl := ⟨32, 0⟩
theorem mx_mn (a : Int) : mx 0 (mn a 65535) = max 0 (min a 65535) := by
  unfold mx mn
  omega
theorem blank_eq (a : Int) : cells_Blank.f a = some (List.replicate (max 0 (min a 65535)).toNat sp) := by
  unfold cells_Blank.f repeat_G.f
  rw [mx_mn, if_pos ⟨rfl, by omega, by omega⟩, Option.bind_some]
  rfl
end Go.Proofs.YtmeinakeiefcdaaDoor.Pure

/- A list of numbers, read at a place. -/
namespace Go.Proofs.YtmeinakeiefcdaaDoor.Pure
open Go.RowKit Go.Proofs.YtmeinakeiefcdaaDoorW.PrintWords Go.Proofs.YtmeinakeiefcdaaDoorW.PrintLast Go.Proofs.YtmeinakeiefcdaaDoorW.PrintMore
set_option linter.unusedSimpArgs false
set_option linter.unusedVariables false
theorem rd_nat (l : List Int) (i : Nat) (h : i < l.length) : rd l (i : Int) = l[i] := by
  simp [rd, List.getD_eq_getElem?_getD, List.getElem?_eq_getElem h]
end Go.Proofs.YtmeinakeiefcdaaDoor.Pure

/- Runes and their bytes, as plain functions over whole numbers: what is written is read, and only what was written is read as anything. -/
namespace Go.Proofs.YtmeinakeiefcdaaDoor.Pure
open Go.Proofs.YtmeinakeiefcdaaDoor.Hand
set_option linter.unusedVariables false
set_option linter.unusedSimpArgs false

/-- The bytes of a rune that may be. -/
def enc (r : Int) : List Int :=
  if r < 128 then [r] else if r < 2048 then [192 + r / 64, 128 + r % 64] else if r < 65536 then [224 + r / 4096, 128 + r / 64 % 64, 128 + r % 64]
  else [240 + r / 262144, 128 + r / 4096 % 64, 128 + r / 64 % 64, 128 + r % 64]
/-- The bytes of any rune. -/
def one (r : Int) : List Int := enc (if validB r = true then r else 65533)
def encode (l : List Int) : List Int := l.flatMap one
def cont (d : Int) : Bool := decide (128 ≤ d) && decide (d < 192)
/-- The first rune, and how many bytes it has; 1 of one that is none. -/
def firstRune : List Int → Int × Nat
  | [] => (65533, 1)
  | c :: t =>
    if c < 128 then (c, 1)
    else if 192 ≤ c ∧ c < 224 then
      match t with
      | d :: _ => if cont d = true ∧ 128 ≤ (c - 192) * 64 + (d - 128) then ((c - 192) * 64 + (d - 128), 2) else (65533, 1)
      | _ => (65533, 1)
    else if 224 ≤ c ∧ c < 240 then
      match t with
      | d :: e :: _ => if cont d = true ∧ cont e = true ∧ 2048 ≤ ((c - 224) * 64 + (d - 128)) * 64 + (e - 128) ∧ validB (((c - 224) * 64 + (d - 128)) * 64 + (e - 128)) = true then (((c - 224) * 64 + (d - 128)) * 64 + (e - 128), 3) else (65533, 1)
      | _ => (65533, 1)
    else if 240 ≤ c ∧ c < 248 then
      match t with
      | d :: e :: f :: _ => if cont d = true ∧ cont e = true ∧ cont f = true ∧ 65536 ≤ (((c - 240) * 64 + (d - 128)) * 64 + (e - 128)) * 64 + (f - 128) ∧ validB ((((c - 240) * 64 + (d - 128)) * 64 + (e - 128)) * 64 + (f - 128)) = true
          then ((((c - 240) * 64 + (d - 128)) * 64 + (e - 128)) * 64 + (f - 128), 4) else (65533, 1)
      | _ => (65533, 1)
    else (65533, 1)
def decodeN : Nat → List Int → List Int
  | 0, _ => []
  | n + 1, l => if l = [] then [] else (firstRune l).1 :: decodeN n (l.drop (firstRune l).2)
def decode (l : List Int) : List Int := decodeN l.length l
/-- All of them bytes. -/
def Bytes (l : List Int) : Prop := ∀ x ∈ l, 0 ≤ x ∧ x ≤ 255

theorem validB_iff' (a : Int) : validB a = true ↔ 0 ≤ a ∧ a ≤ 1114111 ∧ (a < 55296 ∨ 57343 < a) := by
  simp [validB]
theorem cont_iff (d : Int) : cont d = true ↔ 128 ≤ d ∧ d < 192 := by simp [cont]

theorem first_enc {r : Int} (h : validB r = true) (t : List Int) : firstRune (enc r ++ t) = (r, (enc r).length) := by
  have h' := (validB_iff' r).1 h
  unfold enc
  split
  · simp [firstRune, *]
  · split
    · have e : (192 + r / 64 - 192) * 64 + (128 + r % 64 - 128) = r := by omega
      simp only [firstRune, List.cons_append, List.nil_append, List.length_cons, List.length_nil]
      rw [if_neg (by omega), if_pos (by omega), e, if_pos ⟨(cont_iff _).2 (by omega), by omega⟩]
    · split
      · have e : ((224 + r / 4096 - 224) * 64 + (128 + r / 64 % 64 - 128)) * 64 + (128 + r % 64 - 128) = r := by omega
        simp only [firstRune, List.cons_append, List.nil_append, List.length_cons, List.length_nil]
        rw [if_neg (by omega), if_neg (by omega), if_pos (by omega), e, if_pos ⟨(cont_iff _).2 (by omega), (cont_iff _).2 (by omega), by omega, h⟩]
      · have e : (((240 + r / 262144 - 240) * 64 + (128 + r / 4096 % 64 - 128)) * 64 + (128 + r / 64 % 64 - 128)) * 64 + (128 + r % 64 - 128) = r := by omega
        simp only [firstRune, List.cons_append, List.nil_append, List.length_cons, List.length_nil]
        rw [if_neg (by omega), if_neg (by omega), if_neg (by omega), if_pos (by omega), e, if_pos ⟨(cont_iff _).2 (by omega), (cont_iff _).2 (by omega), (cont_iff _).2 (by omega), by omega, h⟩]

theorem valid_odd : validB 65533 = true := by decide +kernel
theorem enc_len (r : Int) : 1 ≤ (enc r).length ∧ (enc r).length ≤ 4 := by
  unfold enc
  split
  · simp
  · split
    · simp
    · split <;> simp
theorem enc_bytes {r : Int} (h : validB r = true) : Bytes (enc r) := by
  have h' := (validB_iff' r).1 h
  unfold enc Bytes
  split
  · simp; omega
  · split
    · simp; omega
    · split <;> (simp; omega)
theorem enc_ne (r : Int) : enc r ≠ [] := fun h => by have := enc_len r; rw [h] at this; simp at this

/-- What is told first: a rune's bytes stand there, or it is told for what is none, one byte. -/
theorem first_spec {l : List Int} (hb : Bytes l) (hl : l ≠ []) : (validB (firstRune l).1 = true ∧ (firstRune l).2 = (enc (firstRune l).1).length ∧ l.take (firstRune l).2 = enc (firstRune l).1) ∨ firstRune l = (65533, 1) := by
  match l, hl with
  | c :: t, _ =>
    have hc := hb c (by simp)
    simp only [firstRune]
    split
    · left
      refine ⟨(validB_iff' _).2 (by simp; omega), ?_⟩
      simp [enc, *]
    · split
      · rename_i h1 h2
        match t with
        | d :: t' =>
          simp only
          split
          · rename_i h3
            have hd := (cont_iff d).1 h3.1
            left
            refine ⟨(validB_iff' _).2 (by simp; omega), ?_⟩
            simp only [enc]
            rw [if_neg (by omega), if_pos (by omega)]
            refine ⟨rfl, ?_⟩
            simp
            omega
          · exact .inr rfl
        | [] => exact .inr rfl
      · split
        · rename_i h1 h2 h3
          match t with
          | d :: e :: t' =>
            simp only
            split
            · rename_i h4
              have hd := (cont_iff d).1 h4.1
              have he := (cont_iff e).1 h4.2.1
              have h5 := h4.2.2.1
              left
              refine ⟨h4.2.2.2, ?_⟩
              simp only [enc]
              rw [if_neg (by omega), if_neg (by omega), if_pos (by omega)]
              refine ⟨rfl, ?_⟩
              simp
              omega
            · exact .inr rfl
          | [d] => exact .inr rfl
          | [] => exact .inr rfl
        · split
          · rename_i h1 h2 h3 h4
            match t with
            | d :: e :: f :: t' =>
              simp only
              split
              · rename_i h5
                have hd := (cont_iff d).1 h5.1
                have he := (cont_iff e).1 h5.2.1
                have hf := (cont_iff f).1 h5.2.2.1
                have h6 := h5.2.2.2.1
                left
                refine ⟨h5.2.2.2.2, ?_⟩
                simp only [enc]
                rw [if_neg (by omega), if_neg (by omega), if_neg (by omega)]
                refine ⟨rfl, ?_⟩
                simp
                omega
              · exact .inr rfl
            | [d, e] => exact .inr rfl
            | [d] => exact .inr rfl
            | [] => exact .inr rfl
          · exact .inr rfl

theorem first_len (l : List Int) : 1 ≤ (firstRune l).2 ∧ (firstRune l).2 ≤ 4 := by
  unfold firstRune
  repeat' split
  all_goals simp
theorem first_fits {l : List Int} (hb : Bytes l) (hl : l ≠ []) : (firstRune l).2 ≤ l.length := by
  rcases first_spec hb hl with ⟨_, h2, h3⟩ | h
  · have := congrArg List.length h3
    rw [List.length_take] at this
    omega
  · rw [h]
    cases l
    · exact absurd rfl hl
    · simp
theorem first_valid {l : List Int} (hb : Bytes l) (hl : l ≠ []) : validB (firstRune l).1 = true := by
  rcases first_spec hb hl with ⟨h, _⟩ | h
  · exact h
  · rw [h]; exact valid_odd

theorem bytes_drop {l : List Int} (h : Bytes l) (n : Nat) : Bytes (l.drop n) := fun x hx => h x (List.mem_of_mem_drop hx)
theorem decodeN_more : ∀ (n m : Nat) (l : List Int), Bytes l → l.length ≤ n → l.length ≤ m → decodeN n l = decodeN m l
  | 0, 0, _, _, _, _ => rfl
  | 0, m + 1, l, _, h, _ => by
    have : l = [] := List.eq_nil_of_length_eq_zero (by omega)
    simp [decodeN, this]
  | n + 1, 0, l, _, _, h => by
    have : l = [] := List.eq_nil_of_length_eq_zero (by omega)
    simp [decodeN, this]
  | n + 1, m + 1, l, hb, h, h' => by
    unfold decodeN
    split
    · rfl
    · rename_i hl
      have := first_len l
      have hn := List.length_drop (i := (firstRune l).2) (l := l)
      have h0 : 0 < l.length := List.length_pos_iff.2 hl
      rw [decodeN_more n m _ (bytes_drop hb _) (by omega) (by omega)]
theorem decode_nil : decode [] = [] := rfl
theorem decode_cons {l : List Int} (hb : Bytes l) (hl : l ≠ []) : decode l = (firstRune l).1 :: decode (l.drop (firstRune l).2) := by
  have h0 : 0 < l.length := List.length_pos_iff.2 hl
  have h1 := first_len l
  have hn := List.length_drop (i := (firstRune l).2) (l := l)
  obtain ⟨n, hn'⟩ : ∃ n, l.length = n + 1 := ⟨l.length - 1, by omega⟩
  show decodeN l.length l = _
  rw [hn']
  unfold decodeN
  rw [if_neg hl]
  congr 1
  exact decodeN_more _ _ _ (bytes_drop hb _) (by omega) (by omega)

/-- Down from a row of bytes to the rest behind its first rune. -/
theorem bytes_ind {P : List Int → Prop} (h0 : P []) (hs : ∀ l, Bytes l → l ≠ [] → P (l.drop (firstRune l).2) → P l) : ∀ l, Bytes l → P l := by
  have key : ∀ (n : Nat) (l : List Int), l.length ≤ n → Bytes l → P l := by
    intro n
    induction n with
    | zero =>
      intro l hl _
      rw [List.eq_nil_of_length_eq_zero (by omega : l.length = 0)]
      exact h0
    | succ n ih =>
      intro l hl hb
      by_cases he : l = []
      · rw [he]; exact h0
      · refine hs l hb he (ih _ ?_ (bytes_drop hb _))
        have := first_len l
        have hn := List.length_drop (i := (firstRune l).2) (l := l)
        have h0 : 0 < l.length := List.length_pos_iff.2 he
        omega
  exact fun l hb => key l.length l (Nat.le_refl _) hb

theorem one_valid {r : Int} (h : validB r = true) : one r = enc r := by simp [one, h]
theorem one_bytes (r : Int) : Bytes (one r) := by
  unfold one
  split
  · rename_i h; exact enc_bytes h
  · exact enc_bytes valid_odd
theorem one_len (r : Int) : 1 ≤ (one r).length ∧ (one r).length ≤ 4 := enc_len _
theorem bytes_append {a b : List Int} (ha : Bytes a) (hb : Bytes b) : Bytes (a ++ b) := fun x hx => by
  rcases List.mem_append.1 hx with h | h
  · exact ha x h
  · exact hb x h
theorem encode_bytes (l : List Int) : Bytes (encode l) := fun x hx => by
  obtain ⟨r, _, h⟩ := List.mem_flatMap.1 hx
  exact one_bytes r x h
theorem encode_nil : encode [] = [] := rfl
theorem encode_cons (r : Int) (l : List Int) : encode (r :: l) = one r ++ encode l := by simp [encode]
theorem encode_length (l : List Int) : (encode l).length ≤ 4 * l.length := by
  induction l with
  | nil => simp [encode_nil]
  | cons r l ih =>
    have := one_len r
    rw [encode_cons, List.length_append, List.length_cons]
    omega

end Go.Proofs.YtmeinakeiefcdaaDoor.Pure

/- What package runes computes of bytes and of rows: its printed functions answer by plain functions. -/
namespace Go.Proofs.YtmeinakeiefcdaaDoor.Pure
open Go.RowKit Go.Proofs.YtmeinakeiefcdaaDoorW.PrintWords Go.Proofs.YtmeinakeiefcdaaDoorW.PrintLast Go.Proofs.YtmeinakeiefcdaaDoorW.PrintMore Go.Proofs.YtmeinakeiefcdaaDoor.X Go.Proofs.YtmeinakeiefcdaaDoor.Hand
set_option linter.unusedSimpArgs false
set_option linter.unusedVariables false

theorem size_eq (a : Int) : runes_size.f a = some (if a < 128 then 1 else if a < 2048 then 2 else if a < 65536 then 3 else 4) := by
  unfold runes_size.f
  repeat' split
  all_goals rfl
theorem i32_and63 {x : Int} (h₀ : 0 ≤ x) (h₁ : x < 2147483648) : Go.bits .and .i32 x 63 = x % 64 := bits_mask .i32 31 (by decide) wraps_i32 6 (by decide) x h₀ h₁
theorem step_one (x : Int) (n : Int) (b : List Int) (i : Nat) (hx : 0 ≤ x) (hx1 : x < 2147483648) (hi : 0 < i) (hib : i < b.length) (hb : b.length ≤ 4) (r : List Int)
    (k : Ev (fun k => runes_one.l0 k (x / 64) n (b.set i (128 + x % 64)) ((i : Int) - 1)) r) : Ev (fun k => runes_one.l0 k x n b (i : Int)) r := by
  refine Ev.step (f := fun k => runes_one.l0 k (x / 64) n (b.set i (128 + x % 64)) ((i : Int) - 1)) (fun k => ?_) k
  simp only [runes_one.l0]
  rw [if_pos (by omega), if_pos (by omega), if_pos (by omega), i32_and63 hx hx1, show (x % 64) % 256 = x % 64 from by omega, u8_or128 (x % 64) (by omega) (by omega), wrap_of (x := (i : Int) - 1) (by omega) (by omega), Int.toNat_natCast]
theorem last_one (x : Int) (n : Int) (b : List Int) (h : Int) (hn : 0 ≤ n) (hb : 0 < b.length) (hv : Go.bits .or .u8 ((shr .i64 3840 n) % 256) (x % 256) = h) : Ev (fun k => runes_one.l0 k x n b 0) (b.set 0 h) := by
  refine Ev.step (f := fun _ => some (b.set 0 h)) (fun k => ?_) (Ev.now _)
  simp only [runes_one.l0]
  rw [if_neg (by omega), if_pos hn, if_pos (by omega), hv]
  rfl
theorem one_j {x : Int} (h : validB x = true) : Ev (fun k => runes_one.j0 k x) (enc x) := by
  have h' := (validB_iff x).1 h
  refine Ev.step (f := fun k => (runes_size.f x).bind fun t => if t = 1 then some [x % 256] else if 0 ≤ t then (if (t : Int).toNat ≤ 281474976710656 then runes_one.l0 k x t (List.replicate (t : Int).toNat 0) (wrap64 (t - 1)) else none) else none) (fun k => by simp only [runes_one.j0]) ?_
  refine ev_bind1 (size_eq x) ?_
  unfold enc
  by_cases h1 : x < 128
  · simp only [h1, if_true]
    refine ev_eq (Ev.now _) ?_
    rw [show x % 256 = x from by omega]
  · by_cases h2 : x < 2048
    · simp only [h1, h2, if_true, if_false]
      refine ev_neg (by omega) (ev_pos (by omega) (ev_pos (by decide) ?_))
      refine Ev.congr (f := fun k => runes_one.l0 k x 2 [0, 0] ((1 : Nat) : Int)) (fun k => by rw [wrap_of (by omega) (by omega)]; rfl) ?_
      refine step_one x 2 [0, 0] 1 (by omega) (by omega) (by omega) (by simp) (by simp) _ ?_
      refine ev_eq (last_one (x / 64) 2 _ (192 + x / 64) (by omega) (by simp) ?_) (by rfl)
      rw [show (shr .i64 3840 2) % 256 = 192 by decide +kernel, show (x / 64) % 256 = x / 64 from by omega]
      exact u8_or192 _ (by omega) (by omega)
    · by_cases h3 : x < 65536
      · simp only [h1, h2, h3, if_true, if_false]
        refine ev_neg (by omega) (ev_pos (by omega) (ev_pos (by decide) ?_))
        refine Ev.congr (f := fun k => runes_one.l0 k x 3 [0, 0, 0] ((2 : Nat) : Int)) (fun k => by rw [wrap_of (by omega) (by omega)]; rfl) ?_
        refine step_one x 3 [0, 0, 0] 2 (by omega) (by omega) (by omega) (by simp) (by simp) _ ?_
        refine step_one (x / 64) 3 _ 1 (by omega) (by omega) (by omega) (by simp) (by simp) _ ?_
        refine ev_eq (last_one (x / 64 / 64) 3 _ (224 + x / 4096) (by omega) (by simp) ?_) (by rfl)
        rw [show (shr .i64 3840 3) % 256 = 224 by decide +kernel, show (x / 64 / 64) % 256 = x / 4096 from by omega]
        exact u8_or224 _ (by omega) (by omega)
      · simp only [h1, h2, h3, if_false]
        refine ev_neg (by omega) (ev_pos (by omega) (ev_pos (by decide) ?_))
        refine Ev.congr (f := fun k => runes_one.l0 k x 4 [0, 0, 0, 0] ((3 : Nat) : Int)) (fun k => by rw [wrap_of (by omega) (by omega)]; rfl) ?_
        refine step_one x 4 [0, 0, 0, 0] 3 (by omega) (by omega) (by omega) (by simp) (by simp) _ ?_
        refine step_one (x / 64) 4 _ 2 (by omega) (by omega) (by omega) (by simp) (by simp) _ ?_
        refine step_one (x / 64 / 64) 4 _ 1 (by omega) (by omega) (by omega) (by simp) (by simp) _ ?_
        refine ev_eq (last_one (x / 64 / 64 / 64) 4 _ (240 + x / 262144) (by omega) (by simp) ?_) ?_
        · rw [show (shr .i64 3840 4) % 256 = 240 by decide +kernel, show (x / 64 / 64 / 64) % 256 = x / 262144 from by omega]
          exact u8_or240 _ (by omega) (by omega)
        · simp
          omega
theorem one_ev (r : Int) : Ev (fun k => runes_one.f k r) (one r) := by
  unfold runes_one.f
  refine ev_bind1 (valid_eq r) (ev_ite (fun h => ?_) (fun h => ?_))
  · exact ev_eq (one_j h) (by simp [one, h])
  · exact ev_eq (one_j valid_odd) (by simp [one, h])

theorem encode_l (l : List Int) : ∀ (d i : Nat) (o : List Int), l.length - i = d → i ≤ l.length → o.length + 4 * (l.length - i) < 140737488355328 → l.length ≤ 9223372036854775807 →
    Ev (fun k => runes_Encode.l0 k o l (l.length : Int) (i : Int)) (o ++ encode (l.drop i)) := by
  intro d
  induction d with
  | zero =>
    intro i o hd hi ho hl
    refine Ev.step (f := fun _ => some o) (fun k => ?_) (ev_eq (Ev.now _) ?_)
    · simp only [runes_Encode.l0]
      rw [if_neg (by omega)]
    · rw [List.drop_eq_nil_of_le (by omega)]
      simp [encode_nil]
  | succ d ih =>
    intro i o hd hi ho hl
    have hlt : i < l.length := by omega
    have h1 := one_len l[i]
    refine Ev.step (f := fun k => (runes_one.f k l[i]).bind fun t => if o.length + t.length < 140737488355328 then runes_Encode.l0 k (o ++ t) l (l.length : Int) ((i + 1 : Nat) : Int) else none) (fun k => ?_) ?_
    · simp only [runes_Encode.l0]
      rw [if_pos (by omega), if_pos (by omega), if_pos (by omega), rd_nat l i hlt, wrap_of (by omega) (by omega)]
      rfl
    · refine Ev.bind (one_ev _) (ev_pos (by omega) (ev_eq (ih (i + 1) _ (by omega) (by omega) (by rw [List.length_append]; omega) hl) ?_))
      rw [List.drop_eq_getElem_cons hlt, encode_cons, List.append_assoc]
theorem encode_ev (l : List Int) (h : 4 * l.length < 140737488355328) : Ev (fun k => runes_Encode.f k l) (encode l) := by
  unfold runes_Encode.f
  exact ev_eq (encode_l l l.length 0 [] (by omega) (by omega) (by simpa using h) (by omega)) (by simp)

/-! ### reading -/
end Go.Proofs.YtmeinakeiefcdaaDoor.Pure

/- Package cells: a row's runes, its text; a text's glyphs. -/
namespace Go.Proofs.YtmeinakeiefcdaaDoor.Pure
open Go.RowKit Go.Proofs.YtmeinakeiefcdaaDoorW.PrintWords Go.Proofs.YtmeinakeiefcdaaDoorW.PrintLast Go.Proofs.YtmeinakeiefcdaaDoorW.PrintMore Go.Proofs.YtmeinakeiefcdaaDoor.X Go.Proofs.YtmeinakeiefcdaaDoor.Hand
set_option linter.unusedSimpArgs false
set_option linter.unusedVariables false

/-- The runes of a row. -/
def runesOf (l : List Gl) : List Int := l.map (·.f0)
theorem runesOf_nil : runesOf [] = [] := rfl
theorem runesOf_cons (g : Gl) (l : List Gl) : runesOf (g :: l) = g.f0 :: runesOf l := rfl
theorem runesOf_length (l : List Gl) : (runesOf l).length = l.length := by simp [runesOf]
theorem text_ev (l : List Gl) (h : l.length < 8796093022208) : Ev (fun k => cells_Text.f k l) (strOfNums (encode (runesOf l))) := by
  unfold cells_Text.f
  refine ev_eq (loop_up (fun k o i => cells_Text.l0 k o l (l.length : Int) i) l.length (fun o i => strOfNums (encode (o ++ runesOf (l.drop i)))) (fun o i => o.length = i) ?_ ?_ [] 0 (by omega) rfl) (by simp)
  · intro o ho
    refine Ev.step (f := fun k => (runes_Encode.f k o).bind fun t => some (strOfNums t)) (fun k => by simp only [cells_Text.l0]; rw [if_neg (by omega)]) (Ev.bind (encode_ev o (by omega)) (ev_eq (Ev.now _) (by rw [List.drop_length, runesOf_nil, List.append_nil])))
  · intro o i hi ho ih
    refine Ev.step (f := fun k => cells_Text.l0 k (o ++ [l[i].f0]) l (l.length : Int) ((i + 1 : Nat) : Int)) (fun k => ?_) (ev_eq (ih (o ++ [l[i].f0]) (by simp [ho])) ?_)
    · simp only [cells_Text.l0]
      rw [if_pos (by omega), if_pos (by omega), if_pos (by omega), if_pos (by omega), rdG l i hi, wrap_up hi (by omega)]
    · rw [List.drop_eq_getElem_cons hi, runesOf_cons, List.append_assoc]
      rfl
end Go.Proofs.YtmeinakeiefcdaaDoor.Pure

/- Numbers as a text, and back. -/
namespace Go.Proofs.YtmeinakeiefcdaaDoor.Pure
open Go Go.RowKit Go.Proofs.YtmeinakeiefcdaaDoorW.PrintWords Go.Proofs.YtmeinakeiefcdaaDoorW.PrintLast Go.Proofs.YtmeinakeiefcdaaDoorW.PrintMore Go.Proofs.YtmeinakeiefcdaaDoor.X Go.Proofs.YtmeinakeiefcdaaDoor.Hand
set_option linter.unusedSimpArgs false
set_option linter.unusedVariables false
theorem numsStr_append (a b : List Int) : strOfNums (a ++ b) = strOfNums a ++ strOfNums b := by
  apply ByteArray.ext
  apply Array.ext'
  rw [ByteArray.data_append, Array.toList_append, strOfNums_data, strOfNums_data, strOfNums_data, List.map_append]
theorem numsStr_size (a : List Int) : (strOfNums a).size = a.length := by
  rw [← data_length, strOfNums_data, List.length_map]
theorem numsStr_back {b : List Int} (hb : Bytes b) : bytesOf (strOfNums b) = b := by
  unfold bytesOf
  rw [strOfNums_data, List.map_map]
  conv => rhs; rw [← List.map_id b]
  apply List.map_congr_left
  intro x hx
  have := hb x hx
  simp
  omega
end Go.Proofs.YtmeinakeiefcdaaDoor.Pure

/- A row of rows, read. -/
namespace Go.Proofs.YtmeinakeiefcdaaDoor.Pure
open Go.RowKit Go.Proofs.YtmeinakeiefcdaaDoorW.PrintWords Go.Proofs.YtmeinakeiefcdaaDoorW.PrintLast Go.Proofs.YtmeinakeiefcdaaDoorW.PrintMore Go.Proofs.YtmeinakeiefcdaaDoor.X Go.Proofs.YtmeinakeiefcdaaDoor.Hand
theorem rdL (l : List (List Gl)) (i : Nat) (h : i < l.length) : rd_L6 l (i : Int) = l[i] := by
  simp [rd_L6, List.getD_eq_getElem?_getD, List.getElem?_eq_getElem h]
end Go.Proofs.YtmeinakeiefcdaaDoor.Pure

/- Lines laid flat, made normal, and as bytes: package plain's and the reference's. -/
namespace Go.Proofs.YtmeinakeiefcdaaDoor.Pure
open Go.RowKit Go.Proofs.YtmeinakeiefcdaaDoorW.PrintWords Go.Proofs.YtmeinakeiefcdaaDoorW.PrintLast Go.Proofs.YtmeinakeiefcdaaDoorW.PrintMore Go.Proofs.YtmeinakeiefcdaaDoor.X Go.Proofs.YtmeinakeiefcdaaDoor.Hand
set_option linter.unusedSimpArgs false
set_option linter.unusedVariables false
abbrev Ln := S30
theorem rdN (l : List Ln) (i : Nat) (h : i < l.length) : rd_T30 l (i : Int) = l[i] := by
  simp [rd_T30, List.getD_eq_getElem?_getD, List.getElem?_eq_getElem h]
/-- A line, flat. -/
def flat (x : Ln) : List Gl := if x.f1.length = 0 then [] else List.replicate (max 0 (min x.f0 65535)).toNat sp ++ x.f1
/-- What the chapter's laws look at. -/
def Small (x : Ln) : Prop := x.f0 ≤ 2000 ∧ x.f1.length ≤ 1000 ∧ ∀ g ∈ x.f1, 0 ≤ g.f1 ∧ g.f1 ≤ 255
theorem flat_length {x : Ln} (h : Small x) : (flat x).length ≤ 3000 := by
  obtain ⟨h0, h1, _⟩ := h
  unfold flat
  split
  · simp
  · rw [List.length_append, List.length_replicate]
    omega
theorem flat_set {x : Ln} (h : Small x) : ∀ g ∈ flat x, 0 ≤ g.f1 ∧ g.f1 ≤ 255 := by
  intro g hg
  unfold flat at hg
  split at hg
  · simp at hg
  · rcases List.mem_append.1 hg with hg | hg
    · rw [(List.mem_replicate.1 hg).2]
      decide
    · exact h.2.2 g hg
theorem flat_eq {x : Ln} (h : x.f1.length ≤ 1000000) : layout_Flat.f x.f0 x.f1 x.f2 = some (flat x) := by
  unfold layout_Flat.f flat
  by_cases h0 : x.f1.length = 0
  · rw [if_pos (by omega), if_pos h0]
  · rw [if_neg (by omega), if_neg h0, blank_eq, Option.bind_some, if_pos (by rw [List.length_replicate]; omega)]
noncomputable def prows (l : List Ln) : List (List Gl) := l.map (fun x => nrm (flat x))
theorem prows_length (l : List Ln) : (prows l).length = l.length := by simp [prows]
theorem prows_small {l : List Ln} (h : ∀ x ∈ l, Small x) : ∀ r ∈ prows l, r.length ≤ 3000 := by
  intro r hr
  obtain ⟨x, hx, rfl⟩ := List.mem_map.1 hr
  exact Nat.le_trans (nrm_length _) (flat_length (h x hx))
theorem prows_drop (l : List Ln) (i : Nat) (h : i < l.length) : prows (l.drop i) = nrm (flat l[i]) :: prows (l.drop (i + 1)) := by
  unfold prows
  rw [List.drop_eq_getElem_cons h, List.map_cons]
theorem rows_ev {l : List Ln} (hl : l.length ≤ 1000) (h : ∀ x ∈ l, Small x) : Ev (fun k => plain_Rows.f k l) (prows l) := by
  unfold plain_Rows.f
  refine ev_eq (loop_up (fun k o i => plain_Rows.l0 k o l (l.length : Int) i) l.length (fun o i => o ++ prows (l.drop i)) (fun o i => o.length ≤ i) ?_ ?_ [] 0 (by omega) (by simp)) (by simp)
  · intro o _
    exact Ev.step (f := fun _ => some o) (fun k => by simp only [plain_Rows.l0]; rw [if_neg (by omega)]) (ev_eq (Ev.now _) (by simp [prows]))
  · intro o i hi ho ih
    have hs := h l[i] (List.getElem_mem hi)
    have hf := flat_length hs
    refine Ev.step (f := fun k => (plain_Normal.f k (flat l[i])).bind fun t => if o.length < 5864062014805 then plain_Rows.l0 k (o ++ [t]) l (l.length : Int) ((i + 1 : Nat) : Int) else none) (fun k => ?_) ?_
    · simp only [plain_Rows.l0]
      rw [if_pos (by omega), if_pos (by omega), if_pos (by omega), rdN l i hi, flat_eq (by have := hs.2.1; omega), Option.bind_some, wrap_up hi (by omega)]
    · refine Ev.bind (normal_ev _ (exists_trim (clean (flat l[i]))).choose_spec (by omega)) (ev_pos (by omega) (ev_eq (ih _ (by simp; omega)) ?_))
      rw [prows_drop l i hi, List.append_assoc]
      rfl
/-- Rows as bytes. -/
def lineBytes (r : List Gl) : List Int := encode (runesOf r) ++ [10]
def rowBytes (rs : List (List Gl)) : List Int := (rs.map lineBytes).flatten
theorem rowBytes_drop (rs : List (List Gl)) (i : Nat) (h : i < rs.length) : rowBytes (rs.drop i) = lineBytes rs[i] ++ rowBytes (rs.drop (i + 1)) := by
  unfold rowBytes
  rw [List.drop_eq_getElem_cons h, List.map_cons, List.flatten_cons]
theorem lineBytes_length (r : List Gl) : (lineBytes r).length ≤ 4 * r.length + 1 := by
  have := encode_length (runesOf r)
  rw [runesOf_length] at this
  unfold lineBytes
  rw [List.length_append]
  simp
  omega
theorem lineBytes_Bytes (r : List Gl) : Bytes (lineBytes r) := by
  intro x hx
  rcases List.mem_append.1 hx with h | h
  · exact encode_bytes _ x h
  · rw [List.mem_singleton.1 h]
    decide
/-- Is it more than is looked at? -/
def longB : List Ln → Int → Bool
  | [], n => decide (n > 400)
  | x :: t, n => if x.f0 > 2000 then true else longB t (n + 1 + (x.f1.length : Int))
def lsum (l : List Ln) : Nat := (l.map (fun x => x.f1.length + 1)).sum
theorem lsum_cons (x : Ln) (t : List Ln) : lsum (x :: t) = x.f1.length + 1 + lsum t := by simp [lsum]
theorem lsum_length : ∀ l : List Ln, l.length ≤ lsum l
  | [] => Nat.zero_le _
  | x :: t => by
    have := lsum_length t
    rw [lsum_cons, List.length_cons]
    omega
theorem longB_false : ∀ (l : List Ln) (n : Int), 0 ≤ n → longB l n = false → n + lsum l ≤ 400 ∧ ∀ x ∈ l, x.f0 ≤ 2000 ∧ x.f1.length ≤ 400
  | [], n, h0, h => by
    simp [longB] at h
    simp [lsum]
    omega
  | x :: t, n, h0, h => by
    rw [longB] at h
    split at h
    · cases h
    · obtain ⟨h1, h2⟩ := longB_false t _ (by omega) h
      rw [lsum_cons]
      refine ⟨by omega, fun y hy => ?_⟩
      rcases List.mem_cons.1 hy with rfl | hy
      · omega
      · exact h2 y hy
theorem long_ev {l : List Ln} (h : lsum l ≤ 1048576) : Ev (fun k => flongref17_Long.f k l) (longB l 0) := by
  have hll := lsum_length l
  unfold flongref17_Long.f
  refine ev_eq (loop_up (fun k n i => flongref17_Long.l0 k l n i) l.length (fun n i => longB (l.drop i) n) (fun n i => 0 ≤ n ∧ n + lsum (l.drop i) ≤ 1048576) ?_ ?_ 0 0 (by omega) (by simp; omega)) (by simp)
  · intro n _
    exact Ev.step (f := fun _ => some (decide (n > 400))) (fun k => by simp only [flongref17_Long.l0]; rw [if_neg (by omega)]) (ev_eq (Ev.now _) (by rw [List.drop_length]; rfl))
  · intro n i hi hn ih
    rw [List.drop_eq_getElem_cons hi, lsum_cons] at hn
    rw [List.drop_eq_getElem_cons hi, longB]
    refine Ev.step (f := fun k => if l[i].f0 > 2000 then some true else flongref17_Long.l0 k l (n + 1 + (l[i].f1.length : Int)) ((i + 1 : Nat) : Int)) (fun k => ?_) ?_
    · simp only [flongref17_Long.l0]
      rw [if_pos (by omega), if_pos (by omega), rdN l i hi, wrap_up hi (by omega), wrap_of (x := n + 1) (by omega) (by omega), wrap_of (x := n + 1 + _) (by omega) (by omega)]
    · refine ev_ite (fun h => ev_eq (Ev.now _) (by rw [if_pos h])) (fun h => ?_)
      rw [if_neg h]
      exact ih _ ⟨by omega, by omega⟩
end Go.Proofs.YtmeinakeiefcdaaDoor.Pure

/- The first rune of bytes. -/
namespace Go.Proofs.YtmeinakeiefcdaaDoor.Pure
open Go.RowKit Go.Proofs.YtmeinakeiefcdaaDoorW.PrintWords Go.Proofs.YtmeinakeiefcdaaDoorW.PrintLast Go.Proofs.YtmeinakeiefcdaaDoorW.PrintMore Go.Proofs.YtmeinakeiefcdaaDoor.X Go.Proofs.YtmeinakeiefcdaaDoor.Hand
set_option linter.unusedSimpArgs false
set_option linter.unusedVariables false

theorem u8_and192 {x : Int} (h0 : 0 ≤ x) (h1 : x ≤ 255) : Go.bits .and .u8 x 192 = 128 ↔ (128 ≤ x ∧ x < 192) := by
  have h : ∀ n : Nat, n < 256 → (Go.bits .and .u8 (n : Int) 192 = 128 ↔ (128 ≤ (n : Int) ∧ (n : Int) < 192)) := by decide +kernel
  obtain ⟨n, rfl⟩ := Int.eq_ofNat_of_zero_le h0
  exact h n (by omega)
theorem u8_and224 {x : Int} (h0 : 0 ≤ x) (h1 : x ≤ 255) : Go.bits .and .u8 x 224 = 192 ↔ (192 ≤ x ∧ x < 224) := by
  have h : ∀ n : Nat, n < 256 → (Go.bits .and .u8 (n : Int) 224 = 192 ↔ (192 ≤ (n : Int) ∧ (n : Int) < 224)) := by decide +kernel
  obtain ⟨n, rfl⟩ := Int.eq_ofNat_of_zero_le h0
  exact h n (by omega)
theorem u8_and240 {x : Int} (h0 : 0 ≤ x) (h1 : x ≤ 255) : Go.bits .and .u8 x 240 = 224 ↔ (224 ≤ x ∧ x < 240) := by
  have h : ∀ n : Nat, n < 256 → (Go.bits .and .u8 (n : Int) 240 = 224 ↔ (224 ≤ (n : Int) ∧ (n : Int) < 240)) := by decide +kernel
  obtain ⟨n, rfl⟩ := Int.eq_ofNat_of_zero_le h0
  exact h n (by omega)
theorem u8_and248 {x : Int} (h0 : 0 ≤ x) (h1 : x ≤ 255) : Go.bits .and .u8 x 248 = 240 ↔ (240 ≤ x ∧ x < 248) := by
  have h : ∀ n : Nat, n < 256 → (Go.bits .and .u8 (n : Int) 248 = 240 ↔ (240 ≤ (n : Int) ∧ (n : Int) < 248)) := by decide +kernel
  obtain ⟨n, rfl⟩ := Int.eq_ofNat_of_zero_le h0
  exact h n (by omega)

/-- The value of the bytes behind the first one; none where one is none of these. -/
def accum : Int → List Int → Option Int
  | x, [] => some x
  | x, d :: t => if cont d = true then accum (x * 64 + (d - 128)) t else none
def told (n : Int) : Option Int → Int × Int
  | some x => if validB x = true ∧ (if x < 128 then (1 : Int) else if x < 2048 then 2 else if x < 65536 then 3 else 4) = n then (x, n) else (65533, 1)
  | none => (65533, 1)

theorem first_l (n : Int) (y : List Int) (hy : Bytes y) (hl : y.length ≤ 3) : ∀ (d i : Nat) (x : Int), y.length - i = d → i ≤ y.length → 0 ≤ x → x < 2 ^ (12 + 6 * i) / 128 →
    Ev (fun k => runes_first.l0 k n x y (y.length : Int) (i : Int)) (told n (accum x (y.drop i))) := by
  intro d
  induction d with
  | zero =>
    intro i x hd hi hx hx1
    refine Ev.step (f := fun _ => (runes_Valid.f x).bind fun t => if t = true then ((runes_size.f x).bind fun t => if t = n then some (x, n) else some (65533, 1)) else some (65533, 1)) (fun k => ?_) ?_
    · simp only [runes_first.l0]
      rw [if_neg (by omega)]
    · rw [List.drop_eq_nil_of_le (by omega)]
      refine ev_one ?_
      rw [valid_eq, Option.bind_some, size_eq, Option.bind_some]
      simp only [accum, told]
      by_cases h1 : validB x = true
      · rw [if_pos h1]
        by_cases h2 : (if x < 128 then (1 : Int) else if x < 2048 then 2 else if x < 65536 then 3 else 4) = n
        · rw [if_pos h2, if_pos ⟨h1, h2⟩]
        · rw [if_neg h2, if_neg (fun h => h2 h.2)]
      · rw [if_neg h1, if_neg (fun h => h1 h.1)]
  | succ d ih =>
    intro i x hd hi hx hx1
    have hlt : i < y.length := by omega
    have hb := hy y[i] (List.getElem_mem _)
    have hx2 : x < 33554432 := by
      have : i ≤ 2 := by omega
      rcases (by omega : i = 0 ∨ i = 1 ∨ i = 2) with rfl | rfl | rfl <;> omega
    have hdrop := List.drop_eq_getElem_cons hlt
    by_cases hc : cont y[i] = true
    · have hc' := (cont_iff _).1 hc
      have e1 : wrap32 (Go.bits .and .u8 y[i] 63) = y[i] - 128 := by
        rw [u8_and63 y[i] (by omega) (by omega), wrap32_of (by omega) (by omega)]
        omega
      have e2 : Go.bits .or .i32 (wrap32 (x * 64)) (wrap32 (Go.bits .and .u8 y[i] 63)) = x * 64 + (y[i] - 128) := by
        rw [e1, wrap32_of (by omega) (by omega)]
        exact i32_or6 (x * 64) (y[i] - 128) (by omega) (by omega) (by omega) (by omega) (by omega)
      refine Ev.step (f := fun k => runes_first.l0 k n (x * 64 + (y[i] - 128)) y (y.length : Int) ((i + 1 : Nat) : Int)) (fun k => ?_) ?_
      · simp only [runes_first.l0]
        rw [if_pos (by omega), if_pos (by omega), if_pos (by omega), rd_nat y i hlt, if_pos ((u8_and192 (by omega) (by omega)).2 hc'), e2, wrap_of (by omega) (by omega)]
        rfl
      · refine ev_eq (ih (i + 1) _ (by omega) (by omega) (by omega) ?_) ?_
        · rcases (by omega : i = 0 ∨ i = 1 ∨ i = 2) with rfl | rfl | rfl <;> omega
        · rw [hdrop]
          simp [accum, hc]
    · have hc' : ¬ (128 ≤ y[i] ∧ y[i] < 192) := fun h => hc ((cont_iff _).2 h)
      refine Ev.step (f := fun _ => some (65533, 1)) (fun k => ?_) (ev_eq (Ev.now _) ?_)
      · simp only [runes_first.l0]
        rw [if_pos (by omega), if_pos (by omega), if_pos (by omega), rd_nat y i hlt, if_neg (fun h => hc' ((u8_and192 (by omega) (by omega)).1 h))]
      · rw [hdrop]
        simp [accum, hc, told]

theorem first_j (l : List Int) (n : Nat) (x : Int) (hb : Bytes l) (hn : 2 ≤ n) (hn4 : n ≤ 4) (hx : 0 ≤ x) (hx1 : x < 32) :
    Ev (fun k => runes_first.j0 k l (n : Int) x) (if l.length < n then (65533, 1) else told n (accum x ((l.take n).drop 1))) := by
  have hj1 : ∀ b : Bool, Ev (fun k => runes_first.j1 k l (n : Int) x b) (if b = true then (65533, 1) else if l.length < n then (65533, 1) else told n (accum x ((l.take n).drop 1))) ∨ (b = false ∧ l.length < n) := by
    intro b
    cases b with
    | true =>
      left
      refine Ev.step (f := fun _ => some (65533, 1)) (fun k => ?_) (ev_eq (Ev.now _) (by simp))
      simp only [runes_first.j1, if_true]
    | false =>
      by_cases hl : l.length < n
      · exact .inr ⟨rfl, hl⟩
      · left
        have hlen : ((l.take n).drop 1).length ≤ 3 := by simp; omega
        refine Ev.step (f := fun k => runes_first.l0 k (n : Int) x ((l.take n).drop 1) (((l.take n).drop 1).length : Int) ((0 : Nat) : Int)) (fun k => ?_) (ev_eq (first_l n _ (fun z hz => hb z (List.mem_of_mem_take (List.mem_of_mem_drop hz))) hlen _ 0 x rfl (by omega) hx (by omega)) ?_)
        · simp only [runes_first.j1]
          rw [if_neg (by simp), if_pos (by omega), if_pos (by omega), Option.bind_some, Int.toNat_natCast]
          rfl
        · simp [hl]
  refine Ev.step (f := fun k => if (n : Int) = 0 then runes_first.j1 k l n x true else runes_first.j1 k l n x (decide ((l.length : Int) < n))) (fun k => by simp only [runes_first.j0]) ?_
  refine ev_neg (by omega) ?_
  by_cases hl : l.length < n
  · rw [decide_eq_true (by omega)]
    rcases hj1 true with h | h
    · exact ev_eq h (by simp [hl])
    · cases h.1
  · rw [decide_eq_false (by omega)]
    rcases hj1 false with h | h
    · exact ev_eq h (by simp [hl])
    · exact absurd h.2 hl
end Go.Proofs.YtmeinakeiefcdaaDoor.Pure

/- How wide a row of runes is. -/
namespace Go.Proofs.YtmeinakeiefcdaaDoor.Pure
open Go.RowKit Go.Proofs.YtmeinakeiefcdaaDoorW.PrintWords Go.Proofs.YtmeinakeiefcdaaDoorW.PrintLast Go.Proofs.YtmeinakeiefcdaaDoorW.PrintMore Go.Proofs.YtmeinakeiefcdaaDoor.X Go.Proofs.YtmeinakeiefcdaaDoor.Hand
set_option linter.unusedSimpArgs false
set_option linter.unusedVariables false
/-- How wide a row is. -/
def sum (l : List Int) : Int := (l.map wid).sum
theorem sum_cons (r : Int) (l : List Int) : sum (r :: l) = wid r + sum l := by simp [sum]
end Go.Proofs.YtmeinakeiefcdaaDoor.Pure

/- What package runes reads of bytes: its printed functions answer by plain functions. -/
namespace Go.Proofs.YtmeinakeiefcdaaDoor.Pure
open Go.RowKit Go.Proofs.YtmeinakeiefcdaaDoorW.PrintWords Go.Proofs.YtmeinakeiefcdaaDoorW.PrintLast Go.Proofs.YtmeinakeiefcdaaDoorW.PrintMore Go.Proofs.YtmeinakeiefcdaaDoor.X Go.Proofs.YtmeinakeiefcdaaDoor.Hand
set_option linter.unusedSimpArgs false
set_option linter.unusedVariables false

theorem size2 {r : Int} (h : r < 2048) : (if r < 128 then (1 : Int) else if r < 2048 then 2 else if r < 65536 then 3 else 4) = 2 ↔ 128 ≤ r := by
  repeat' split
  all_goals omega
theorem size3 {r : Int} (h : r < 65536) : (if r < 128 then (1 : Int) else if r < 2048 then 2 else if r < 65536 then 3 else 4) = 3 ↔ 2048 ≤ r := by
  repeat' split
  all_goals omega
theorem size4 {r : Int} : (if r < 128 then (1 : Int) else if r < 2048 then 2 else if r < 65536 then 3 else 4) = 4 ↔ 65536 ≤ r := by
  repeat' split
  all_goals omega
theorem told2 {x d : Int} (hx : 0 ≤ x) (hx1 : x < 32) : told 2 (accum x [d]) = if cont d = true ∧ 128 ≤ x * 64 + (d - 128) then (x * 64 + (d - 128), 2) else (65533, 1) := by
  simp only [accum]
  by_cases hd : cont d = true
  · have hd' := (cont_iff d).1 hd
    have hv : validB (x * 64 + (d - 128)) = true := (validB_iff _).2 (by omega)
    have hs := size2 (r := x * 64 + (d - 128)) (by omega)
    simp only [hd, if_true, told, hv, true_and, hs]
  · simp [hd, told]
theorem told3 {x d e : Int} (hx : 0 ≤ x) (hx1 : x < 16) : told 3 (accum x [d, e]) = if cont d = true ∧ cont e = true ∧ 2048 ≤ (x * 64 + (d - 128)) * 64 + (e - 128) ∧ validB ((x * 64 + (d - 128)) * 64 + (e - 128)) = true then ((x * 64 + (d - 128)) * 64 + (e - 128), 3) else (65533, 1) := by
  simp only [accum]
  by_cases hd : cont d = true
  · by_cases he : cont e = true
    · have hd' := (cont_iff d).1 hd
      have he' := (cont_iff e).1 he
      have hs := size3 (r := (x * 64 + (d - 128)) * 64 + (e - 128)) (by omega)
      simp only [hd, he, if_true, told, true_and, hs, and_comm]
    · simp [hd, he, told]
  · simp [hd, told]
theorem told4 {x d e f : Int} : told 4 (accum x [d, e, f]) = if cont d = true ∧ cont e = true ∧ cont f = true ∧ 65536 ≤ ((x * 64 + (d - 128)) * 64 + (e - 128)) * 64 + (f - 128) ∧ validB (((x * 64 + (d - 128)) * 64 + (e - 128)) * 64 + (f - 128)) = true
    then (((x * 64 + (d - 128)) * 64 + (e - 128)) * 64 + (f - 128), 4) else (65533, 1) := by
  simp only [accum]
  by_cases hd : cont d = true
  · by_cases he : cont e = true
    · by_cases hf : cont f = true
      · have hs := size4 (r := ((x * 64 + (d - 128)) * 64 + (e - 128)) * 64 + (f - 128))
        simp only [hd, he, hf, if_true, told, true_and, hs, and_comm]
      · simp [hd, he, hf, told]
    · simp [hd, he, told]
  · simp [hd, told]

theorem first_ev {l : List Int} (hb : Bytes l) (hl : l ≠ []) : Ev (fun k => runes_first.f k l) ((firstRune l).1, ((firstRune l).2 : Int)) := by
  obtain ⟨c, t, rfl⟩ := List.exists_cons_of_ne_nil hl
  have hc := hb c (by simp)
  have h0 : rd (c :: t) 0 = c := rfl
  unfold runes_first.f
  refine ev_pos (by simp only [List.length_cons]; omega) ?_
  simp only [h0]
  by_cases h1 : c < 128
  · refine ev_pos h1 (ev_eq (Ev.now _) ?_)
    rw [wrap32_of (by omega) (by omega)]
    simp [firstRune, h1]
  refine ev_neg h1 ?_
  by_cases h2 : 192 ≤ c ∧ c < 224
  · refine ev_pos ((u8_and224 (by omega) (by omega)).2 h2) ?_
    rw [u8_and31 c (by omega) (by omega), wrap32_of (by omega) (by omega)]
    refine ev_eq (first_j (c :: t) 2 (c % 32) hb (by omega) (by omega) (by omega) (by omega)) ?_
    have e : c % 32 = c - 192 := by omega
    rw [e]
    match t with
    | [] => simp [firstRune, h1, h2]
    | d :: t' =>
      rw [if_neg (by simp)]
      show told 2 (accum (c - 192) [d]) = _
      rw [told2 (by omega) (by omega)]
      simp only [firstRune, h1, h2, if_true, if_false, and_self]
      split <;> rfl
  refine ev_neg (fun h => h2 ((u8_and224 (by omega) (by omega)).1 h)) ?_
  by_cases h3 : 224 ≤ c ∧ c < 240
  · refine ev_pos ((u8_and240 (by omega) (by omega)).2 h3) ?_
    rw [u8_and15 c (by omega) (by omega), wrap32_of (by omega) (by omega)]
    refine ev_eq (first_j (c :: t) 3 (c % 16) hb (by omega) (by omega) (by omega) (by omega)) ?_
    have e : c % 16 = c - 224 := by omega
    rw [e]
    match t with
    | [] => simp [firstRune, h1, h2, h3]
    | [d] => simp [firstRune, h1, h2, h3]
    | d :: e :: t' =>
      rw [if_neg (by simp)]
      show told 3 (accum (c - 224) [d, e]) = _
      rw [told3 (by omega) (by omega)]
      simp only [firstRune, h1, h2, h3, if_true, if_false, and_self]
      split <;> rfl
  refine ev_neg (fun h => h3 ((u8_and240 (by omega) (by omega)).1 h)) ?_
  by_cases h4 : 240 ≤ c ∧ c < 248
  · refine ev_pos ((u8_and248 (by omega) (by omega)).2 h4) ?_
    rw [u8_and7 c (by omega) (by omega), wrap32_of (by omega) (by omega)]
    refine ev_eq (first_j (c :: t) 4 (c % 8) hb (by omega) (by omega) (by omega) (by omega)) ?_
    have e : c % 8 = c - 240 := by omega
    rw [e]
    match t with
    | [] => simp [firstRune, h1, h2, h3, h4]
    | [d] => simp [firstRune, h1, h2, h3, h4]
    | [d, e] => simp [firstRune, h1, h2, h3, h4]
    | d :: e :: f :: t' =>
      rw [if_neg (by simp)]
      show told 4 (accum (c - 240) [d, e, f]) = _
      rw [told4]
      simp only [firstRune, h1, h2, h3, h4, if_true, if_false, and_self]
      split <;> rfl
  refine ev_neg (fun h => h4 ((u8_and248 (by omega) (by omega)).1 h)) ?_
  refine Ev.step (f := fun k => runes_first.j1 k (c :: t) 0 0 true) (fun k => by simp only [runes_first.j0, if_true]) ?_
  refine Ev.step (f := fun _ => some (65533, 1)) (fun k => by simp only [runes_first.j1, if_true]) (ev_eq (Ev.now _) ?_)
  simp [firstRune, h1, h2, h3, h4]

theorem decode_l : ∀ x, Bytes x → ∀ o : List Int, o.length + x.length < 35184372088832 → Ev (fun k => runes_Decode.l0 k x o) (o ++ decode x) :=
  bytes_ind (P := fun x => ∀ o : List Int, o.length + x.length < 35184372088832 → Ev (fun k => runes_Decode.l0 k x o) (o ++ decode x))
    (fun o ho => Ev.step (f := fun _ => some o) (fun k => by simp [runes_Decode.l0]) (ev_eq (Ev.now _) (by simp [decode_nil])))
    fun x hb hx ih o ho => by
      have h0 : 0 < x.length := List.length_pos_iff.2 hx
      have h1 := first_fits hb hx
      have h2 := first_len x
      refine Ev.step (f := fun k => (runes_first.f k x).bind fun bt => if o.length < 35184372088832 then (if 0 ≤ bt.2 then (if bt.2 ≤ (x.length : Int) then runes_Decode.l0 k (x.drop (bt.2 : Int).toNat) (o ++ [bt.1]) else none) else none) else none) (fun k => ?_) ?_
      · simp only [runes_Decode.l0]
        rw [if_pos (by omega)]
      · refine Ev.bind (first_ev hb hx) (ev_pos (by omega) (ev_pos (by omega) (ev_pos (by simp only; omega) ?_)))
        simp only [Int.toNat_natCast]
        refine ev_eq (ih (o ++ [(firstRune x).1]) ?_) ?_
        · rw [List.length_append, List.length_drop, List.length_singleton]
          omega
        · rw [decode_cons hb hx, List.append_assoc]
          rfl
theorem decode_ev {l : List Int} (hb : Bytes l) (h : l.length < 35184372088832) : Ev (fun k => runes_Decode.f k l) (decode l) := by
  unfold runes_Decode.f
  exact ev_eq (decode_l l hb [] (by simpa using h)) (by simp)

end Go.Proofs.YtmeinakeiefcdaaDoor.Pure

/- How wide a row of glyphs is. -/
namespace Go.Proofs.YtmeinakeiefcdaaDoor.Pure
open Go.RowKit Go.Proofs.YtmeinakeiefcdaaDoorW.PrintWords Go.Proofs.YtmeinakeiefcdaaDoorW.PrintLast Go.Proofs.YtmeinakeiefcdaaDoorW.PrintMore Go.Proofs.YtmeinakeiefcdaaDoor.X Go.Proofs.YtmeinakeiefcdaaDoor.Hand
set_option linter.unusedSimpArgs false
set_option linter.unusedVariables false
/-- How wide a row is. -/
def width (l : List Gl) : Int := sum (l.map (·.f0))
theorem width_nil : width [] = 0 := rfl
theorem width_cons (g : Gl) (l : List Gl) : width (g :: l) = wid g.f0 + width l := by simp [width, sum_cons]
theorem width_ev (l : List Gl) (h : l.length ≤ 4611686018427387903) : Ev (fun k => cells_Width.f k l) (width l) := by
  unfold cells_Width.f
  refine ev_eq (loop_up (fun k n i => cells_Width.l0 k n l (l.length : Int) i) l.length (fun n i => n + width (l.drop i)) (fun n i => 0 ≤ n ∧ n ≤ 2 * i) ?_ ?_ 0 0 (by omega) ⟨by omega, by omega⟩) (by simp)
  · intro n _
    exact Ev.step (f := fun _ => some n) (fun k => by simp only [cells_Width.l0]; rw [if_neg (by omega)]) (ev_eq (Ev.now _) (by simp [width_nil]))
  · intro n i hi ⟨h0, h1⟩ ih
    have hw := wid_range l[i].f0
    refine Ev.step (f := fun k => cells_Width.l0 k (n + wid l[i].f0) l (l.length : Int) ((i + 1 : Nat) : Int)) (fun k => ?_) (ev_eq (ih (n + wid l[i].f0) ⟨by omega, by omega⟩) ?_)
    · simp only [cells_Width.l0]
      rw [if_pos (by omega), if_pos (by omega), if_pos (by omega), rdG l i hi, show runes_Width.f l[i].f0 = some (wid l[i].f0) from rfl, Option.bind_some, wrap_of (x := n + wid l[i].f0) (by omega) (by omega), wrap_up hi (by omega)]
    · rw [List.drop_eq_getElem_cons hi, width_cons]
      omega
end Go.Proofs.YtmeinakeiefcdaaDoor.Pure

/- The bytes of a glyph, struck over: package over's. -/
namespace Go.Proofs.YtmeinakeiefcdaaDoor.Pure
open Go Go.RowKit Go.Proofs.YtmeinakeiefcdaaDoorW.PrintWords Go.Proofs.YtmeinakeiefcdaaDoorW.PrintLast Go.Proofs.YtmeinakeiefcdaaDoorW.PrintMore Go.Proofs.YtmeinakeiefcdaaDoor.X Go.Proofs.YtmeinakeiefcdaaDoor.Hand
set_option linter.unusedSimpArgs false
set_option linter.unusedVariables false
/-- The bytes of a glyph. -/
def oneV (g : Gl) : List Int :=
  if wid (cleanG g).f0 = 0 ∨ (cleanG g).f0 = 32 then one (cleanG g).f0
  else ((if (cleanG g).f1 < 2 then [] else List.replicate (wid (cleanG g).f0).toNat 95 ++ List.replicate (wid (cleanG g).f0).toNat 8)
    ++ (if (cleanG g).f1 % 2 = 0 then [] else one (cleanG g).f0 ++ List.replicate (wid (cleanG g).f0).toNat 8)) ++ one (cleanG g).f0
theorem bits_2 {f : Int} (h : 0 ≤ f ∧ f ≤ 3) : Go.bits .and .u8 f 2 = 0 ↔ f < 2 := by
  have h1 : ∀ n : Nat, n < 4 → (Go.bits .and .u8 (n : Int) 2 = 0 ↔ (n : Int) < 2) := by decide +kernel
  obtain ⟨n, rfl⟩ := Int.eq_ofNat_of_zero_le h.1
  exact h1 n (by omega)
theorem bits_1 {f : Int} (h : 0 ≤ f ∧ f ≤ 3) : Go.bits .and .u8 f 1 = 0 ↔ f % 2 = 0 := by
  have h1 : ∀ n : Nat, n < 4 → (Go.bits .and .u8 (n : Int) 1 = 0 ↔ (n : Int) % 2 = 0) := by decide +kernel
  obtain ⟨n, rfl⟩ := Int.eq_ofNat_of_zero_le h.1
  exact h1 n (by omega)
theorem one_Bytes (r : Int) : Bytes (one r) := one_bytes r
theorem encode_one (r : Int) : encode [r] = one r := by rw [encode_cons, encode_nil, List.append_nil]
theorem clean_one (g : Gl) : clean [g] = if 0 < wid (cleanG g).f0 then [cleanG g] else [] := by
  unfold clean
  rw [List.map_cons, List.map_nil, List.dropWhile_cons]
  by_cases h : 0 < wid (cleanG g).f0
  · rw [if_pos h, if_neg (by simp; omega)]
  · rw [if_neg h, if_pos (by simp; omega)]
    rfl
theorem oneB_eq {r : Int} {f : Int} (hf : 0 ≤ f ∧ f ≤ 3) (n : Nat) : oneB (strOfNums (one r)) n f = ((if f < 2 then [] else List.replicate n 95 ++ List.replicate n 8) ++ (if f % 2 = 0 then [] else one r ++ List.replicate n 8)) ++ one r := by
  unfold oneB
  rw [numsStr_back (one_Bytes r)]
  congr 2
  · by_cases h : f < 2
    · rw [if_pos h, if_pos ((bits_2 hf).2 h)]
    · rw [if_neg h, if_neg (fun e => h ((bits_2 hf).1 e))]
  · by_cases h : f % 2 = 0
    · rw [if_pos h, if_pos ((bits_1 hf).2 h)]
    · rw [if_neg h, if_neg (fun e => h ((bits_1 hf).1 e))]
theorem over_one_ev (g : Gl) (h : 0 ≤ g.f1 ∧ g.f1 ≤ 255) : Ev (fun k => over_One.f k g.f0 g.f1) (oneV g) := by
  have hcl := cleanG_Cl g h
  have hwr := wid_range (cleanG g).f0
  have hol := one_len (cleanG g).f0
  unfold over_One.f
  refine Ev.bind (clean_ev [g] (by simp)) ?_
  rw [clean_one]
  by_cases hw : 0 < wid (cleanG g).f0
  · rw [if_pos hw]
    have hrd : rd_T35 [cleanG g] 0 = cleanG g := rfl
    have he : encode (runesOf [cleanG g]) = one (cleanG g).f0 := encode_one _
    have hwd : width [cleanG g] = wid (cleanG g).f0 := by rw [width_cons, width_nil]; omega
    refine ev_neg (by simp) (Ev.bind (text_ev [cleanG g] (by simp)) (Ev.bind (width_ev [cleanG g] (by simp)) ?_))
    rw [hrd, he, hwd]
    refine ev_ite (fun hp => ?_) (fun hp => ?_)
    · refine ev_one ?_
      unfold conv_bytes.f oneV
      rw [if_pos (by rw [numsStr_size]; omega), numsStr_back (one_Bytes _)]
      congr 1
      by_cases h32 : (cleanG g).f0 = 32
      · rw [if_pos (.inr h32)]
      · have h0 := hp.resolve_left h32
        rw [if_neg (by omega), if_pos (by omega), if_pos (by omega)]
        rfl
    · refine ev_pos ⟨by omega, by omega, by rw [numsStr_size]; omega⟩ (ev_eq (Ev.now _) ?_)
      have hneg : ¬ (wid (cleanG g).f0 = 0 ∨ (cleanG g).f0 = 32) := by omega
      unfold oneV
      rw [oneB_eq ⟨hcl.2.2.1, hcl.2.2.2.1⟩, if_neg hneg]
  · rw [if_neg hw]
    have h160 : g.f0 ≠ 160 := by
      intro e
      apply hw
      unfold cleanG
      rw [if_pos e]
      show 0 < wid (safe 32)
      decide +kernel
    have hr : (cleanG g).f0 = safe g.f0 := by
      unfold cleanG
      rw [if_neg h160]
    refine ev_pos rfl (Ev.bind (safe_ev g.f0) (ev_eq (encode_ev [safe g.f0] (by simp)) ?_))
    rw [encode_one, oneV, if_pos (by omega), hr]
theorem oneV_length (g : Gl) : (oneV g).length ≤ 20 := by
  have hwr := wid_range (cleanG g).f0
  have hol := one_len (cleanG g).f0
  unfold oneV
  split
  · omega
  · split <;> split <;> simp only [List.length_append, List.length_replicate, List.length_nil] <;> omega
theorem oneV_Bytes (g : Gl) : Bytes (oneV g) := by
  have hr : ∀ (n : Nat) (x : Int), 0 ≤ x ∧ x ≤ 255 → Bytes (List.replicate n x) := fun n x hx y hy => by rw [List.eq_of_mem_replicate hy]; exact hx
  have hn : Bytes ([] : List Int) := fun x hx => by simp at hx
  unfold oneV
  split
  · exact one_Bytes _
  · refine bytes_append (bytes_append ?_ ?_) (one_Bytes _)
    · split
      · exact hn
      · exact bytes_append (hr _ _ (by decide)) (hr _ _ (by decide))
    · split
      · exact hn
      · exact bytes_append (one_Bytes _) (hr _ _ (by decide))
/-- The bytes of a row. -/
def rowO (c : List Gl) : List Int := c.flatMap oneV
theorem rowO_cons (g : Gl) (t : List Gl) : rowO (g :: t) = oneV g ++ rowO t := by simp [rowO]
theorem rowO_length : ∀ c : List Gl, (rowO c).length ≤ 20 * c.length
  | [] => by simp [rowO]
  | g :: t => by
    have h1 := oneV_length g
    have h2 := rowO_length t
    rw [rowO_cons, List.length_append, List.length_cons]
    omega
theorem rowO_Bytes (c : List Gl) : Bytes (rowO c) := by
  intro x hx
  obtain ⟨g, _, hg⟩ := List.mem_flatMap.1 hx
  exact oneV_Bytes g x hg
end Go.Proofs.YtmeinakeiefcdaaDoor.Pure

/- Small facts on bytes, struck over. -/
namespace Go.Proofs.YtmeinakeiefcdaaDoor.Pure
open Go Go.RowKit Go.Proofs.YtmeinakeiefcdaaDoorW.PrintWords Go.Proofs.YtmeinakeiefcdaaDoorW.PrintLast Go.Proofs.YtmeinakeiefcdaaDoorW.PrintMore Go.Proofs.YtmeinakeiefcdaaDoor.X Go.Proofs.YtmeinakeiefcdaaDoor.Hand
set_option linter.unusedSimpArgs false
set_option linter.unusedVariables false
theorem s95 : (⟨#[95]⟩ : ByteArray) = strOfNums [95] := by decide +kernel
theorem s8 : (⟨#[8]⟩ : ByteArray) = strOfNums [8] := by decide +kernel
theorem s0 : (⟨#[]⟩ : ByteArray) = strOfNums [] := by decide +kernel
theorem conv_now {b : List Int} (hb : Bytes b) (h : b.length ≤ 1000000) : conv_bytes.f (strOfNums b) = some b := by
  unfold conv_bytes.f
  rw [if_pos (by rw [numsStr_size]; omega), numsStr_back hb]
theorem rep_Bytes (n : Nat) (x : Int) (h : 0 ≤ x ∧ x ≤ 255) : Bytes (List.replicate n x) := fun y hy => by rw [List.eq_of_mem_replicate hy]; exact h
theorem f4 {f : Int} (h : 0 ≤ f ∧ f ≤ 255) : Go.bits .and .u8 f 3 = f % 4 := by
  have h1 : ∀ n : Nat, n < 256 → Go.bits .and .u8 (n : Int) 3 = (n : Int) % 4 := by decide +kernel
  obtain ⟨n, rfl⟩ := Int.eq_ofNat_of_zero_le h.1
  exact h1 n (by omega)
end Go.Proofs.YtmeinakeiefcdaaDoor.Pure

/- Whether bytes begin so: strings.HasPrefix. -/
namespace Go.Proofs.YtmeinakeiefcdaaDoor.Pure
open Go Go.RowKit Go.Proofs.YtmeinakeiefcdaaDoorW.PrintWords Go.Proofs.YtmeinakeiefcdaaDoorW.PrintLast Go.Proofs.YtmeinakeiefcdaaDoorW.PrintMore Go.Proofs.YtmeinakeiefcdaaDoor.X Go.Proofs.YtmeinakeiefcdaaDoor.Hand
set_option linter.unusedSimpArgs false
set_option linter.unusedVariables false
theorem str_part (c : List Int) (i j : Nat) : (strOfNums c).extract i j = strOfNums ((c.take j).drop i) := by
  apply ByteArray.ext
  apply Array.ext'
  rw [ByteArray.data_extract, Array.toList_extract, strOfNums_data, strOfNums_data, List.extract_eq_take_drop, List.drop_take, List.map_take, List.map_drop]
theorem str_same {a b : List Int} (ha : Bytes a) (hb : Bytes b) : ((strOfNums a).toList == (strOfNums b).toList) = decide (a = b) := by
  have key : (strOfNums a).toList = (strOfNums b).toList ↔ a = b := by
    rw [ByteArray.toList_eq, ByteArray.toList_eq]
    constructor
    · intro h
      have h2 : bytesOf (strOfNums a) = bytesOf (strOfNums b) := by unfold bytesOf; rw [h]
      rwa [numsStr_back ha, numsStr_back hb] at h2
    · intro h
      rw [h]
  by_cases h : a = b
  · rw [decide_eq_true h, beq_iff_eq]
    exact key.2 h
  · rw [decide_eq_false h, beq_eq_false_iff_ne]
    exact fun e => h (key.1 e)
theorem prefix_eq {b p : List Int} (hb : Bytes b) (hp : Bytes p) : strings_HasPrefix.f (strOfNums b) (strOfNums p) = some (decide (p <+: b)) := by
  unfold strings_HasPrefix.f stringslite_HasPrefix.f
  rw [numsStr_size, numsStr_size]
  by_cases h : p.length ≤ b.length
  · rw [if_pos (by omega), if_pos (by omega), if_pos (by omega), Option.bind_some, str_part, Int.toNat_natCast, List.drop_zero, str_same (fun x hx => hb x (List.mem_of_mem_take hx)) hp]
    congr 1
    rw [decide_eq_decide, List.prefix_iff_eq_take]
    exact eq_comm
  · rw [if_neg (by omega), Option.bind_some]
    congr 1
    symm
    rw [decide_eq_false_iff_not]
    exact fun e => h e.length_le
end Go.Proofs.YtmeinakeiefcdaaDoor.Pure

/- A text turned into runes, as if that were a call; and runes turned into a text: what the model's conversions answer. -/
namespace Go.Proofs.YtmeinakeiefcdaaDoor.Hand
open Go.RowKit Go.Proofs.YtmeinakeiefcdaaDoorW.PrintWords Go.Proofs.YtmeinakeiefcdaaDoorW.PrintLast Go.Proofs.YtmeinakeiefcdaaDoorW.PrintMore
set_option linter.unusedVariables false

/-- The runes of a text, as the model reads them. -/
def goRunesN (s : ByteArray) : Nat → Nat → List Int
  | 0, _ => []
  | b + 1, i => if i < s.size then (((Utf8.decode s i).1 : Nat) : Int) :: goRunesN s b (i + (Utf8.decode s i).2) else []
theorem runesFrom_eq (s : ByteArray) : ∀ (b i : Nat) (acc : Array Value), (Conv.runesFrom s b i acc).toList = acc.toList ++ (goRunesN s b i).map (Value.int .i32)
  | 0, i, acc => by simp [Conv.runesFrom, goRunesN]
  | b + 1, i, acc => by
    unfold Conv.runesFrom goRunesN
    split
    · rename_i h
      have := runesFrom_eq s b (i + (Utf8.decode s i).2) (acc.push (.int .i32 (Int.ofNat (Utf8.decode s i).1)))
      rw [this]
      simp
    · simp
theorem goRunesN_length (s : ByteArray) : ∀ (b i : Nat), (goRunesN s b i).length ≤ b
  | 0, i => by simp [goRunesN]
  | b + 1, i => by
    unfold goRunesN
    split
    · have := goRunesN_length s b (i + (Utf8.decode s i).2)
      simp only [List.length_cons]
      omega
    · simp
def conv_runes.f (a0 : ByteArray) : Option (List Int) := if a0.size ≤ 70368744177664 then some (goRunesN a0 a0.size 0) else none
theorem conv_runes.calls (a0 : ByteArray) (r : List Int) (w : World) (h : conv_runes.f a0 = some r) :
    ConvCalls Tryd.prog 9 77 a0 w fun e w' => ∃ v0_ : Value, e = .returned (v0_) ∧ Kd.V (Kd.int .i32) 21 w' w.heap.size (fun k_ => (w.heap.size ≤ k_)) v0_ r ∧ Below w.heap.size w w' := by
  unfold conv_runes.f at h
  split at h
  · rename_i hs
    obtain rfl := Option.some.inj h
    have hl := goRunesN_length a0 a0.size 0
    have he : (Conv.runesFrom a0 a0.size 0 #[]).toList = (goRunesN a0 a0.size 0).map (Value.int .i32) := by simpa using runesFrom_eq a0 a0.size 0 #[]
    have hsz : (Conv.runesFrom a0 a0.size 0 #[]).size = (goRunesN a0 a0.size 0).length := by
      rw [← Array.length_toList, he, List.length_map]
    refine ⟨_, _, run_runes_of_string (P := Tryd.prog) w 9 77 21 a0 Tryd.underlying9 Tryd.underlying77 Tryd.underlying21 (by omega), _, rfl, ?_, (below_drew (Below.refl _ _)).alloc (Nat.le_refl _) _⟩
    rw [hsz]
    refine ⟨some ⟨w.heap.size, 0, none⟩, _, rfl, grownCap_ge _ _ _ _, ?_⟩
    intro W' hW
    have hb := hW w.heap.size (Nat.le_refl _) (by simp)
    refine ⟨rfl, by omega, fun _ => ⟨_, rfl, fun j p hp => ⟨[.int .i32 p], rfl, rfl, fun i u hu => ?_⟩⟩⟩
    have hi : i = 0 := by
      have := (List.getElem?_eq_some_iff.1 hu).1
      simp at this
      exact this
    subst hi
    simp at hu
    subst hu
    have hj : j < (goRunesN a0 a0.size 0).length := (List.getElem?_eq_some_iff.1 hp).1
    rw [add_plain, cell_same hb]
    show World.cell? _ ⟨w.heap.size, j * 1 + 0, none⟩ = _
    rw [show j * 1 + 0 = j from by omega]
    have hk : (Conv.runesFrom a0 a0.size 0 #[])[j]? = some (.int .i32 p) := by
      rw [← Array.getElem?_toList, he, List.getElem?_map, hp]
      rfl
    have hh : (w.drew.alloc (.cells (Conv.runesFrom a0 a0.size 0 #[] ++ Array.replicate (grownCap w (goRunesN a0 a0.size 0).length 0 21 - (goRunesN a0 a0.size 0).length) (.int .i32 0)) 21)).heap[w.heap.size]? = some (.cells (Conv.runesFrom a0 a0.size 0 #[] ++ Array.replicate (grownCap w (goRunesN a0 a0.size 0).length 0 21 - (goRunesN a0 a0.size 0).length) (.int .i32 0)) 21 (0, 0)) := heap_alloc_new w.drew _
    unfold World.cell?
    rw [show (w.drew.alloc _).heap[w.heap.size]? = _ from hh]
    have hj2 : j < (Conv.runesFrom a0 a0.size 0 #[]).size := by omega
    simpa [Array.getElem?_append_left hj2] using hk
  · cases h
end Go.Proofs.YtmeinakeiefcdaaDoor.Hand

/- Go's own reading of a text as runes, and of runes as a text, is the document's. -/
namespace Go.Proofs.YtmeinakeiefcdaaDoor.Pure
open Go Go.RowKit Go.Proofs.YtmeinakeiefcdaaDoorW.PrintWords Go.Proofs.YtmeinakeiefcdaaDoorW.PrintLast Go.Proofs.YtmeinakeiefcdaaDoorW.PrintMore Go.Proofs.YtmeinakeiefcdaaDoor.Hand
set_option linter.unusedSimpArgs false
set_option linter.unusedVariables false
set_option maxHeartbeats 4000000
theorem valid_go (r : Int) : Utf8.valid r = validB r := by
  rw [Bool.eq_iff_iff, validB_iff']
  simp only [Utf8.valid, Bool.or_eq_true, Bool.and_eq_true, decide_eq_true_eq]
  omega
theorem encode_go (r : Int) : Utf8.encode r = strOfNums (one r) := by
  unfold Utf8.encode one enc
  rw [valid_go]
  have key : ∀ c : Nat, (if c < 0x80 then (⟨#[UInt8.ofNat c]⟩ : ByteArray)
      else if c < 0x800 then ⟨#[UInt8.ofNat (0xC0 + c / 64), UInt8.ofNat (0x80 + c % 64)]⟩
      else if c < 0x10000 then ⟨#[UInt8.ofNat (0xE0 + c / 4096), UInt8.ofNat (0x80 + c / 64 % 64), UInt8.ofNat (0x80 + c % 64)]⟩
      else ⟨#[UInt8.ofNat (0xF0 + c / 262144), UInt8.ofNat (0x80 + c / 4096 % 64), UInt8.ofNat (0x80 + c / 64 % 64), UInt8.ofNat (0x80 + c % 64)]⟩)
      = strOfNums (enc (c : Int)) := by
    intro c
    unfold enc
    by_cases h1 : c < 128
    · rw [if_pos h1, if_pos (show (c : Int) < 128 by omega)]
      rfl
    · rw [if_neg h1, if_neg (show ¬ (c : Int) < 128 by omega)]
      by_cases h2 : c < 2048
      · rw [if_pos h2, if_pos (show (c : Int) < 2048 by omega)]
        apply ByteArray.ext
        apply Array.ext'
        rw [strOfNums_data]
        simp only [List.map_cons, List.map_nil]
        rw [show ((192 : Int) + (c : Int) / 64).toNat = 192 + c / 64 by omega, show ((128 : Int) + (c : Int) % 64).toNat = 128 + c % 64 by omega]
      · rw [if_neg h2, if_neg (show ¬ (c : Int) < 2048 by omega)]
        by_cases h3 : c < 65536
        · rw [if_pos h3, if_pos (show (c : Int) < 65536 by omega)]
          apply ByteArray.ext
          apply Array.ext'
          rw [strOfNums_data]
          simp only [List.map_cons, List.map_nil]
          rw [show ((224 : Int) + (c : Int) / 4096).toNat = 224 + c / 4096 by omega, show ((128 : Int) + (c : Int) / 64 % 64).toNat = 128 + c / 64 % 64 by omega, show ((128 : Int) + (c : Int) % 64).toNat = 128 + c % 64 by omega]
        · rw [if_neg h3, if_neg (show ¬ (c : Int) < 65536 by omega)]
          apply ByteArray.ext
          apply Array.ext'
          rw [strOfNums_data]
          simp only [List.map_cons, List.map_nil]
          rw [show ((240 : Int) + (c : Int) / 262144).toNat = 240 + c / 262144 by omega, show ((128 : Int) + (c : Int) / 4096 % 64).toNat = 128 + c / 4096 % 64 by omega, show ((128 : Int) + (c : Int) / 64 % 64).toNat = 128 + c / 64 % 64 by omega, show ((128 : Int) + (c : Int) % 64).toNat = 128 + c % 64 by omega]
  by_cases hv : validB r = true
  · have hr := ((validB_iff' r).1 hv).1
    obtain ⟨c, rfl⟩ := Int.eq_ofNat_of_zero_le hr
    rw [if_pos hv, if_pos hv]
    exact key c
  · rw [if_neg hv, if_neg hv]
    exact key 65533
end Go.Proofs.YtmeinakeiefcdaaDoor.Pure

/- The rune that stands at the begin of bytes: package over's and the reference's. -/
namespace Go.Proofs.YtmeinakeiefcdaaDoor.Pure
open Go Go.RowKit Go.Proofs.YtmeinakeiefcdaaDoorW.PrintWords Go.Proofs.YtmeinakeiefcdaaDoorW.PrintLast Go.Proofs.YtmeinakeiefcdaaDoorW.PrintMore Go.Proofs.YtmeinakeiefcdaaDoor.X Go.Proofs.YtmeinakeiefcdaaDoor.Hand
set_option linter.unusedSimpArgs false
set_option linter.unusedVariables false
theorem bytes_take18 {l : List Int} (h : Bytes l) (n : Nat) : Bytes (l.take n) := fun x hx => h x (List.mem_of_mem_take hx)
/-- What would stand there. -/
def fstR (b : List Int) : Int := if b = [] then 0 else (firstRune (b.take 4)).1
/-- A rune that is no control stands there. -/
def atB (b : List Int) : Prop := b ≠ [] ∧ controlB (fstR b) = false ∧ enc (fstR b) <+: b
instance (b : List Int) : Decidable (atB b) := inferInstanceAs (Decidable (b ≠ [] ∧ controlB (fstR b) = false ∧ enc (fstR b) <+: b))
theorem take4 (b : List Int) (h : b ≠ []) : b.take 4 ≠ [] := by
  intro e
  apply h
  have := congrArg List.length e
  rw [List.length_take, List.length_nil] at this
  exact List.length_eq_zero_iff.1 (by omega)
theorem fst_valid {b : List Int} (hb : Bytes b) (h : b ≠ []) : validB (fstR b) = true := by
  unfold fstR
  rw [if_neg h]
  exact first_valid (bytes_take18 hb 4) (take4 b h)
theorem at_iff {b : List Int} (hb : Bytes b) (r : Int) : (atB b ∧ fstR b = r) ↔ (validB r = true ∧ controlB r = false ∧ enc r <+: b) := by
  constructor
  · rintro ⟨⟨h1, h2, h3⟩, rfl⟩
    exact ⟨fst_valid hb h1, h2, h3⟩
  · rintro ⟨h1, h2, t, ht⟩
    have hne : b ≠ [] := by
      intro e
      rw [e] at ht
      exact enc_ne r (List.append_eq_nil_iff.1 ht).1
    have hl := enc_len r
    have hf : fstR b = r := by
      unfold fstR
      rw [if_neg hne, ← ht, List.take_append, List.take_of_length_le (by omega), first_enc h1]
    exact ⟨⟨hne, by rw [hf]; exact h2, by rw [hf]; exact ⟨t, ht⟩⟩, hf⟩
theorem strl_nil {b : List Int} (hb : Bytes b) : (strOfNums b).toList = [] ↔ b = [] := by
  have h := str_same hb (b := []) (fun x hx => by simp at hx)
  have e : (strOfNums []).toList = [] := by decide +kernel
  rw [e] at h
  constructor
  · intro h1
    rw [h1] at h
    exact of_decide_eq_true h.symm
  · rintro rfl
    exact e
theorem rd_decode {l : List Int} (h : l ≠ []) : rd (decode l) 0 = (firstRune l).1 ∧ 0 < (decode l).length := by
  obtain ⟨c, t, rfl⟩ := List.exists_cons_of_ne_nil h
  unfold decode
  rw [List.length_cons, decodeN, if_neg (by simp)]
  exact ⟨rfl, by simp⟩
theorem ofirst_ev {b : List Int} (hb : Bytes b) (hl : b.length ≤ 1000000) : Ev (fun k => over_first.f k (strOfNums b)) (fstR b, decide (atB b)) := by
  unfold over_first.f
  refine ev_ite (fun h0 => ?_) (fun h0 => ?_)
  · have h := (strl_nil hb).1 h0
    refine ev_eq (Ev.now _) ?_
    unfold fstR
    rw [if_pos h, decide_eq_false (fun x => x.1 h)]
  · have h : b ≠ [] := fun e => h0 ((strl_nil hb).2 e)
    have hm : (mn ((strOfNums b).size : Int) 4).toNat = min b.length 4 := by
      rw [numsStr_size]
      simp only [mn]
      split <;> omega
    have hm2 : 0 ≤ mn ((strOfNums b).size : Int) 4 ∧ mn ((strOfNums b).size : Int) 4 ≤ ((strOfNums b).size : Int) := by
      rw [numsStr_size]
      simp only [mn]
      split <;> omega
    refine ev_pos hm2.1 (ev_pos hm2.2 ?_)
    rw [hm, str_part, List.drop_zero]
    have ht : b.take (min b.length 4) = b.take 4 := by
      rw [List.take_eq_take_iff]
      omega
    rw [ht]
    have hr := rd_decode (take4 b h)
    have hf : (firstRune (b.take 4)).1 = fstR b := by unfold fstR; rw [if_neg h]
    refine ev_bind1 (conv_now (bytes_take18 hb 4) (by rw [List.length_take]; omega)) (Ev.bind (decode_ev (bytes_take18 hb 4) (by rw [List.length_take]; omega)) ?_)
    rw [hr.1, hf]
    have hv := fst_valid hb h
    rw [encode_go, one_valid hv]
    refine ev_pos (by omega) (ev_bind1 (prefix_eq hb (enc_bytes hv)) (ev_ite (fun hp => ?_) (fun hp => ?_)))
    · have hp := of_decide_eq_true hp
      refine Ev.bind (control_ev _) (ev_eq (Ev.now _) ?_)
      congr 1
      by_cases hc : controlB (fstR b) = true
      · rw [decide_eq_false (fun x : atB b => by rw [x.2.1] at hc; cases hc), hc]
        rfl
      · have hc := Bool.eq_false_iff.2 hc
        rw [decide_eq_true (p := atB b) ⟨h, hc, hp⟩, hc]
        rfl
    · refine ev_eq (Ev.now _) ?_
      rw [decide_eq_false (fun x => hp (decide_eq_true x.2.2))]
end Go.Proofs.YtmeinakeiefcdaaDoor.Pure

/- The first glyph of bytes that are struck over: what it is. -/
namespace Go.Proofs.YtmeinakeiefcdaaDoor.Pure
open Go Go.RowKit Go.Proofs.YtmeinakeiefcdaaDoorW.PrintWords Go.Proofs.YtmeinakeiefcdaaDoorW.PrintLast Go.Proofs.YtmeinakeiefcdaaDoorW.PrintMore Go.Proofs.YtmeinakeiefcdaaDoor.X Go.Proofs.YtmeinakeiefcdaaDoor.Hand
set_option linter.unusedSimpArgs false
set_option linter.unusedVariables false
/-- A rune that may stand, so set, at the begin. -/
def StandsP (b : List Int) (s x : Int) : Prop := validB x = true ∧ controlB x = false ∧ x ≠ 160 ∧ (s = 0 ∨ (x ≠ 32 ∧ wid x ≠ 0)) ∧ oneV ⟨x, s⟩ <+: b
def overP (n : Nat) : List Int := List.replicate n 95 ++ List.replicate n 8
theorem cleanG_of {x s : Int} (hv : validB x = true) (hc : controlB x = false) (h160 : x ≠ 160) (hs : 0 ≤ s ∧ s ≤ 3) : cleanG ⟨x, s⟩ = ⟨x, s⟩ := by
  have hf : (cleanG ⟨x, s⟩).f1 = s := by
    have : (cleanG ⟨x, s⟩).f1 = s % 4 := f4 (f := s) (by omega)
    omega
  have h0 : (cleanG ⟨x, s⟩).f0 = x := by
    unfold cleanG
    rw [if_neg h160]
    show safe x = x
    unfold safe
    rw [if_pos ⟨hv, hc⟩]
  cases hg : cleanG ⟨x, s⟩ with
  | mk a c =>
    rw [hg] at hf h0
    simp only at hf h0
    rw [hf, h0]
theorem stands_at {b : List Int} (hb : Bytes b) {s x : Int} (hs : 0 ≤ s ∧ s ≤ 3) (h : StandsP b s x) :
    (s < 2 ∧ atB b ∧ fstR b = x) ∨ (2 ≤ s ∧ ∃ w, (w = 1 ∨ w = 2) ∧ wid x = (w : Nat) ∧ overP w <+: b ∧ atB (b.drop (2 * w)) ∧ fstR (b.drop (2 * w)) = x) := by
  obtain ⟨hv, hc, h160, hp, t, ht⟩ := h
  have hwr := wid_range x
  unfold oneV at ht
  rw [cleanG_of hv hc h160 hs] at ht
  simp only [one_valid hv] at ht
  by_cases h0 : wid x = 0 ∨ x = 32
  · rw [if_pos h0] at ht
    left
    exact ⟨by omega, (at_iff hb x).2 ⟨hv, hc, t, ht⟩⟩
  · rw [if_neg h0] at ht
    obtain ⟨w, hw⟩ : ∃ w : Nat, wid x = w := ⟨(wid x).toNat, by omega⟩
    rw [hw, Int.toNat_natCast] at ht
    by_cases h2 : s < 2
    · left
      rw [if_pos h2] at ht
      refine ⟨h2, (at_iff hb x).2 ⟨hv, hc, ?_⟩⟩
      split at ht
      · exact ⟨t, by simpa using ht⟩
      · exact ⟨List.replicate w 8 ++ enc x ++ t, by simpa using ht⟩
    · right
      rw [if_neg h2] at ht
      refine ⟨by omega, w, by omega, hw, ?_⟩
      have hl : (overP w).length = 2 * w := by unfold overP; rw [List.length_append, List.length_replicate, List.length_replicate]; omega
      have hov : ∃ u, overP w ++ (enc x ++ u) = b := by
        split at ht
        · exact ⟨t, by unfold overP; simpa using ht⟩
        · exact ⟨List.replicate w 8 ++ enc x ++ t, by unfold overP; simpa using ht⟩
      obtain ⟨u, hu⟩ := hov
      refine ⟨⟨_, hu⟩, (at_iff (bytes_drop hb _) x).2 ⟨hv, hc, u, ?_⟩⟩
      rw [← hu, ← hl, List.drop_left]
theorem over_12 {b : List Int} (h1 : overP 1 <+: b) (h2 : overP 2 <+: b) : False := by
  obtain ⟨t, ht⟩ := h1
  obtain ⟨u, hu⟩ := h2
  have e1 : overP 1 = [95, 8] := rfl
  have e2 : overP 2 = [95, 95, 8, 8] := rfl
  rw [e1] at ht
  rw [e2] at hu
  rw [← hu] at ht
  simp at ht
theorem stands_uniq {b : List Int} (hb : Bytes b) {s x y : Int} (hs : 0 ≤ s ∧ s ≤ 3) (hx : StandsP b s x) (hy : StandsP b s y) : x = y := by
  rcases stands_at hb hs hx with ⟨h1, _, e1⟩ | ⟨h1, w, hw, _, p1, _, e1⟩ <;> rcases stands_at hb hs hy with ⟨h2, _, e2⟩ | ⟨h2, v, hv, _, p2, _, e2⟩
  · exact e1.symm.trans e2
  · omega
  · omega
  · rcases hw with rfl | rfl <;> rcases hv with rfl | rfl
    · exact e1.symm.trans e2
    · exact (over_12 p1 p2).elim
    · exact (over_12 p2 p1).elim
    · exact e1.symm.trans e2
open Classical in
/-- The first that stands, the sets in turn. -/
noncomputable def pickV (b : List Int) : List Int → Int × Int × Int × Int
  | [] => (0, 0, 0, 5)
  | s :: t => if h : ∃ x, StandsP b s x then (h.choose, s, ((oneV ⟨h.choose, s⟩).length : Int), 0) else pickV b t
theorem pick_some {b : List Int} (hb : Bytes b) {s x : Int} (hs : 0 ≤ s ∧ s ≤ 3) (t : List Int) (h : StandsP b s x) : pickV b (s :: t) = (x, s, ((oneV ⟨x, s⟩).length : Int), 0) := by
  have hex : ∃ x, StandsP b s x := ⟨x, h⟩
  unfold pickV
  rw [dif_pos hex, stands_uniq hb hs hex.choose_spec h]
theorem pick_none {b : List Int} {s : Int} (t : List Int) (h : ∀ x, ¬ StandsP b s x) : pickV b (s :: t) = pickV b t := by
  conv => lhs; unfold pickV
  rw [dif_neg (fun e => h _ e.choose_spec)]
/-- The first glyph. -/
noncomputable def takeV (b : List Int) : Int × Int × Int × Int := if atB b then pickV b [3, 2, 1, 0] else (0, 0, 0, 5)
theorem oneV_pos (g : Gl) : 1 ≤ (oneV g).length := by
  have h : 1 ≤ (one (cleanG g).f0).length := by
    unfold one
    exact (enc_len _).1
  unfold oneV
  split
  · exact h
  · rw [List.length_append]
    omega
end Go.Proofs.YtmeinakeiefcdaaDoor.Pure

/- The first glyph of bytes that are struck over: package over's. -/
namespace Go.Proofs.YtmeinakeiefcdaaDoor.Pure
open Go Go.RowKit Go.Proofs.YtmeinakeiefcdaaDoorW.PrintWords Go.Proofs.YtmeinakeiefcdaaDoorW.PrintLast Go.Proofs.YtmeinakeiefcdaaDoorW.PrintMore Go.Proofs.YtmeinakeiefcdaaDoor.X Go.Proofs.YtmeinakeiefcdaaDoor.Hand
set_option linter.unusedSimpArgs false
set_option linter.unusedVariables false
theorem repeatL_one (c : UInt8) : ∀ n : Nat, Lib.repeatL [c] n = List.replicate n c
  | 0 => rfl
  | n + 1 => by
    rw [List.replicate_succ, ← repeatL_one c n]
    rfl
theorem repeat_eq (n : Nat) (h : n ≤ 1000) (c : Int) (hc : c = 95 ∨ c = 8) : strings_Repeat.f (strOfNums [c]) (n : Int) = some (strOfNums (List.replicate n c)) := by
  unfold strings_Repeat.f
  rw [if_pos ⟨by omega, by omega, by rw [numsStr_size]; simp⟩, Int.toNat_natCast]
  congr 1
  have h1 : (strOfNums [c]).data.toList = [UInt8.ofNat c.toNat] := by rcases hc with rfl | rfl <;> decide +kernel
  rw [h1, repeatL_one]
  unfold strOfNums
  simp
theorem cut_ev {b p : List Int} (hb : Bytes b) (hp : Bytes p) : strings_CutPrefix.f (strOfNums b) (strOfNums p) = some (if p <+: b then (strOfNums (b.drop p.length), true) else (strOfNums b, false)) := by
  have hpre := prefix_eq hb hp
  unfold strings_HasPrefix.f at hpre
  have hlite : stringslite_HasPrefix.f (strOfNums b) (strOfNums p) = some (decide (p <+: b)) := by
    revert hpre
    cases stringslite_HasPrefix.f (strOfNums b) (strOfNums p) with
    | none => intro h; exact h
    | some v => intro h; exact h
  unfold strings_CutPrefix.f stringslite_CutPrefix.f
  rw [hlite, Option.bind_some]
  by_cases h : p <+: b
  · have hle := h.length_le
    rw [decide_eq_true h, if_pos rfl, numsStr_size, numsStr_size, if_pos (by omega), if_pos (by omega), Int.toNat_natCast, str_part, if_pos h, Option.bind_some, List.take_of_length_le (by omega)]
  · rw [decide_eq_false h, if_neg (by simp), if_neg h]
    rfl
/-- What may stand, told as it is tried. -/
noncomputable def tryN (b : List Int) (n : Nat) : List Int := if overP n <+: b ∧ atB (b.drop (2 * n)) then [fstR (b.drop (2 * n))] else []
noncomputable def tryV (b : List Int) : List Int := ([fstR b] ++ tryN b 1) ++ tryN b 2
theorem overP_Bytes (n : Nat) : Bytes (overP n) := bytes_append (rep_Bytes n 95 (by decide)) (rep_Bytes n 8 (by decide))
theorem overP_len (n : Nat) : (overP n).length = 2 * n := by unfold overP; rw [List.length_append, List.length_replicate, List.length_replicate]; omega
theorem take_try {b : List Int} (hb : Bytes b) (hl : b.length ≤ 1000000) (r : Int) (R : Int × Int × Int × Int) (o : List Int) (ho : o.length ≤ 5) (i n : Nat) (hn : n ≤ 2) (hi : i < 2) (hin : n = i + 1)
    (h : Ev (fun k => over_Take.l0 k (strOfNums b) r (o ++ tryN b n) [1, 2] 2 ((i + 1 : Nat) : Int)) R) : Ev (fun k => over_Take.l0 k (strOfNums b) r o [1, 2] 2 (i : Int)) R := by
  have hrd : rd [1, 2] (i : Int) = (n : Int) := by
    rcases (show i = 0 ∨ i = 1 by omega) with rfl | rfl <;> subst hin <;> rfl
  have hw : wrap64 ((i : Int) + 1) = ((i + 1 : Nat) : Int) := wrap_up hi (by omega)
  have e95 : (⟨#[95]⟩ : ByteArray) = strOfNums [95] := s95
  have e8 : (⟨#[8]⟩ : ByteArray) = strOfNums [8] := s8
  refine Ev.step (f := fun k => (strings_CutPrefix.f (strOfNums b) (strOfNums (overP n))).bind fun bt230 => (if bt230.2 = true then ((over_first.f k bt230.1).bind fun bt232 => (if bt232.2 = true then (if o.length < 35184372088832 then (over_Take.l0 k (strOfNums b) r (o ++ [bt232.1]) [1, 2] 2 ((i + 1 : Nat) : Int)) else (none)) else (over_Take.l0 k (strOfNums b) r o [1, 2] 2 ((i + 1 : Nat) : Int)))) else (over_Take.l0 k (strOfNums b) r o [1, 2] 2 ((i + 1 : Nat) : Int)))) (fun k => ?_) ?_
  · simp only [over_Take.l0]
    rw [if_pos (by omega), if_pos (by omega), if_pos (by simp; omega), hrd, e95, e8, repeat_eq n (by omega) 95 (.inl rfl), repeat_eq n (by omega) 8 (.inr rfl)]
    simp only [Option.bind_some]
    rw [if_pos (by rw [numsStr_size, numsStr_size, List.length_replicate, List.length_replicate]; omega), ← numsStr_append, hw]
    rfl
  · refine ev_bind1 (cut_ev hb (overP_Bytes n)) ?_
    by_cases hp : overP n <+: b
    · rw [if_pos hp]
      refine ev_pos rfl ?_
      simp only [overP_len]
      refine Ev.bind (ofirst_ev (bytes_drop hb _) (by rw [List.length_drop]; omega)) ?_
      by_cases ha : atB (b.drop (2 * n))
      · rw [tryN, if_pos ⟨hp, ha⟩] at h
        exact ev_pos (decide_eq_true ha) (ev_pos (by omega) h)
      · rw [tryN, if_neg (fun x => ha x.2), List.append_nil] at h
        exact ev_neg (by simpa using ha) h
    · rw [if_neg hp]
      rw [tryN, if_neg (fun x => hp x.1), List.append_nil] at h
      exact ev_neg (by simp) h
theorem tryV_all {b : List Int} (hb : Bytes b) (h : atB b) : (∀ x ∈ tryV b, validB x = true ∧ controlB x = false) ∧ (tryV b).length ≤ 3 ∧ ∀ s x, 0 ≤ s ∧ s ≤ 3 → StandsP b s x → x ∈ tryV b := by
  have ht : ∀ n, ∀ x ∈ tryN b n, validB x = true ∧ controlB x = false := by
    intro n x hx
    unfold tryN at hx
    split at hx
    · rename_i h2
      rw [List.mem_singleton.1 hx]
      have := (at_iff (bytes_drop hb _) _).1 ⟨h2.2, rfl⟩
      exact ⟨this.1, this.2.1⟩
    · simp at hx
  have hle : ∀ n, (tryN b n).length ≤ 1 := by
    intro n
    unfold tryN
    split <;> simp
  refine ⟨?_, ?_, ?_⟩
  · intro x hx
    rcases List.mem_append.1 hx with hx | hx
    · rcases List.mem_append.1 hx with hx | hx
      · rw [List.mem_singleton.1 hx]
        have := (at_iff hb _).1 ⟨h, rfl⟩
        exact ⟨this.1, this.2.1⟩
      · exact ht 1 x hx
    · exact ht 2 x hx
  · have h1 := hle 1
    have h2 := hle 2
    unfold tryV
    simp only [List.length_append, List.length_singleton]
    omega
  · intro s x hs hx
    unfold tryV
    rcases stands_at hb hs hx with ⟨_, _, e⟩ | ⟨_, w, hw, _, p, ha, e⟩
    · simp [← e]
    · have hm : x ∈ tryN b w := by
        unfold tryN
        rw [if_pos ⟨p, ha⟩, e]
        simp
      rcases hw with rfl | rfl
      · simp [hm]
      · simp [hm]
/-- One set: the runes that are tried, in turn. -/
theorem take_l2 {b : List Int} (hb : Bytes b) (o : List Int) (hol : o.length ≤ 3) (ho : ∀ x ∈ o, validB x = true ∧ controlB x = false) (s : Int) (hs : 0 ≤ s ∧ s ≤ 3) (q : Int) (b0 b1 : Int) (t : List Int)
    (hrest : (∀ x, ¬ StandsP b s x) → Ev (fun k => over_Take.l1 k (strOfNums b) o 0 (wrap64 (q + 1)) b0 b1) (pickV b t)) :
    ∀ (d j : Nat), o.length - j = d → j ≤ o.length → (∀ x, StandsP b s x → x ∈ o.drop j) → Ev (fun k => over_Take.l2 k (strOfNums b) o 0 s q o (o.length : Int) (j : Int) b0 b1) (pickV b (s :: t)) := by
  intro d
  induction d with
  | zero =>
    intro j hd hj hc
    have hno : ∀ x, ¬ StandsP b s x := fun x hx => by
      have := hc x hx
      rw [List.drop_eq_nil_of_le (by omega)] at this
      simp at this
    refine Ev.step (f := fun k => over_Take.l1 k (strOfNums b) o 0 (wrap64 (q + 1)) b0 b1) (fun k => ?_) (ev_eq (hrest hno) (pick_none t hno).symm)
    simp only [over_Take.l2]
    rw [if_neg (by omega)]
  | succ d ih =>
    intro j hd hj hc
    have hlt : j < o.length := by omega
    have hx := ho o[j] (List.getElem_mem hlt)
    have hw : wrap64 ((j : Int) + 1) = ((j + 1 : Nat) : Int) := wrap_up hlt (by omega)
    have hwr := wid_range o[j]
    have hnext : ¬ StandsP b s o[j] → Ev (fun k => over_Take.l2 k (strOfNums b) o 0 s q o (o.length : Int) ((j + 1 : Nat) : Int) b0 b1) (pickV b (s :: t)) := by
      intro hn
      refine ih (j + 1) (by omega) (by omega) (fun y hy => ?_)
      have := hc y hy
      rw [List.drop_eq_getElem_cons hlt] at this
      rcases List.mem_cons.1 this with e | e
      · exact (hn (e ▸ hy)).elim
      · exact e
    have hj4 : ∀ p : Bool, (p = true ↔ (o[j] = 160 ∨ ((o[j] = 32 ∨ wid o[j] = 0) ∧ s ≠ 0))) →
        Ev (fun k => over_Take.j4 k (strOfNums b) o 0 s (oneV ⟨o[j], s⟩) q o (o.length : Int) (j : Int) p b0 b1 o[j] s) (pickV b (s :: t)) := by
      intro p hp
      by_cases hpt : p = true
      · refine Ev.step (f := fun k => over_Take.l2 k (strOfNums b) o 0 s q o (o.length : Int) ((j + 1 : Nat) : Int) b0 b1) (fun k => ?_) (hnext ?_)
        · simp only [over_Take.j4]
          rw [if_pos hpt, hw]
        · intro hP
          rcases hp.1 hpt with e | ⟨e, e'⟩
          · exact hP.2.2.1 e
          · rcases hP.2.2.2.1 with h0 | h0
            · exact e' h0
            · omega
      · have hnp : ¬ (o[j] = 160 ∨ ((o[j] = 32 ∨ wid o[j] = 0) ∧ s ≠ 0)) := fun e => hpt (hp.2 e)
        refine Ev.step (f := fun k => (strings_HasPrefix.f (strOfNums b) (strOfNums (oneV ⟨o[j], s⟩))).bind fun t244 => (if t244 = true then (if ((oneV ⟨o[j], s⟩).length : Int) = 0 then (some (0, 0, 0, 5)) else (some (o[j], s, ((oneV ⟨o[j], s⟩).length : Int), 0))) else (over_Take.l2 k (strOfNums b) o 0 s q o (o.length : Int) ((j + 1 : Nat) : Int) b0 b1))) (fun k => ?_) ?_
        · simp only [over_Take.j4]
          rw [if_neg hpt, hw]
        · refine ev_bind1 (prefix_eq hb (oneV_Bytes _)) (ev_ite (fun hpre => ?_) (fun hpre => ?_))
          · have hP : StandsP b s o[j] := ⟨hx.1, hx.2, fun e => hnp (.inl e), by omega, of_decide_eq_true hpre⟩
            have hpos := oneV_pos ⟨o[j], s⟩
            exact ev_neg (by omega) (ev_eq (Ev.now _) (pick_some hb hs t hP).symm)
          · exact hnext (fun hP => hpre (decide_eq_true hP.2.2.2.2))
    have hj3 : ∀ p : Bool, (p = true ↔ (o[j] = 32 ∨ wid o[j] = 0)) →
        Ev (fun k => over_Take.j3 k (strOfNums b) o 0 s o[j] (oneV ⟨o[j], s⟩) p q o (o.length : Int) (j : Int) b0 b1 o[j] s) (pickV b (s :: t)) := by
      intro p hp
      by_cases hpt : p = true
      · by_cases h0 : s = 0
        · refine Ev.step (f := fun k => over_Take.j4 k (strOfNums b) o 0 s (oneV ⟨o[j], s⟩) q o (o.length : Int) (j : Int) (o[j] == 160) b0 b1 o[j] s) (fun k => ?_) (hj4 _ ?_)
          · simp only [over_Take.j3]
            rw [if_pos hpt, if_pos h0]
          · rw [beq_iff_eq]
            omega
        · refine Ev.step (f := fun k => over_Take.j4 k (strOfNums b) o 0 s (oneV ⟨o[j], s⟩) q o (o.length : Int) (j : Int) true b0 b1 o[j] s) (fun k => ?_) (hj4 _ ?_)
          · simp only [over_Take.j3]
            rw [if_pos hpt, if_neg h0]
          · have := hp.1 hpt
            simp [h0, this]
      · refine Ev.step (f := fun k => over_Take.j4 k (strOfNums b) o 0 s (oneV ⟨o[j], s⟩) q o (o.length : Int) (j : Int) (o[j] == 160) b0 b1 o[j] s) (fun k => ?_) (hj4 _ ?_)
        · simp only [over_Take.j3]
          rw [if_neg hpt]
        · rw [beq_iff_eq]
          have : ¬ (o[j] = 32 ∨ wid o[j] = 0) := fun e => hpt (hp.2 e)
          omega
    refine Ev.step (f := fun k => (over_One.f k o[j] s).bind fun t240 => (if o[j] = 32 then (over_Take.j3 k (strOfNums b) o 0 s o[j] t240 true q o (o.length : Int) (j : Int) b0 b1 o[j] s) else ((runes_Width.f o[j]).bind fun t243 => (over_Take.j3 k (strOfNums b) o 0 s o[j] t240 (t243 == 0) q o (o.length : Int) (j : Int) b0 b1 o[j] s)))) (fun k => ?_) ?_
    · simp only [over_Take.l2]
      rw [if_pos (by omega), if_pos (by omega), if_pos (by omega), rd_nat o j hlt]
    · refine Ev.bind (over_one_ev ⟨o[j], s⟩ (by simp; omega)) (ev_ite (fun h32 => hj3 true (by simp [h32])) (fun h32 => ev_bind1 (f := fun k t243 => over_Take.j3 k (strOfNums b) o 0 s o[j] (oneV ⟨o[j], s⟩) (t243 == 0) q o (o.length : Int) (j : Int) b0 b1 o[j] s) (show runes_Width.f o[j] = some (wid o[j]) from rfl) (hj3 (wid o[j] == 0) (by rw [beq_iff_eq]; omega))))
theorem take_l1 {b : List Int} (hb : Bytes b) (o : List Int) (hol : o.length ≤ 3) (ho : ∀ x ∈ o, validB x = true ∧ controlB x = false) (b0 b1 : Int) (hall : ∀ s x, 0 ≤ s ∧ s ≤ 3 → StandsP b s x → x ∈ o) :
    ∀ (d q : Nat), 4 - q = d → q ≤ 4 → Ev (fun k => over_Take.l1 k (strOfNums b) o 0 (q : Int) b0 b1) (pickV b (([3, 2, 1, 0] : List Int).drop q)) := by
  intro d
  induction d with
  | zero =>
    intro q hd hq
    obtain rfl : q = 4 := by omega
    refine Ev.step (f := fun _ => some (0, 0, 0, 5)) (fun k => ?_) (Ev.now _)
    simp only [over_Take.l1]
    rw [if_neg (by omega)]
    rfl
  | succ d ih =>
    intro q hd hq
    have hw : wrap64 ((q : Int) + 1) = ((q + 1 : Nat) : Int) := wrap_up (n := 4) (by omega) (by omega)
    have hrd : rd ([3, 2, 1, 0] : List Int) (q : Int) = 3 - (q : Int) ∧ ([3, 2, 1, 0] : List Int).drop q = (3 - (q : Int)) :: ([3, 2, 1, 0] : List Int).drop (q + 1) := by
      rcases (show q = 0 ∨ q = 1 ∨ q = 2 ∨ q = 3 by omega) with rfl | rfl | rfl | rfl <;> exact ⟨rfl, rfl⟩
    refine Ev.step (f := fun k => over_Take.l2 k (strOfNums b) o 0 (3 - (q : Int)) (q : Int) o (o.length : Int) 0 b0 b1) (fun k => ?_) ?_
    · simp only [over_Take.l1]
      rw [if_pos (by omega), if_pos (by omega), hrd.1]
    · rw [hrd.2]
      refine take_l2 hb o hol ho _ (by omega) (q : Int) b0 b1 _ (fun _ => ?_) o.length 0 (by omega) (by omega) (fun x hx => hall _ x (by omega) hx)
      rw [hw]
      exact ih (q + 1) (by omega) (by omega)
theorem take18_ev {b : List Int} (hb : Bytes b) (hl : b.length ≤ 1000000) : Ev (fun k => over_Take.f k b) (takeV b) := by
  unfold over_Take.f takeV
  refine Ev.bind (ofirst_ev hb hl) ?_
  by_cases h : atB b
  · rw [if_pos h]
    refine ev_pos (decide_eq_true h) (ev_bind1 rfl ?_)
    obtain ⟨h1, h2, h3⟩ := tryV_all hb h
    refine take_try hb hl (fstR b) _ [fstR b] (by simp) 0 1 (by omega) (by omega) rfl ?_
    refine take_try hb hl (fstR b) _ ([fstR b] ++ tryN b 1) (by rw [tryV, List.length_append] at h2; omega) 1 2 (by omega) (by omega) rfl ?_
    refine Ev.step (f := fun k => over_Take.l1 k (strOfNums b) (tryV b) 0 0 (fstR b) 0) (fun k => ?_) (take_l1 hb (tryV b) h2 h1 (fstR b) 0 h3 4 0 (by omega) (by omega))
    simp only [over_Take.l0]
    rw [if_neg (by omega)]
    rfl
  · rw [if_neg h]
    exact ev_neg (by simpa using h) (Ev.now _)
end Go.Proofs.YtmeinakeiefcdaaDoor.Pure

/- Normal rows: what they are, and that they stay. -/
namespace Go.Proofs.YtmeinakeiefcdaaDoor.Pure
open Go.RowKit Go.Proofs.YtmeinakeiefcdaaDoorW.PrintWords Go.Proofs.YtmeinakeiefcdaaDoorW.PrintLast Go.Proofs.YtmeinakeiefcdaaDoorW.PrintMore Go.Proofs.YtmeinakeiefcdaaDoor.X Go.Proofs.YtmeinakeiefcdaaDoor.Hand
set_option linter.unusedVariables false
/-- Normal: how each is set, behind p. -/
def IsNorm : Option Int → List Gl → Prop
  | _, [] => True
  | p, g :: t => g.f1 = setOf p g ∧ IsNorm (some g.f1) t
theorem setOf_same (p : Option Int) (g : Gl) (s : Int) (h : s = setOf p g) : setOf p ⟨g.f0, s⟩ = s := by
  unfold setOf at h ⊢
  split at h
  · rename_i h0
    rw [if_pos h0, h]
  · rename_i h0
    rw [if_neg h0]
    cases p with
    | none => rfl
    | some q =>
      simp only at h ⊢
      split at h
      · rename_i hw
        rw [if_pos hw, h]
      · rename_i hw
        rw [if_neg hw]
theorem normGo_IsNorm : ∀ (l : List Gl) (p : Option Int), IsNorm p (normGo p l)
  | [], _ => trivial
  | g :: t, p => ⟨(setOf_same p g _ rfl).symm, normGo_IsNorm t _⟩
theorem normGo_self : ∀ (l : List Gl) (p : Option Int), IsNorm p l → normGo p l = l
  | [], _, _ => rfl
  | g :: t, p, h => by
    rw [normGo, ← h.1, normGo_self t _ h.2]
theorem and3_self {x : Int} (h : 0 ≤ x ∧ x ≤ 3) : Go.bits .and .u8 x 3 = x := by
  have h1 : ∀ n : Nat, n < 4 → Go.bits .and .u8 (n : Int) 3 = (n : Int) := by decide +kernel
  obtain ⟨n, rfl⟩ := Int.eq_ofNat_of_zero_le h.1
  exact h1 n (by omega)
theorem setOf_in {p : Option Int} {g : Gl} (hp : ∀ s, p = some s → 0 ≤ s ∧ s ≤ 3) (hg : 0 ≤ g.f1 ∧ g.f1 ≤ 3) : 0 ≤ setOf p g ∧ setOf p g ≤ 3 := by
  unfold setOf
  split
  · omega
  · cases p with
    | none => exact hg
    | some s =>
      simp only
      split
      · exact hp s rfl
      · exact hg
theorem normGo_in : ∀ (l : List Gl) (p : Option Int), (∀ s, p = some s → 0 ≤ s ∧ s ≤ 3) → (∀ g ∈ l, 0 ≤ g.f1 ∧ g.f1 ≤ 3) → ∀ g ∈ normGo p l, 0 ≤ g.f1 ∧ g.f1 ≤ 3
  | [], _, _, _, g, h => by simp [normGo] at h
  | x :: t, p, hp, hl, g, h => by
    have hx := setOf_in hp (hl x (by simp))
    rw [normGo] at h
    rcases List.mem_cons.1 h with rfl | h
    · exact hx
    · exact normGo_in t _ (fun s e => by injection e with e; rw [← e]; exact hx) (fun y hy => hl y (by simp [hy])) g h
/-- A row that is normal. -/
structure Nrml (c : List Gl) : Prop where
  norm : IsNorm none c
  cl : ∀ g ∈ c, Cl g
  head : ∀ h : 0 < c.length, wid (c[0]).f0 ≠ 0
  last : ∀ g : Gl, 0 < c.length → c[c.length - 1]? = some g → g.f0 ≠ 32
theorem Nrml.clean_eq {c : List Gl} (h : Nrml c) : clean c = c := by
  unfold clean
  rw [map_self h.cl]
  cases hcc : c with
  | nil => rfl
  | cons g t =>
    rw [List.dropWhile_cons, if_neg]
    have := h.head (by rw [hcc]; simp)
    simp only [hcc, List.getElem_cons_zero] at this
    have hr := wid_range g.f0
    simp
    omega
theorem Nrml.self {c : List Gl} (h : Nrml c) : nrm c = c := by
  unfold nrm
  have ht := (exists_trim (clean c)).choose_spec
  revert ht
  generalize (exists_trim (clean c)).choose = m
  rw [h.clean_eq]
  intro ht
  have hle := ht.le
  have hm : m = c.length := by
    rcases Nat.lt_or_ge m c.length with hlt | hge
    · exfalso
      have h1 : c[c.length - 1]? = some c[c.length - 1] := List.getElem?_eq_getElem (by omega)
      exact h.last _ (by omega) h1 (ht.rest (c.length - 1) _ (by omega) h1)
    · omega
  rw [hm, List.take_length, normGo_self c none h.norm]
theorem nrm_is {l : List Gl} (h8 : ∀ g ∈ l, 0 ≤ g.f1 ∧ g.f1 ≤ 255) : Nrml (nrm l) := by
  have hcl := clean_length l
  unfold nrm
  have hm := (exists_trim (clean l)).choose_spec
  revert hm
  generalize (exists_trim (clean l)).choose = m
  intro hm
  have hmle := hm.le
  have hC := clean_Cl l h8
  obtain ⟨c, hc⟩ : ∃ c, c = normGo none ((clean l).take m) := ⟨_, rfl⟩
  rw [← hc]
  have hclen : c.length = m := by rw [hc, normGo_length, List.length_take]; omega
  have hrunes : c.map (·.f0) = ((clean l).take m).map (·.f0) := by rw [hc, normGo_runes]
  have hf0 : ∀ (i : Nat) (g : Gl), c[i]? = some g → ∃ x, (clean l)[i]? = some x ∧ g.f0 = x.f0 := by
    intro i g hg
    have h1 := congrArg (fun z : List Int => z[i]?) hrunes
    simp only [List.getElem?_map, hg, Option.map_some] at h1
    have hi : i < m := by rw [← hclen]; exact (List.getElem?_eq_some_iff.1 hg).1
    rw [List.getElem?_take_of_lt hi, List.getElem?_eq_getElem (by omega)] at h1
    exact ⟨_, List.getElem?_eq_getElem (by omega), Option.some.inj h1⟩
  refine ⟨by rw [hc]; exact normGo_IsNorm _ _, fun g hg => ?_, fun h0 => ?_, fun g h0 hg => ?_⟩
  · obtain ⟨i, hi, rfl⟩ := List.getElem_of_mem hg
    obtain ⟨x, hx, e⟩ := hf0 i _ (List.getElem?_eq_getElem hi)
    have hxC := hC x (List.mem_of_getElem? hx)
    have hr : 0 ≤ (c[i]).f1 ∧ (c[i]).f1 ≤ 3 := by
      refine normGo_in ((clean l).take m) none (fun s e => by cases e) (fun y hy => ?_) c[i] (by rw [← hc]; exact hg)
      have := hC y (List.mem_of_mem_take hy)
      exact ⟨this.2.2.1, this.2.2.2.1⟩
    exact ⟨by rw [e]; exact hxC.1, by rw [e]; exact hxC.2.1, hr.1, hr.2, and3_self hr⟩
  · obtain ⟨x, hx, e⟩ := hf0 0 c[0] (List.getElem?_eq_getElem h0)
    obtain ⟨h1, h2⟩ := List.getElem?_eq_some_iff.1 hx
    rw [e, ← h2]
    exact clean_head l h1
  · obtain ⟨x, hx, e⟩ := hf0 _ g hg
    rw [hclen] at hx h0
    rw [e]
    exact hm.last x h0 hx
end Go.Proofs.YtmeinakeiefcdaaDoor.Pure

/- The bytes of a row, struck over: package over's. -/
namespace Go.Proofs.YtmeinakeiefcdaaDoor.Pure
open Go Go.RowKit Go.Proofs.YtmeinakeiefcdaaDoorW.PrintWords Go.Proofs.YtmeinakeiefcdaaDoorW.PrintLast Go.Proofs.YtmeinakeiefcdaaDoorW.PrintMore Go.Proofs.YtmeinakeiefcdaaDoor.X Go.Proofs.YtmeinakeiefcdaaDoor.Hand
set_option linter.unusedSimpArgs false
set_option linter.unusedVariables false
theorem row18_ev {l : List Gl} (hl : l.length ≤ 3000) (h : ∀ g ∈ l, 0 ≤ g.f1 ∧ g.f1 ≤ 255) : Ev (fun k => over_Row.f k l) (rowO (nrm l)) := by
  have hn := nrm_length l
  have hN := nrm_is h
  have hnl := normal_ev l (exists_trim (clean l)).choose_spec (by omega)
  change Ev _ (nrm l) at hnl
  unfold over_Row.f
  refine Ev.bind hnl ?_
  revert hn hN
  generalize nrm l = c
  intro hn hN
  refine ev_eq (loop_up (fun k o i => over_Row.l0 k o c (c.length : Int) i) c.length (fun o i => o ++ rowO (c.drop i)) (fun o i => o.length ≤ 20 * i) ?_ ?_ [] 0 (by omega) (by simp)) (by simp)
  · intro o _
    exact Ev.step (f := fun _ => some o) (fun k => by simp only [over_Row.l0]; rw [if_neg (by omega)]) (ev_eq (Ev.now _) (by simp [rowO]))
  · intro o i hi ho ih
    have hg := (hN.cl c[i] (List.getElem_mem hi))
    have hlen := oneV_length c[i]
    refine Ev.step (f := fun k => (over_One.f k c[i].f0 c[i].f1).bind fun t184 => (if o.length + t184.length < 140737488355328 then (over_Row.l0 k (o ++ t184) c (c.length : Int) ((i + 1 : Nat) : Int)) else (none))) (fun k => ?_) ?_
    · simp only [over_Row.l0]
      rw [if_pos (by omega), if_pos (by omega), if_pos (by omega), rdG c i hi, wrap_up hi (by omega)]
    · refine Ev.bind (over_one_ev c[i] ⟨hg.2.2.1, by have := hg.2.2.2.1; omega⟩) (ev_pos (by omega) (ev_eq (ih _ (by rw [List.length_append]; omega)) ?_))
      rw [List.drop_eq_getElem_cons hi, rowO_cons, List.append_assoc]
end Go.Proofs.YtmeinakeiefcdaaDoor.Pure

/- A line that is struck over, read: package over's and the reference's. -/
namespace Go.Proofs.YtmeinakeiefcdaaDoor.Pure
open Go Go.RowKit Go.Proofs.YtmeinakeiefcdaaDoorW.PrintWords Go.Proofs.YtmeinakeiefcdaaDoorW.PrintLast Go.Proofs.YtmeinakeiefcdaaDoorW.PrintMore Go.Proofs.YtmeinakeiefcdaaDoor.X Go.Proofs.YtmeinakeiefcdaaDoor.Hand
set_option linter.unusedSimpArgs false
set_option linter.unusedVariables false
theorem pick_ok {b : List Int} : ∀ sets : List Int, (∀ s ∈ sets, 0 ≤ s ∧ s ≤ 3) → (pickV b sets).2.2.2 = 0 → ∃ s x, (0 ≤ s ∧ s ≤ 3) ∧ StandsP b s x ∧ pickV b sets = (x, s, ((oneV ⟨x, s⟩).length : Int), 0)
  | [], _, h => by simp [pickV] at h
  | s :: t, hs, h => by
    by_cases hex : ∃ x, StandsP b s x
    · refine ⟨s, hex.choose, hs s (by simp), hex.choose_spec, ?_⟩
      conv => lhs; unfold pickV
      rw [dif_pos hex]
    · rw [pick_none t (fun x hx => hex ⟨x, hx⟩)] at h ⊢
      exact pick_ok t (fun s hs' => hs s (by simp [hs'])) h
theorem take_ok {b : List Int} (h : (takeV b).2.2.2 = 0) : ∃ s x, (0 ≤ s ∧ s ≤ 3) ∧ StandsP b s x ∧ takeV b = (x, s, ((oneV ⟨x, s⟩).length : Int), 0) := by
  unfold takeV at h ⊢
  split
  · rename_i ha
    rw [if_pos ha] at h
    exact pick_ok _ (by simp) h
  · rename_i ha
    rw [if_neg ha] at h
    simp at h
theorem take_size {b : List Int} (h : (takeV b).2.2.2 = 0) : ∃ m : Nat, (takeV b).2.2.1 = m ∧ 1 ≤ m ∧ m ≤ b.length ∧ 0 ≤ (takeV b).2.1 ∧ (takeV b).2.1 ≤ 3 := by
  obtain ⟨s, x, hs, hP, e⟩ := take_ok h
  have hpos := oneV_pos ⟨x, s⟩
  have hle := hP.2.2.2.2.length_le
  exact ⟨(oneV ⟨x, s⟩).length, by rw [e], hpos, hle, by rw [e]; exact hs.1, by rw [e]; exact hs.2⟩
/-- The glyph that is put. -/
noncomputable def glT (o : List Gl) (b : List Int) : Gl := if o ≠ [] ∧ wid (takeV b).1 = 0 then ⟨(takeV b).1, (o.getLastD ⟨0, 0⟩).f1⟩ else ⟨(takeV b).1, (takeV b).2.1⟩
noncomputable def lineN : Nat → List Gl → List Int → Option (List Gl)
  | 0, o, b => if b = [] then some o else none
  | n + 1, o, b => if b = [] then some o else if (takeV b).2.2.2 = 0 then lineN n (o ++ [glT o b]) (b.drop (takeV b).2.2.1.toNat) else none
def Sets (o : List Gl) : Prop := ∀ g ∈ o, 0 ≤ g.f1 ∧ g.f1 ≤ 3
theorem glT_set {o : List Gl} {b : List Int} (h : Sets o) (hb : (takeV b).2.2.2 = 0) : Sets (o ++ [glT o b]) := by
  obtain ⟨m, _, _, _, h1, h2⟩ := take_size hb
  intro g hg
  rcases List.mem_append.1 hg with hg | hg
  · exact h g hg
  · rw [List.mem_singleton.1 hg]
    unfold glT
    split
    · rename_i hc
      rw [List.getLastD_eq_getLast?, List.getLast?_eq_some_getLast hc.1]
      exact h (o.getLast hc.1) (List.getLast_mem hc.1)
    · exact ⟨h1, h2⟩
noncomputable def lineE (b : List Int) : Option (List Gl) → List Gl × Bool
  | none => ([], false)
  | some o => (o, decide (rowO (nrm o) = b))
noncomputable def lineV (b : List Int) : List Gl × Bool := lineE b (lineN b.length [] b)
theorem last_rd {o : List Gl} (h : o ≠ []) (hlo : o.length ≤ 1000000) : rd_T35 o (wrap64 ((o.length : Int) - 1)) = o.getLastD ⟨0, 0⟩ := by
  have hl : 0 < o.length := List.length_pos_iff.2 h
  have hw : wrap64 ((o.length : Int) - 1) = ((o.length - 1 : Nat) : Int) := by
    rw [wrap_of (by omega) (by omega)]
    omega
  rw [hw, rdG o _ (by omega), List.getLastD_eq_getLast?, List.getLast?_eq_some_getLast h, List.getLast_eq_getElem]
  rfl
theorem line18_end {x0 : List Int} (h0 : Bytes x0) {o : List Gl} (hol : o.length ≤ 3000) (hs : Sets o) : Ev (fun k => over_line.l0 k (strOfNums x0) o []) (lineE x0 (some o)) := by
  refine Ev.step (f := fun k => (over_Row.f k o).bind fun t248 => (some (o, ((strOfNums t248).toList == (strOfNums x0).toList)))) (fun k => ?_) ?_
  · simp only [over_line.l0]
    rw [if_neg (by simp)]
  · refine Ev.bind (row18_ev (by omega) (fun g hg => ⟨(hs g hg).1, by have := (hs g hg).2; omega⟩)) (ev_eq (Ev.now _) ?_)
    rw [str_same (rowO_Bytes _) h0]
    rfl
theorem line18_l {x0 : List Int} (h0 : Bytes x0) (hl0 : x0.length ≤ 1000000) : ∀ (n : Nat) (o : List Gl) (b : List Int), Bytes b → b.length ≤ n → o.length + n ≤ 1000000 → Sets o → (∀ r, lineN n o b = some r → r.length ≤ 3000) →
    Ev (fun k => over_line.l0 k (strOfNums x0) o b) (lineE x0 (lineN n o b)) := by
  intro n
  induction n with
  | zero =>
    intro o b hb hn hol hs hsm
    obtain rfl : b = [] := List.length_eq_zero_iff.1 (by omega)
    exact line18_end h0 (hsm o (by simp [lineN])) hs
  | succ n ih =>
    intro o b hb hn hol hs hsm
    by_cases hb0 : b = []
    · subst hb0
      exact line18_end h0 (hsm o (by simp [lineN])) hs
    have hpos : 0 < b.length := List.length_pos_iff.2 hb0
    refine Ev.step (f := fun k => (over_Take.f k b).bind fun bt251 => (if bt251.2.2.2 = 0 then (if (o.length : Int) > 0 then ((runes_Width.f bt251.1).bind fun t256 => (if t256 = 0 then (if 0 ≤ (wrap64 ((o.length : Int) - 1)) then (if (wrap64 ((o.length : Int) - 1)) < (o.length : Int) then (if o.length < 17592186044416 then (if 0 ≤ bt251.2.2.1 then (if bt251.2.2.1 ≤ (b.length : Int) then (over_line.l0 k (strOfNums x0) (o ++ [(⟨bt251.1, (rd_T35 o (wrap64 ((o.length : Int) - 1))).f1⟩ : Gl)]) (b.drop (bt251.2.2.1 : Int).toNat)) else (none)) else (none)) else (none)) else (none)) else (none)) else (if o.length < 17592186044416 then (if 0 ≤ bt251.2.2.1 then (if bt251.2.2.1 ≤ (b.length : Int) then (over_line.l0 k (strOfNums x0) (o ++ [(⟨bt251.1, bt251.2.1⟩ : Gl)]) (b.drop (bt251.2.2.1 : Int).toNat)) else (none)) else (none)) else (none)))) else (if o.length < 17592186044416 then (if 0 ≤ bt251.2.2.1 then (if bt251.2.2.1 ≤ (b.length : Int) then (over_line.l0 k (strOfNums x0) (o ++ [(⟨bt251.1, bt251.2.1⟩ : Gl)]) (b.drop (bt251.2.2.1 : Int).toNat)) else (none)) else (none)) else (none))) else (some (([] : List Gl), false)))) (fun k => ?_) ?_
    · simp only [over_line.l0]
      rw [if_pos (by omega)]
    refine Ev.bind (take18_ev hb (by omega)) ?_
    unfold lineN at hsm ⊢
    rw [if_neg hb0] at hsm ⊢
    refine ev_ite (fun hok => ?_) (fun hok => ?_)
    · rw [if_pos hok] at hsm ⊢
      obtain ⟨m, hm, hm1, hm2, _⟩ := take_size hok
      have hnext := ih (o ++ [glT o b]) (b.drop (takeV b).2.2.1.toNat) (bytes_drop hb _) (by rw [hm, Int.toNat_natCast, List.length_drop]; omega) (by rw [List.length_append, List.length_singleton]; omega) (glT_set hs hok) hsm
      by_cases ho : o = []
      · subst ho
        refine ev_neg (by simp) (ev_pos (by simp) (ev_pos (by omega) (ev_pos (by omega) ?_)))
        unfold glT at hnext
        rw [if_neg (by simp)] at hnext
        exact hnext
      · have hop : 0 < o.length := List.length_pos_iff.2 ho
        refine ev_pos (by omega) (ev_bind1 (show runes_Width.f (takeV b).1 = some (wid (takeV b).1) from rfl) (ev_ite (fun hz => ?_) (fun hz => ?_)))
        · have hw : wrap64 ((o.length : Int) - 1) = (o.length : Int) - 1 := wrap_of (by omega) (by omega)
          refine ev_pos (by omega) (ev_pos (by omega) (ev_pos (by omega) (ev_pos (by omega) (ev_pos (by omega) ?_))))
          unfold glT at hnext ⊢
          rw [if_pos ⟨ho, hz⟩, ← last_rd ho (by omega)] at hnext ⊢
          exact hnext
        · refine ev_pos (by omega) (ev_pos (by omega) (ev_pos (by omega) ?_))
          unfold glT at hnext ⊢
          rw [if_neg (fun x => hz x.2)] at hnext ⊢
          exact hnext
    · rw [if_neg hok]
      exact Ev.now _
theorem line18_ev {b : List Int} (hb : Bytes b) (hl : b.length ≤ 1000000) (hsm : ∀ r, lineN b.length [] b = some r → r.length ≤ 3000) : Ev (fun k => over_line.f k (strOfNums b)) (lineV b) := by
  unfold over_line.f
  refine ev_bind1 (conv_now hb (by omega)) ?_
  exact line18_l hb hl b.length [] b hb (by omega) (by simp; omega) (fun g hg => by simp at hg) hsm
end Go.Proofs.YtmeinakeiefcdaaDoor.Pure

/- Bytes as lines. -/
namespace Go.Proofs.YtmeinakeiefcdaaDoor.Pure
set_option linter.unusedSimpArgs false
set_option linter.unusedVariables false
/-- Bytes, cut at each line feed; cur: what stands behind the last one. -/
def splitC : List Int → List Int → List (List Int)
  | cur, [] => [cur]
  | cur, x :: t => if x = 10 then cur :: splitC [] t else splitC (cur ++ [x]) t
/-- The same, what stands behind the last line feed left out. -/
def cutC : List Int → List Int → List (List Int)
  | _, [] => []
  | cur, x :: t => if x = 10 then cur :: cutC [] t else cutC (cur ++ [x]) t
theorem cutC_snoc : ∀ (t cur : List Int), cutC cur (t ++ [10]) = splitC cur t
  | [], cur => by simp [cutC, splitC]
  | x :: t, cur => by
    rw [List.cons_append, cutC, splitC]
    split
    · rw [cutC_snoc t []]
    · rw [cutC_snoc t _]
theorem splitC_none : ∀ (t cur : List Int), (10 : Int) ∉ t → splitC cur t = [cur ++ t]
  | [], cur, _ => by simp [splitC]
  | x :: t, cur, h => by
    simp only [List.mem_cons, not_or] at h
    rw [splitC, if_neg (fun e => h.1 e.symm), splitC_none t _ h.2, List.append_assoc]
    rfl
theorem splitC_mid : ∀ (a cur d : List Int), (10 : Int) ∉ a → splitC cur (a ++ 10 :: d) = (cur ++ a) :: splitC [] d
  | [], cur, d, _ => by simp [splitC]
  | x :: a, cur, d, h => by
    simp only [List.mem_cons, not_or] at h
    rw [List.cons_append, splitC, if_neg (fun e => h.1 e.symm), splitC_mid a _ d h.2, List.append_assoc]
    rfl
theorem cutC_line : ∀ (y cur t : List Int), (10 : Int) ∉ y → cutC cur (y ++ 10 :: t) = (cur ++ y) :: cutC [] t
  | [], cur, t, _ => by simp [cutC]
  | x :: y, cur, t, h => by
    simp only [List.mem_cons, not_or] at h
    rw [List.cons_append, cutC, if_neg (fun e => h.1 e.symm), cutC_line y _ t h.2, List.append_assoc]
    rfl
end Go.Proofs.YtmeinakeiefcdaaDoor.Pure

/- A text's pieces at line feeds are its lines. -/
namespace Go.Proofs.YtmeinakeiefcdaaDoor.Pure
open Go Go.RowKit Go.Proofs.YtmeinakeiefcdaaDoorW.PrintWords Go.Proofs.YtmeinakeiefcdaaDoorW.PrintLast Go.Proofs.YtmeinakeiefcdaaDoorW.PrintMore Go.Proofs.YtmeinakeiefcdaaDoor.X Go.Proofs.YtmeinakeiefcdaaDoor.Hand
set_option linter.unusedSimpArgs false
set_option linter.unusedVariables false
theorem first10 : ∀ c : List Int, (10 : Int) ∈ c → ∃ a d, c = a ++ 10 :: d ∧ (10 : Int) ∉ a
  | [], h => by simp at h
  | x :: c, h => by
    by_cases hx : x = 10
    · exact ⟨[], c, by rw [hx]; rfl, by simp⟩
    · obtain ⟨a, d, rfl, h2⟩ := first10 c (by
        rcases List.mem_cons.1 h with h | h
        · exact absurd h.symm hx
        · exact h)
      refine ⟨x :: a, d, rfl, fun h3 => ?_⟩
      rcases List.mem_cons.1 h3 with h3 | h3
      · exact hx h3.symm
      · exact h2 h3
theorem u10 {x : Int} (h : 0 ≤ x ∧ x ≤ 255) : (UInt8.ofNat x.toNat == 10) = decide (x = 10) := by
  have h1 : ∀ n : Nat, n < 256 → (UInt8.ofNat n == 10) = decide (n = 10) := by decide +kernel
  rw [h1 x.toNat (by omega)]
  by_cases e : x = 10
  · rw [decide_eq_true e, decide_eq_true (by omega)]
  · rw [decide_eq_false e, decide_eq_false (by omega)]
theorem idx_none : ∀ c : List Int, Bytes c → (10 : Int) ∉ c → Lib.indexByte (c.map fun n => UInt8.ofNat n.toNat) 10 = -1
  | [], _, _ => rfl
  | x :: c, hb, h => by
    simp only [List.mem_cons, not_or] at h
    rw [List.map_cons, Lib.indexByte, u10 (hb x (by simp)), decide_eq_false (fun e => h.1 e.symm), if_neg (by simp), idx_none c (fun y hy => hb y (List.mem_cons_of_mem _ hy)) h.2]
    rfl
theorem idx_mid : ∀ a d : List Int, Bytes a → (10 : Int) ∉ a → Lib.indexByte ((a ++ 10 :: d).map fun n => UInt8.ofNat n.toNat) 10 = (a.length : Int)
  | [], d, _, _ => by
    rw [List.nil_append, List.map_cons, Lib.indexByte, u10 (by decide)]
    rfl
  | x :: a, d, hb, h => by
    simp only [List.mem_cons, not_or] at h
    rw [List.cons_append, List.map_cons, Lib.indexByte, u10 (hb x (by simp)), decide_eq_false (fun e => h.1 e.symm), if_neg (by simp), idx_mid a d (fun y hy => hb y (List.mem_cons_of_mem _ hy)) h.2]
    rw [if_neg (by simp), List.length_cons]
    omega
theorem next_str (c : List Int) : nextLf (strOfNums c) = Lib.indexByte (c.map fun n => UInt8.ofNat n.toNat) 10 := by
  unfold nextLf
  rw [strOfNums_data]
theorem pieces_eq : ∀ (n : Nat) (c : List Int), c.length ≤ n → Bytes c → pieces (strOfNums c) = (splitC [] c).map strOfNums := by
  intro n
  induction n with
  | zero =>
    intro c hn hb
    obtain rfl : c = [] := List.eq_nil_of_length_eq_zero (by omega)
    rw [pieces_end (by rw [next_str]; decide)]
    rfl
  | succ n ih =>
    intro c hn hb
    by_cases h : (10 : Int) ∈ c
    · obtain ⟨a, d, rfl, ha⟩ := first10 c h
      have hi : nextLf (strOfNums (a ++ 10 :: d)) = (a.length : Int) := by rw [next_str, idx_mid a d (fun x hx => hb x (by simp [hx])) ha]
      rw [pieces_more (by omega), hi, str_part, str_part, numsStr_size, splitC_mid a [] d ha, List.map_cons]
      have e1 : ((a ++ 10 :: d).take (a.length : Int).toNat).drop 0 = [] ++ a := by simp
      have e2 : ((a ++ 10 :: d).take (a ++ 10 :: d).length).drop ((a.length : Int).toNat + 1) = d := by
        rw [List.take_length, Int.toNat_natCast, List.drop_append, List.drop_eq_nil_of_le (by omega)]
        simp
      rw [e1, e2, ih d (by simp at hn; omega) (fun x hx => hb x (by simp [hx]))]
    · rw [pieces_end (by rw [next_str, idx_none c hb h]; decide), splitC_none c [] h]
      rfl
end Go.Proofs.YtmeinakeiefcdaaDoor.Pure

/- Rows that are struck over, read: package over's and the reference's. -/
namespace Go.Proofs.YtmeinakeiefcdaaDoor.Pure
open Go Go.RowKit Go.Proofs.YtmeinakeiefcdaaDoorW.PrintWords Go.Proofs.YtmeinakeiefcdaaDoorW.PrintLast Go.Proofs.YtmeinakeiefcdaaDoorW.PrintMore Go.Proofs.YtmeinakeiefcdaaDoor.X Go.Proofs.YtmeinakeiefcdaaDoor.Hand
set_option linter.unusedSimpArgs false
set_option linter.unusedVariables false
theorem lineV_len {y : List Int} (h : ∀ r, lineN y.length [] y = some r → r.length ≤ 3000) : (lineV y).1.length ≤ 3000 := by
  unfold lineV
  cases hr : lineN y.length [] y with
  | none => simp [lineE]
  | some r => exact h r hr
/-- The rows of lines, if each is one. -/
noncomputable def rowsV : List (List Int) → Option (List (List Gl))
  | [] => some []
  | y :: t => if (lineV y).2 = true then (rowsV t).map ((lineV y).1 :: ·) else none
noncomputable def ovrV (o : List (List Gl)) : Option (List (List Gl)) → List (List Gl) × Int
  | some r => (o ++ r, 0)
  | none => ([], 5)
/-- What is read. -/
noncomputable def readO (b : List Int) : List (List Gl) × Int := if b = [] ∨ b.getLast? = some 10 then ovrV [] (rowsV (cutC [] b)) else ([], 5)
/-- Lines that are looked at. -/
def LineOK (y : List Int) : Prop := Bytes y ∧ y.length ≤ 1000000 ∧ ∀ r, lineN y.length [] y = some r → r.length ≤ 3000
theorem ovrV_cons (o : List (List Gl)) (y : List Gl) (r : Option (List (List Gl))) : ovrV o (r.map (y :: ·)) = ovrV (o ++ [y]) r := by
  cases r with
  | none => rfl
  | some r => simp [ovrV]
theorem oreads_ev {L : List (List Int)} (hL : ∀ y ∈ L, LineOK y) (hl : L.length ≤ 1000000) : Ev (fun k => over_Read.l0 k [] (L.map strOfNums) (L.length : Int) 0) (ovrV [] (rowsV L)) := by
  refine ev_eq (loop_up (fun k o i => over_Read.l0 k o (L.map strOfNums) (L.length : Int) i) L.length (fun o i => ovrV o (rowsV (L.drop i))) (fun o i => o.length = i) ?_ ?_ [] 0 (by omega) rfl) (by simp)
  · intro o _
    refine Ev.step (f := fun _ => some (o, 0)) (fun k => by simp only [over_Read.l0]; rw [if_neg (by omega)]) (ev_eq (Ev.now _) ?_)
    rw [List.drop_length]
    simp [rowsV, ovrV]
  · intro o i hi ho ih
    obtain ⟨hb, hlen, hsm⟩ := hL L[i] (List.getElem_mem hi)
    have hrd : rdOf ByteArray.empty (L.map strOfNums) (i : Int) = strOfNums L[i] := by
      simp [rdOf, List.getD_eq_getElem?_getD, List.getElem?_eq_getElem hi]
    refine Ev.step (f := fun k => (over_line.f k (strOfNums L[i])).bind fun bt288 => (if bt288.2 = true then ((clone_G.f bt288.1).bind fun t292 => (if o.length < 5864062014805 then (over_Read.l0 k (o ++ [t292]) (L.map strOfNums) (L.length : Int) ((i + 1 : Nat) : Int)) else (none))) else (some (([] : List (List Gl)), 5)))) (fun k => ?_) ?_
    · simp only [over_Read.l0]
      rw [if_pos (by omega), if_pos (by omega), if_pos (by rw [List.length_map]; omega), hrd, wrap_up hi (by omega)]
    · refine Ev.bind (line18_ev hb (by omega) hsm) ?_
      rw [List.drop_eq_getElem_cons hi, rowsV]
      refine ev_ite (fun h => ?_) (fun h => ?_)
      · rw [if_pos h, ovrV_cons]
        exact ev_bind1 (a := (lineV L[i]).1) (by have := lineV_len hsm; unfold clone_G.f; rw [if_pos (by omega)]) (ev_pos (by omega) (ih _ (by rw [List.length_append, List.length_singleton, ho])))
      · rw [if_neg h]
        exact Ev.now _
theorem oread_ev {b : List Int} (hb : Bytes b) (h : b.length ≤ 100000000) (hn : (cutC [] b).length ≤ 1000000) (hL : ∀ y ∈ cutC [] b, LineOK y) : Ev (fun k => over_Read.f k b) (readO b) := by
  unfold over_Read.f readO
  refine ev_ite (fun h0 => ?_) (fun h0 => ?_)
  · have : b = [] := List.eq_nil_of_length_eq_zero (by omega)
    subst this
    exact ev_eq (Ev.now _) (by rw [if_pos (.inl rfl)]; rfl)
  · have hne : b ≠ [] := fun e => h0 (by rw [e]; rfl)
    obtain ⟨c, x, rfl⟩ : ∃ c x, b = c ++ [x] := by
      rcases List.eq_nil_or_concat b with e | ⟨c, x, e⟩
      · exact absurd e hne
      · exact ⟨c, x, by rw [e, List.concat_eq_append]⟩
    have hlc : (c ++ [x]).length = c.length + 1 := by simp
    have hw : wrap64 (((c.length + 1 : Nat) : Int) - 1) = (c.length : Int) := by
      rw [wrap_of (by omega) (by omega)]
      omega
    have hbc : Bytes c := fun y hy => hb y (by simp [hy])
    rw [hlc, hw]
    refine ev_pos (by omega) (ev_pos (by omega) ?_)
    rw [rd_nat (c ++ [x]) c.length (by simp), show (c ++ [x])[c.length]'(by simp) = x by simp]
    refine ev_ite (fun hx => ?_) (fun hx => ?_)
    · subst hx
      rw [if_pos (.inr (by simp))]
      rw [cutC_snoc] at hn hL ⊢
      refine ev_pos (by omega) (ev_bind1 (a := (splitC [] c).map strOfNums) ?_ ?_)
      · unfold strings_Split.f
        rw [Int.toNat_natCast, List.take_left' rfl, if_pos ⟨rfl, by rw [numsStr_size]; omega⟩, pieces_eq c.length c (Nat.le_refl _) hbc]
      · rw [List.length_map]
        exact oreads_ev hL hn
    · rw [if_neg]
      · exact Ev.now _
      · rintro (e | e)
        · simp at e
        · simp at e
          exact hx e
end Go.Proofs.YtmeinakeiefcdaaDoor.Pure

/- The bytes of rows and lines, struck over: package over's. -/
namespace Go.Proofs.YtmeinakeiefcdaaDoor.Pure
open Go Go.RowKit Go.Proofs.YtmeinakeiefcdaaDoorW.PrintWords Go.Proofs.YtmeinakeiefcdaaDoorW.PrintLast Go.Proofs.YtmeinakeiefcdaaDoorW.PrintMore Go.Proofs.YtmeinakeiefcdaaDoor.X Go.Proofs.YtmeinakeiefcdaaDoor.Hand
set_option linter.unusedSimpArgs false
set_option linter.unusedVariables false
/-- The bytes of lines. -/
noncomputable def wO (rs : List (List Gl)) : List Int := (rs.map (fun r => rowO (nrm r) ++ [10])).flatten
theorem wO_drop (rs : List (List Gl)) (i : Nat) (h : i < rs.length) : wO (rs.drop i) = (rowO (nrm rs[i]) ++ [10]) ++ wO (rs.drop (i + 1)) := by
  unfold wO
  rw [List.drop_eq_getElem_cons h, List.map_cons, List.flatten_cons]
theorem wO_cons (r : List Gl) (t : List (List Gl)) : wO (r :: t) = rowO (nrm r) ++ 10 :: wO t := by simp [wO]
theorem wO_length : ∀ rs : List (List Gl), (∀ r ∈ rs, r.length ≤ 3000) → (wO rs).length ≤ 60001 * rs.length
  | [], _ => by simp [wO]
  | r :: t, h => by
    have h1 := wO_length t (fun x hx => h x (by simp [hx]))
    have h2 := h r (by simp)
    have h3 := rowO_length (nrm r)
    have h4 := nrm_length r
    rw [wO_cons, List.length_append, List.length_cons, List.length_cons]
    omega
theorem wO_Bytes (rs : List (List Gl)) : Bytes (wO rs) := by
  intro x hx
  unfold wO at hx
  obtain ⟨y, hy, hx⟩ := List.mem_flatten.1 hx
  obtain ⟨r, _, rfl⟩ := List.mem_map.1 hy
  rcases List.mem_append.1 hx with h | h
  · exact rowO_Bytes _ x h
  · rw [List.mem_singleton.1 h]
    decide
theorem prows_set18 {l : List Ln} (h : ∀ x ∈ l, Small x) : ∀ r ∈ prows l, ∀ g ∈ r, 0 ≤ g.f1 ∧ g.f1 ≤ 255 := by
  intro r hr
  obtain ⟨x, hx, rfl⟩ := List.mem_map.1 hr
  intro g hg
  have := ((nrm_is (flat_set (h x hx))).cl g hg)
  exact ⟨this.2.2.1, by have := this.2.2.2.1; omega⟩
theorem owrite_ev {l : List Ln} (hl : l.length ≤ 1000) (h : ∀ x ∈ l, Small x) : Ev (fun k => over_Write.f k l) (wO (prows l)) := by
  unfold over_Write.f
  refine Ev.bind (rows_ev hl h) ?_
  have hn := prows_length l
  have hsm := prows_small h
  have hst := prows_set18 h
  revert hn hsm hst
  generalize prows l = rs
  intro hn hsm hst
  refine ev_eq (loop_up (fun k o i => over_Write.l0 k o rs (rs.length : Int) i) rs.length (fun o i => o ++ wO (rs.drop i)) (fun o i => o.length ≤ 60001 * i) ?_ ?_ [] 0 (by omega) (by simp)) (by simp)
  · intro o _
    exact Ev.step (f := fun _ => some o) (fun k => by simp only [over_Write.l0]; rw [if_neg (by omega)]) (ev_eq (Ev.now _) (by simp [wO]))
  · intro o i hi ho ih
    have hr := hsm rs[i] (List.getElem_mem hi)
    have hlen := rowO_length (nrm rs[i])
    have hnl := nrm_length rs[i]
    refine Ev.step (f := fun k => (over_Row.f k rs[i]).bind fun t218 => (if o.length + t218.length < 140737488355328 then ((some (o ++ t218 : List Int)).bind fun y221 => (if y221.length < 140737488355328 then (over_Write.l0 k (y221 ++ [10]) rs (rs.length : Int) ((i + 1 : Nat) : Int)) else (none))) else (none))) (fun k => ?_) ?_
    · simp only [over_Write.l0]
      rw [if_pos (by omega), if_pos (by omega), if_pos (by omega), rdL rs i hi, wrap_up hi (by omega)]
    · refine Ev.bind (row18_ev hr (hst _ (List.getElem_mem hi))) (ev_pos (by omega) (ev_bind1 rfl (ev_pos (by rw [List.length_append]; omega) (ev_eq (ih _ (by simp only [List.length_append, List.length_singleton]; omega)) ?_))))
      rw [wO_drop rs i hi]
      simp only [List.append_assoc]
theorem prows_nrml {l : List Ln} (h : ∀ x ∈ l, Small x) : ∀ r ∈ prows l, Nrml r := by
  intro r hr
  obtain ⟨x, hx, rfl⟩ := List.mem_map.1 hr
  exact nrm_is (flat_set (h x hx))
end Go.Proofs.YtmeinakeiefcdaaDoor.Pure

/- Normal rows hold runes that may be shown: no byte of theirs is a control. -/
namespace Go.Proofs.YtmeinakeiefcdaaDoor.Pure
open Go Go.RowKit Go.Proofs.YtmeinakeiefcdaaDoorW.PrintWords Go.Proofs.YtmeinakeiefcdaaDoorW.PrintLast Go.Proofs.YtmeinakeiefcdaaDoorW.PrintMore Go.Proofs.YtmeinakeiefcdaaDoor.X Go.Proofs.YtmeinakeiefcdaaDoor.Hand
set_option linter.unusedSimpArgs false
set_option linter.unusedVariables false
theorem shown_byte {r : Int} (hv : validB r = true) (hc : controlB r = false) : ∀ x ∈ one r, 32 ≤ x ∧ x ≠ 127 := by
  intro x hx
  rw [one_valid hv] at hx
  have h1 := (validB_iff r).1 hv
  have h2 : ¬ controlB r = true := by rw [hc]; simp
  rw [controlB_iff] at h2
  unfold enc at hx
  split at hx
  · rw [List.mem_singleton.1 hx]
    omega
  · split at hx
    · simp only [List.mem_cons, List.not_mem_nil, or_false] at hx
      omega
    · split at hx
      · simp only [List.mem_cons, List.not_mem_nil, or_false] at hx
        omega
      · simp only [List.mem_cons, List.not_mem_nil, or_false] at hx
        omega
end Go.Proofs.YtmeinakeiefcdaaDoor.Pure

/- What is written, struck over, is read. -/
namespace Go.Proofs.YtmeinakeiefcdaaDoor.Pure
open Go Go.RowKit Go.Proofs.YtmeinakeiefcdaaDoorW.PrintWords Go.Proofs.YtmeinakeiefcdaaDoorW.PrintLast Go.Proofs.YtmeinakeiefcdaaDoorW.PrintMore Go.Proofs.YtmeinakeiefcdaaDoor.X Go.Proofs.YtmeinakeiefcdaaDoor.Hand
set_option linter.unusedSimpArgs false
set_option linter.unusedVariables false
/-- A glyph that may be read back. -/
def Free (g : Gl) : Prop := Cl g ∧ g.f0 ≠ 95
theorem Free.rune {g : Gl} (h : Free g) : validB g.f0 = true ∧ controlB g.f0 = false := by
  have h1 := safe_valid g.f0
  have h2 := safe_control g.f0
  rw [h.1.1] at h1 h2
  exact ⟨h1, h2⟩
theorem enc_head {r : Int} (h : validB r = true) {x : Int} (hx : x < 128) {t u : List Int} (e : enc r ++ t = x :: u) : r = x := by
  have h' := (validB_iff' r).1 h
  unfold enc at e
  split at e
  · simp at e
    exact e.1
  · split at e
    · simp at e
      omega
    · split at e
      · simp at e
        omega
      · simp at e
        omega
theorem overP_head {w : Nat} (hw : w = 1 ∨ w = 2) {b : List Int} (h : overP w <+: b) : ∃ u, b = 95 :: u := by
  obtain ⟨t, ht⟩ := h
  rcases hw with rfl | rfl
  · exact ⟨8 :: t, by rw [← ht]; rfl⟩
  · exact ⟨95 :: 8 :: 8 :: t, by rw [← ht]; rfl⟩
theorem oneV_plain {g : Gl} (hg : Free g) (h : wid g.f0 = 0 ∨ g.f0 = 32) : oneV g = enc g.f0 := by
  have hr := hg.rune
  have hc := cleanG_of hr.1 hr.2 hg.1.2.1 ⟨hg.1.2.2.1, hg.1.2.2.2.1⟩
  unfold oneV
  rw [show cleanG g = g from hc, if_pos h, one_valid hr.1]
theorem oneV_set {x s : Int} (hv : validB x = true) (hc : controlB x = false) (h160 : x ≠ 160) (hs : 0 ≤ s ∧ s ≤ 3) {w : Nat} (hw : wid x = w) (h0 : w ≠ 0) (h32 : x ≠ 32) :
    oneV ⟨x, s⟩ = (if s < 2 then [] else overP w) ++ ((if s % 2 = 0 then [] else enc x ++ List.replicate w 8) ++ enc x) := by
  unfold oneV
  rw [cleanG_of hv hc h160 hs]
  simp only [one_valid hv]
  rw [if_neg (by omega), hw, Int.toNat_natCast, List.append_assoc]
  rfl
theorem rep_behind {w : Nat} (h0 : w ≠ 0) {e t : List Int} (ht : ∀ u, t ≠ 8 :: u) (h : (e ++ List.replicate w 8) ++ e <+: e ++ t) : False := by
  obtain ⟨u, hu⟩ := h
  rw [List.append_assoc, List.append_assoc] at hu
  have h2 := List.append_cancel_left hu
  cases w with
  | zero => exact h0 rfl
  | succ w => exact ht _ (by rw [← h2, List.replicate_succ]; rfl)
/-- A glyph that is written is the first that is read. -/
theorem take_one {g : Gl} (hg : Free g) {t : List Int} (ht : ∀ u, t ≠ 8 :: u) (hbt : Bytes t) : takeV (oneV g ++ t) = (g.f0, if wid g.f0 = 0 ∨ g.f0 = 32 then 0 else g.f1, ((oneV g).length : Int), 0) := by
  have hb : Bytes (oneV g ++ t) := bytes_append (oneV_Bytes g) hbt
  have hr := hg.rune
  have hs := hg.1.2.2
  have hwr := wid_range g.f0
  obtain ⟨w, hw⟩ : ∃ w : Nat, wid g.f0 = w := ⟨(wid g.f0).toNat, by omega⟩
  generalize hp : (if wid g.f0 = 0 ∨ g.f0 = 32 then 0 else g.f1) = p
  have hp3 : 0 ≤ p ∧ p ≤ 3 := by
    rw [← hp]
    split
    · omega
    · exact ⟨hs.1, hs.2.1⟩
  have hone : oneV ⟨g.f0, p⟩ = oneV g := by
    by_cases h : wid g.f0 = 0 ∨ g.f0 = 32
    · rw [oneV_plain hg h]
      rw [if_pos h] at hp
      subst hp
      unfold oneV
      rw [cleanG_of hr.1 hr.2 hg.1.2.1 (by omega)]
      simp only [one_valid hr.1]
      rw [if_pos h]
    · rw [if_neg h] at hp
      rw [← hp]
  have hst : StandsP (oneV g ++ t) p g.f0 := by
    refine ⟨hr.1, hr.2, hg.1.2.1, ?_, t, by rw [hone]⟩
    by_cases h : wid g.f0 = 0 ∨ g.f0 = 32
    · rw [if_pos h] at hp
      exact .inl hp.symm
    · exact .inr ⟨fun e => h (.inr e), fun e => h (.inl e)⟩
  have hat := stands_at hb hp3 hst
  have hno : ∀ s, p < s → s ≤ 3 → ∀ x, ¬ StandsP (oneV g ++ t) s x := by
    intro s h1 h3 x hP
    have hs3 : 0 ≤ s ∧ s ≤ 3 := by omega
    have hx : x ≠ 32 ∧ wid x ≠ 0 := hP.2.2.2.1.resolve_left (by omega)
    rcases stands_at hb hs3 hP with ⟨h2, _, e⟩ | ⟨h2, v, hv, hwv, hov, _, e⟩
    · rcases hat with ⟨_, _, e'⟩ | ⟨h2', _⟩
      · have hxg : x = g.f0 := e.symm.trans e'
        subst hxg
        have hs1 : s = 1 := by omega
        have hp0 : p = 0 := by omega
        have hpre := hP.2.2.2.2
        rw [← hone, oneV_set hr.1 hr.2 hg.1.2.1 hs3 hw (by omega) hx.1, oneV_set hr.1 hr.2 hg.1.2.1 hp3 hw (by omega) hx.1, hs1, hp0] at hpre
        simp only [if_pos (show (1 : Int) < 2 by omega), if_pos (show (0 : Int) < 2 by omega), if_neg (show ¬ (1 : Int) % 2 = 0 by omega), if_pos (show (0 : Int) % 2 = 0 by omega), List.nil_append] at hpre
        exact rep_behind (by omega) ht hpre
      · omega
    · obtain ⟨u, hu⟩ := overP_head hv hov
      rcases hat with ⟨_, ha, e'⟩ | ⟨h2', v', hv', hwv', hov', _, e'⟩
      · obtain ⟨_, _, u', hu'⟩ := (at_iff hb g.f0).1 ⟨ha, e'⟩
        exact hg.2 (enc_head hr.1 (by omega) (hu'.trans hu))
      · have hvv : v = v' := by
          rcases hv with rfl | rfl <;> rcases hv' with rfl | rfl
          · rfl
          · exact (over_12 hov hov').elim
          · exact (over_12 hov' hov).elim
          · rfl
        subst hvv
        have hxg : x = g.f0 := e.symm.trans e'
        subst hxg
        have hs1 : s = 3 := by omega
        have hp0 : p = 2 := by omega
        have hpre := hP.2.2.2.2
        rw [← hone, oneV_set hr.1 hr.2 hg.1.2.1 hs3 hw (by omega) hx.1, oneV_set hr.1 hr.2 hg.1.2.1 hp3 hw (by omega) hx.1, hs1, hp0] at hpre
        simp only [if_neg (show ¬ (3 : Int) < 2 by omega), if_neg (show ¬ (2 : Int) < 2 by omega), if_neg (show ¬ (3 : Int) % 2 = 0 by omega), if_pos (show (2 : Int) % 2 = 0 by omega), List.nil_append] at hpre
        have hw0 : w ≠ 0 := fun e => hx.2 (by rw [hw, e]; rfl)
        simp only [List.append_assoc] at hpre
        exact rep_behind hw0 ht (by rw [List.append_assoc]; exact (List.prefix_append_right_inj _).1 hpre)
  have hatb : atB (oneV g ++ t) := by
    rcases hat with ⟨_, ha, _⟩ | ⟨_, v, hv, _, hov, _, _⟩
    · exact ha
    · obtain ⟨u, hu⟩ := overP_head hv hov
      exact ((at_iff hb 95).2 ⟨by decide +kernel, by decide +kernel, u, by rw [hu]; rfl⟩).1
  have hpk : ∀ sets, pickV (oneV g ++ t) (p :: sets) = (g.f0, p, ((oneV g).length : Int), 0) := fun sets => by rw [pick_some hb hp3 sets hst, hone]
  unfold takeV
  rw [if_pos hatb]
  rcases (show p = 3 ∨ p = 2 ∨ p = 1 ∨ p = 0 by omega) with e | e | e | e
  · rw [← e, hpk]
  · rw [pick_none _ (hno 3 (by omega) (by omega)), ← e, hpk]
  · rw [pick_none _ (hno 3 (by omega) (by omega)), pick_none _ (hno 2 (by omega) (by omega)), ← e, hpk]
  · rw [pick_none _ (hno 3 (by omega) (by omega)), pick_none _ (hno 2 (by omega) (by omega)), pick_none _ (hno 1 (by omega) (by omega))]
    have h0 := hpk []
    rw [e] at h0 ⊢
    exact h0
theorem enc_head8 {r : Int} (hv : validB r = true) (hc : controlB r = false) {t u : List Int} : enc r ++ t ≠ 8 :: u := fun e => by
  have h := enc_head hv (x := 8) (by omega) e
  subst h
  exact absurd hc (by decide +kernel)
theorem oneV_head8 {g : Gl} (hg : Free g) {t u : List Int} : oneV g ++ t ≠ 8 :: u := by
  have hr := hg.rune
  have hs := hg.1.2.2
  have hwr := wid_range g.f0
  by_cases h : wid g.f0 = 0 ∨ g.f0 = 32
  · rw [oneV_plain hg h]
    exact enc_head8 hr.1 hr.2
  · obtain ⟨w, hw⟩ : ∃ w : Nat, wid g.f0 = w := ⟨(wid g.f0).toNat, by omega⟩
    have he : oneV g = oneV ⟨g.f0, g.f1⟩ := rfl
    rw [he, oneV_set hr.1 hr.2 hg.1.2.1 ⟨hs.1, hs.2.1⟩ hw (by omega) (by omega)]
    by_cases h2 : g.f1 < 2
    · rw [if_pos h2, List.nil_append]
      split
      · rw [List.nil_append]
        exact enc_head8 hr.1 hr.2
      · rw [List.append_assoc, List.append_assoc]
        exact enc_head8 hr.1 hr.2
    · rw [if_neg h2]
      obtain ⟨v, hv⟩ : ∃ v, w = v + 1 := ⟨w - 1, by omega⟩
      subst hv
      intro e
      rw [overP, List.replicate_succ] at e
      simp at e
theorem rowO_head8 {c : List Gl} (hc : ∀ g ∈ c, Free g) : ∀ u, rowO c ≠ 8 :: u := by
  intro u
  cases c with
  | nil => simp [rowO]
  | cons g t =>
    rw [rowO_cons]
    exact oneV_head8 (hc g (by simp))
theorem lineN_row : ∀ (c o : List Gl) (n : Nat), (∀ g ∈ c, Free g) → IsNorm (lastS o) c → (o = [] → ∀ g t, c = g :: t → wid g.f0 ≠ 0) → (rowO c).length ≤ n → lineN n o (rowO c) = some (o ++ c)
  | [], o, n, _, _, _, _ => by
    rw [show rowO [] = [] from rfl, List.append_nil]
    cases n <;> simp [lineN]
  | g :: t, o, n, hf, hn, hh, hl => by
    have hg := hf g (by simp)
    have hpos := oneV_pos g
    have ht := take_one hg (rowO_head8 (fun x hx => hf x (by simp [hx]))) (rowO_Bytes t)
    rw [rowO_cons] at hl ⊢
    rw [List.length_append] at hl
    obtain ⟨m, rfl⟩ : ∃ m, n = m + 1 := ⟨n - 1, by omega⟩
    have hne : oneV g ++ rowO t ≠ [] := fun e => by
      rw [(List.append_eq_nil_iff.1 e).1] at hpos
      simp at hpos
    have hgl : glT o (oneV g ++ rowO t) = g := by
      have h1 := hn.1
      unfold glT
      rw [ht]
      simp only
      split
      · rename_i hc
        obtain ⟨hc1, hc2⟩ := hc
        have h32 : g.f0 ≠ 32 := fun e => by
          rw [e] at hc2
          exact absurd hc2 (by decide +kernel)
        have hls : lastS o = some (o.getLastD ⟨0, 0⟩).f1 := by
          unfold lastS
          rw [List.getLastD_eq_getLast?, List.getLast?_eq_some_getLast hc1]
          rfl
        rw [hls] at h1
        unfold setOf at h1
        rw [if_neg h32] at h1
        simp only [if_pos hc2] at h1
        exact gl_ext rfl h1.symm
      · rename_i hc
        by_cases h32 : g.f0 = 32
        · rw [if_pos (.inr h32)]
          unfold setOf at h1
          rw [if_pos h32] at h1
          exact gl_ext rfl h1.symm
        · by_cases hw : wid g.f0 = 0
          · by_cases ho : o = []
            · exact absurd hw (hh ho g t rfl)
            · exact absurd ⟨ho, hw⟩ hc
          · rw [if_neg (by omega)]
    rw [lineN, if_neg hne, if_pos (by rw [ht]), hgl]
    have hd : (takeV (oneV g ++ rowO t)).2.2.1.toNat = (oneV g).length := by rw [ht]; simp
    rw [hd, List.drop_left, lineN_row t (o ++ [g]) m (fun x hx => hf x (by simp [hx])) (by rw [lastS_snoc]; exact hn.2) (fun e => by simp at e) (by omega), List.append_assoc]
    rfl
/-- A row that may be read back. -/
def FreeR (c : List Gl) : Prop := Nrml c ∧ ∀ g ∈ c, g.f0 ≠ 95
theorem FreeR.all {c : List Gl} (h : FreeR c) : ∀ g ∈ c, Free g := fun g hg => ⟨h.1.cl g hg, h.2 g hg⟩
theorem line_rowO {c : List Gl} (h : FreeR c) : lineN (rowO c).length [] (rowO c) = some c := by
  have := lineN_row c [] (rowO c).length h.all h.1.norm (fun _ g t e => by
    have := h.1.head (by rw [e]; simp)
    simpa [e] using this) (Nat.le_refl _)
  simpa using this
theorem lineV_row {c : List Gl} (h : FreeR c) : lineV (rowO c) = (c, true) := by
  unfold lineV
  rw [line_rowO h, lineE, h.1.self]
  simp
theorem oneV_no10 {g : Gl} (hg : Free g) : (10 : Int) ∉ oneV g := by
  have hr := hg.rune
  have hs := hg.1.2.2
  have hwr := wid_range g.f0
  have he : (10 : Int) ∉ enc g.f0 := fun hx => by
    have := shown_byte hr.1 hr.2 10 (by rw [one_valid hr.1]; exact hx)
    omega
  by_cases h : wid g.f0 = 0 ∨ g.f0 = 32
  · rw [oneV_plain hg h]
    exact he
  · obtain ⟨w, hw⟩ : ∃ w : Nat, wid g.f0 = w := ⟨(wid g.f0).toNat, by omega⟩
    have e : oneV g = oneV ⟨g.f0, g.f1⟩ := rfl
    rw [e, oneV_set hr.1 hr.2 hg.1.2.1 ⟨hs.1, hs.2.1⟩ hw (by omega) (by omega)]
    have hrep : ∀ (n : Nat) (x : Int), x ≠ 10 → (10 : Int) ∉ List.replicate n x := fun n x hx hm => hx (List.eq_of_mem_replicate hm).symm
    intro hm
    rcases List.mem_append.1 hm with hm | hm
    · split at hm
      · simp at hm
      · rcases List.mem_append.1 hm with hm | hm
        · exact hrep _ _ (by decide) hm
        · exact hrep _ _ (by decide) hm
    · rcases List.mem_append.1 hm with hm | hm
      · split at hm
        · simp at hm
        · rcases List.mem_append.1 hm with hm | hm
          · exact he hm
          · exact hrep _ _ (by decide) hm
      · exact he hm
theorem rowO_no10 {c : List Gl} (h : FreeR c) : (10 : Int) ∉ rowO c := fun hm => by
  obtain ⟨g, hg, hx⟩ := List.mem_flatMap.1 hm
  exact oneV_no10 (h.all g hg) hx
theorem cutC_wO : ∀ rs : List (List Gl), (∀ r ∈ rs, FreeR r) → cutC [] (wO rs) = rs.map rowO
  | [], _ => rfl
  | r :: t, h => by
    have hr := h r (by simp)
    rw [wO_cons, hr.1.self, cutC_line _ _ _ (rowO_no10 hr), cutC_wO t (fun x hx => h x (by simp [hx])), List.map_cons]
    rfl
theorem wO_last : ∀ rs : List (List Gl), wO rs = [] ∨ (wO rs).getLast? = some 10
  | [] => .inl rfl
  | r :: t => by
    right
    rw [wO_cons, List.getLast?_append]
    rcases wO_last t with h | h
    · rw [h]
      rfl
    · cases hw : wO t with
      | nil => rw [hw] at h; simp at h
      | cons x u => rw [hw] at h; rw [List.getLast?_cons_cons, h]; rfl
theorem rowsV_wO : ∀ rs : List (List Gl), (∀ r ∈ rs, FreeR r) → rowsV (rs.map rowO) = some rs
  | [], _ => rfl
  | r :: t, h => by
    rw [List.map_cons, rowsV, lineV_row (h r (by simp)), if_pos rfl, rowsV_wO t (fun x hx => h x (by simp [hx]))]
    rfl
theorem readO_wO {rs : List (List Gl)} (h : ∀ r ∈ rs, FreeR r) : readO (wO rs) = (rs, 0) := by
  rw [readO, if_pos (wO_last rs), cutC_wO rs h, rowsV_wO rs h]
  rfl
end Go.Proofs.YtmeinakeiefcdaaDoor.Pure

/- Lines in which no line stands below: what the chapter's laws ask; their rows may be read back. -/
namespace Go.Proofs.YtmeinakeiefcdaaDoor.Pure
open Go Go.RowKit Go.Proofs.YtmeinakeiefcdaaDoorW.PrintWords Go.Proofs.YtmeinakeiefcdaaDoorW.PrintLast Go.Proofs.YtmeinakeiefcdaaDoorW.PrintMore Go.Proofs.YtmeinakeiefcdaaDoor.X Go.Proofs.YtmeinakeiefcdaaDoor.Hand
set_option linter.unusedSimpArgs false
set_option linter.unusedVariables false
def strB (l : List Ln) : Bool := l.any (fun x => x.f1.any (fun g => g.f0 == 95))
theorem strikes_ev {l : List Ln} (hl : l.length ≤ 1000000) (h : ∀ x ∈ l, x.f1.length ≤ 1000000) : Ev (fun k => flonglaw18_strikes.f k l) (strB l) := by
  unfold flonglaw18_strikes.f
  refine ev_eq (loop_up (σ := Unit) (fun k _ i => flonglaw18_strikes.l0 k l i) l.length (fun _ i => strB (l.drop i)) (fun _ _ => True) ?_ ?_ () 0 (by omega) trivial) (by simp)
  · intro _ _
    exact Ev.step (f := fun _ => some false) (fun k => by simp only [flonglaw18_strikes.l0]; rw [if_neg (by omega)]) (ev_eq (Ev.now _) (by simp [strB]))
  · intro _ i hi _ ih
    have hx := h l[i] (List.getElem_mem hi)
    have hd : strB (l.drop i) = (l[i].f1.any (fun g => g.f0 == 95) || strB (l.drop (i + 1))) := by
      rw [List.drop_eq_getElem_cons hi, strB, List.any_cons]
      rfl
    refine Ev.step (f := fun k => flonglaw18_strikes.l1 k l (i : Int) ((0 : Nat) : Int)) (fun k => by simp only [flonglaw18_strikes.l0]; rw [if_pos (by omega)]; rfl) ?_
    rw [hd]
    refine ev_eq (loop_up (σ := Unit) (fun k _ j => flonglaw18_strikes.l1 k l (i : Int) j) l[i].f1.length (fun _ j => ((l[i].f1.drop j).any (fun g => g.f0 == 95) || strB (l.drop (i + 1)))) (fun _ _ => True) ?_ ?_ () 0 (by omega) trivial) (by simp)
    · intro _ _
      refine Ev.step (f := fun k => flonglaw18_strikes.l0 k l ((i + 1 : Nat) : Int)) (fun k => ?_) (ev_eq (ih () trivial) (by simp))
      simp only [flonglaw18_strikes.l1]
      rw [if_pos (by omega), if_pos (by omega), rdN l i hi, if_neg (by omega), wrap_up hi (by omega)]
    · intro _ j hj _ ihj
      refine Ev.step (f := fun k => if l[i].f1[j].f0 = 95 then some true else flonglaw18_strikes.l1 k l (i : Int) ((j + 1 : Nat) : Int)) (fun k => ?_) ?_
      · simp only [flonglaw18_strikes.l1]
        rw [if_pos (by omega), if_pos (by omega), rdN l i hi, if_pos (by omega), if_pos (by omega), rdG _ j hj, wrap_up hj (by omega)]
      · rw [List.drop_eq_getElem_cons hj, List.any_cons]
        refine ev_ite (fun e => ev_eq (Ev.now _) (by rw [e]; rfl)) (fun e => ev_eq (ihj () trivial) (by rw [show (l[i].f1[j].f0 == 95) = false from beq_false_of_ne e, Bool.false_or]))
theorem nrm_from (l : List Gl) : ∀ g ∈ nrm l, ∃ z ∈ l, g.f0 = (cleanG z).f0 := by
  intro g hg
  unfold nrm at hg
  have h1 : g.f0 ∈ (normGo none ((clean l).take (exists_trim (clean l)).choose)).map (·.f0) := List.mem_map_of_mem hg
  rw [normGo_runes] at h1
  obtain ⟨y, hy, e⟩ := List.mem_map.1 h1
  have h2 := List.mem_of_mem_take hy
  have h3 := (List.dropWhile_sublist _).subset h2
  obtain ⟨z, hz, rfl⟩ := List.mem_map.1 h3
  exact ⟨z, hz, e.symm⟩
theorem cleanG_95 {z : Gl} (h : (cleanG z).f0 = 95) : z.f0 = 95 := by
  unfold cleanG at h
  split at h
  · exact absurd h (by show ¬ safe 32 = 95; decide +kernel)
  · change safe z.f0 = 95 at h
    unfold safe at h
    split at h
    · exact h
    · exact absurd h (by decide)
theorem prows_free {l : List Ln} (h : ∀ x ∈ l, Small x) (hs : strB l = false) : ∀ r ∈ prows l, FreeR r := by
  intro r hr
  refine ⟨prows_nrml h r hr, ?_⟩
  obtain ⟨x, hx, rfl⟩ := List.mem_map.1 hr
  intro g hg e
  obtain ⟨z, hz, hez⟩ := nrm_from _ g hg
  have h95 := cleanG_95 (hez.symm.trans e)
  unfold flat at hz
  split at hz
  · simp at hz
  · rcases List.mem_append.1 hz with hz | hz
    · rw [(List.mem_replicate.1 hz).2] at h95
      exact absurd h95 (by decide)
    · unfold strB at hs
      rw [List.any_eq_false] at hs
      have h1 := hs x hx
      rw [Bool.not_eq_true, List.any_eq_false] at h1
      exact h1 z hz (by simp [h95])
/-- What is written is read. -/
theorem oback_ev {l : List Ln} (hl : l.length ≤ 1000) (hsm : ∀ x ∈ l, Small x) (hs : strB l = false) : Ev (fun k => over_Read.f k (wO (prows l))) (prows l, 0) := by
  have hF := prows_free hsm hs
  have hrl := prows_length l
  have hr3 := prows_small hsm
  revert hF hrl hr3
  generalize prows l = rs
  intro hF hrl hr3
  have hbl := wO_length rs hr3
  have hb := wO_Bytes rs
  have hread := oread_ev hb (by omega) (by rw [cutC_wO rs hF, List.length_map]; omega) (fun y hy => by
    rw [cutC_wO rs hF] at hy
    obtain ⟨r, hr, rfl⟩ := List.mem_map.1 hy
    have h3 := rowO_length r
    have h4 := hr3 r hr
    exact ⟨rowO_Bytes r, by omega, fun q hq => by rw [line_rowO (hF r hr)] at hq; rw [← Option.some.inj hq]; exact h4⟩)
  rw [readO_wO hF] at hread
  exact hread
end Go.Proofs.YtmeinakeiefcdaaDoor.Pure

/- The reference's test of a rune. -/
namespace Go.Proofs.YtmeinakeiefcdaaDoor.Pure
open Go Go.RowKit Go.Proofs.YtmeinakeiefcdaaDoorW.PrintWords Go.Proofs.YtmeinakeiefcdaaDoorW.PrintLast Go.Proofs.YtmeinakeiefcdaaDoorW.PrintMore Go.Proofs.YtmeinakeiefcdaaDoor.X Go.Proofs.YtmeinakeiefcdaaDoor.Hand
set_option linter.unusedSimpArgs false
set_option linter.unusedVariables false
theorem rvalid_eq (a : Int) : flongref02_Valid.f a = some (validB a) := by
  unfold flongref02_Valid.f
  by_cases h1 : a ≥ 0 <;> by_cases h2 : a < 1114112 <;> by_cases h3 : a < 55296 <;> simp only [h1, h2, h3, if_true, if_false] <;> congr 1 <;> (rw [Bool.eq_iff_iff]; simp [validB]; omega)
end Go.Proofs.YtmeinakeiefcdaaDoor.Pure

/- The references of layer 2 that look at one rune. -/
namespace Go.Proofs.YtmeinakeiefcdaaDoor.Pure
open Go.RowKit Go.Proofs.YtmeinakeiefcdaaDoorW.PrintWords Go.Proofs.YtmeinakeiefcdaaDoorW.PrintLast Go.Proofs.YtmeinakeiefcdaaDoorW.PrintMore Go.Proofs.YtmeinakeiefcdaaDoor.X Go.Proofs.YtmeinakeiefcdaaDoor.Hand
set_option linter.unusedSimpArgs false
set_option linter.unusedVariables false
theorem rcontrol_eq (a : Int) : flongref02_Control.f a = some (controlB a) := by
  unfold flongref02_Control.f
  by_cases h1 : a ≥ 0 <;> by_cases h2 : a ≤ 31 <;> by_cases h3 : a ≥ 127 <;> by_cases h4 : a ≤ 159 <;> by_cases h5 : a = 8232 <;> simp only [h1, h2, h3, h4, h5, if_true, if_false] <;> congr 1 <;> (rw [Bool.eq_iff_iff]; simp [controlB]; omega)
theorem rsafe_eq (a : Int) : flongref02_Safe.f a = some (safe a) := by
  unfold flongref02_Safe.f
  rw [rvalid_eq, Option.bind_some]
  by_cases h1 : validB a = true
  · rw [if_pos h1, rcontrol_eq, Option.bind_some]
    cases h2 : controlB a <;> simp [safe, h1, h2]
  · rw [if_neg h1]
    simp [safe, h1]
theorem within_step (r : Int) (ls : List Int) (n : Nat) (hn : ls.length = 2 * n) (hs : n ≤ 1000) (i : Nat) (hlt : i < n) (k : Nat) : flongref02_within.l0 (k + 1) r ls ((2 * i : Nat) : Int) =
    if r ≥ lowAt ls i then (if r ≤ highAt ls i then some true else flongref02_within.l0 k r ls ((2 * (i + 1) : Nat) : Int)) else flongref02_within.l0 k r ls ((2 * (i + 1) : Nat) : Int) := by
  have e0 : rd ls ((2 * i : Nat) : Int) = lowAt ls i := by
    rw [rd_nat ls (2 * i) (by omega)]
    simp [lowAt, List.getD_eq_getElem?_getD, Nat.mul_comm i 2, List.getElem?_eq_getElem (show 2 * i < ls.length by omega)]
  have e1 : rd ls (((2 * i : Nat) : Int) + 1) = highAt ls i := by
    rw [show ((2 * i : Nat) : Int) + 1 = ((2 * i + 1 : Nat) : Int) from by omega, rd_nat ls (2 * i + 1) (by omega)]
    simp [highAt, List.getD_eq_getElem?_getD, Nat.mul_comm i 2, List.getElem?_eq_getElem (show 2 * i + 1 < ls.length by omega)]
  simp only [flongref02_within.l0]
  rw [wrap_of (x := ((2 * i : Nat) : Int) + 1) (by omega) (by omega), wrap_of (x := ((2 * i : Nat) : Int) + 2) (by omega) (by omega), if_pos (by omega), if_pos (by omega), if_pos (by omega), e0, e1, show ((2 * i : Nat) : Int) + 2 = ((2 * (i + 1) : Nat) : Int) from by omega]
  split
  · rw [if_pos (by omega)]
  · rfl
theorem within_end (r : Int) (ls : List Int) (n : Nat) (hn : ls.length = 2 * n) (hs : n ≤ 1000) (k : Nat) : flongref02_within.l0 (k + 1) r ls ((2 * n : Nat) : Int) = some false := by
  simp only [flongref02_within.l0]
  rw [wrap_of (by omega) (by omega), if_neg (by omega)]
theorem part_range (r : Int) (ls : List Int) (n i : Nat) (hlt : i < n) : (∃ j, i ≤ j ∧ j < n ∧ lowAt ls j ≤ r ∧ r ≤ highAt ls j) ↔ (lowAt ls i ≤ r ∧ r ≤ highAt ls i) ∨ ∃ j, i + 1 ≤ j ∧ j < n ∧ lowAt ls j ≤ r ∧ r ≤ highAt ls j := by
  constructor
  · rintro ⟨j, h1, h2, h3⟩
    by_cases e : j = i
    · subst e; exact .inl h3
    · exact .inr ⟨j, by omega, h2, h3⟩
  · rintro (h | ⟨j, h1, h2, h3⟩)
    · exact ⟨i, Nat.le_refl _, hlt, h⟩
    · exact ⟨j, by omega, h2, h3⟩
theorem within_l (r : Int) (ls : List Int) (n : Nat) (hn : ls.length = 2 * n) (hs : n ≤ 1000) : ∀ (d i : Nat), n - i = d → i ≤ n → ∀ b : Bool, (b = true ↔ ∃ j, i ≤ j ∧ j < n ∧ lowAt ls j ≤ r ∧ r ≤ highAt ls j) → Ev (fun k => flongref02_within.l0 k r ls ((2 * i : Nat) : Int)) b := by
  intro d
  induction d with
  | zero =>
    intro i hd hi b hb
    obtain rfl : i = n := by clear hb; omega
    refine Ev.step (f := fun _ => some false) (fun k => within_end r ls i hn hs k) (ev_eq (Ev.now _) ?_)
    cases b with
    | false => rfl
    | true =>
      obtain ⟨j, h1, h2, _⟩ := hb.1 rfl
      exact absurd h2 (Nat.not_lt.2 h1)
  | succ d ih =>
    intro i hd hi b hb
    have hlt : i < n := by clear hb; omega
    have hnext := ih (i + 1) (by clear hb; omega) (by clear hb; omega)
    refine Ev.step (within_step r ls n hn hs i hlt) ?_
    refine ev_ite (fun h => ev_ite (fun h' => ev_eq (Ev.now _) ?_) (fun h' => hnext b ?_)) (fun h => hnext b ?_)
    · exact ((hb.trans (part_range r ls n i hlt)).2 (.inl ⟨h, h'⟩)).symm
    · rw [hb, part_range r ls n i hlt]
      exact ⟨fun z => z.resolve_left (fun q => h' q.2), .inr⟩
    · rw [hb, part_range r ls n i hlt]
      exact ⟨fun z => z.resolve_left (fun q => h q.1), .inr⟩
theorem within_ev (r : Int) (ls : List Int) (n : Nat) (hn : ls.length = 2 * n) (hs : n ≤ 1000) : Ev (fun k => flongref02_within.f k r ls) (inRange ls n r) := by
  unfold flongref02_within.f
  refine within_l r ls n hn hs n 0 (by omega) (by omega) _ ?_
  rw [inRange_true]
  constructor
  · rintro ⟨j, h2, h3⟩; exact ⟨j, Nat.zero_le _, h2, h3⟩
  · rintro ⟨j, _, h2, h3⟩; exact ⟨j, h2, h3⟩
theorem rwidth_ev (r : Int) : Ev (fun k => flongref02_Width.f k r) (wid r) := by
  have hj : ∀ b : Bool, Ev (fun k => flongref02_Width.j0 k r b) (if b = true then 0 else if inRange noneL 12 r = true then 0 else if inRange wideL 16 r = true then 2 else 1) := by
    intro b
    refine Ev.step (f := fun k => if b = true then some 0 else ((flongref02_within.f k r noneL).bind fun t => if t = true then some 0 else ((flongref02_within.f k r wideL).bind fun t => if t = true then some 2 else some 1))) (fun k => by simp only [flongref02_Width.j0, noneL, wideL]) ?_
    refine ev_ite (fun h => ev_eq (Ev.now _) (by simp [h])) (fun h => Ev.bind (within_ev r noneL 12 rfl (by omega)) (ev_ite (fun h1 => ev_eq (Ev.now _) (by simp [h, h1])) (fun h1 => Ev.bind (within_ev r wideL 16 rfl (by omega)) (ev_ite (fun h2 => ev_eq (Ev.now _) (by simp [h, h1, h2])) (fun h2 => ev_eq (Ev.now _) (by simp [h, h1, h2]))))))
  unfold flongref02_Width.f
  refine ev_bind1 (rvalid_eq r) (ev_ite (fun h => ev_bind1 (rcontrol_eq r) (ev_eq (hj _) ?_)) (fun h => ev_eq (hj _) ?_))
  · simp [wid, h]
  · simp [wid, h]
end Go.Proofs.YtmeinakeiefcdaaDoor.Pure

/- The reference: what may be written of a row. -/
namespace Go.Proofs.YtmeinakeiefcdaaDoor.Pure
open Go.RowKit Go.Proofs.YtmeinakeiefcdaaDoorW.PrintWords Go.Proofs.YtmeinakeiefcdaaDoorW.PrintLast Go.Proofs.YtmeinakeiefcdaaDoorW.PrintMore Go.Proofs.YtmeinakeiefcdaaDoor.X Go.Proofs.YtmeinakeiefcdaaDoor.Hand
set_option linter.unusedSimpArgs false
set_option linter.unusedVariables false
theorem tmod4 {x : Int} (h : 0 ≤ x ∧ x ≤ 255) : Int.tmod x 4 = Go.bits .and .u8 x 3 := by
  have h1 : ∀ n : Nat, n < 256 → Int.tmod (n : Int) 4 = Go.bits .and .u8 (n : Int) 3 := by decide +kernel
  obtain ⟨n, rfl⟩ := Int.eq_ofNat_of_zero_le h.1
  exact h1 n (by omega)
theorem safe_32 : safe 32 = 32 := by decide +kernel
theorem rclean_ev (l : List Gl) (h : l.length ≤ 5000) (h8 : ∀ g ∈ l, 0 ≤ g.f1 ∧ g.f1 ≤ 255) : Ev (fun k => flongref03_Clean.f k l) (clean l) := by
  unfold flongref03_Clean.f
  refine ev_eq (loop_up (fun k o i => flongref03_Clean.l0 k l o i) l.length (fun o i => if o = [] then clean (l.drop i) else o ++ (l.drop i).map cleanG) (fun o i => o.length ≤ i) ?_ ?_ [] 0 (by omega) (by simp)) (by simp)
  · intro o _
    refine Ev.step (f := fun _ => some o) (fun k => by simp only [flongref03_Clean.l0]; rw [if_neg (by omega)]) (ev_eq (Ev.now _) ?_)
    rw [List.drop_length]
    split
    · rename_i e
      rw [e]
      rfl
    · simp
  · intro o i hi ho ih
    have h1 : Ev (fun k => flongref03_Clean.l0 k l (o ++ [cleanG l[i]]) ((i + 1 : Nat) : Int)) (o ++ cleanG l[i] :: (l.drop (i + 1)).map cleanG) := by
      refine ev_eq (ih (o ++ [cleanG l[i]]) (by simp; omega)) ?_
      rw [if_neg (by simp), List.append_assoc]
      rfl
    have hst : Int.tmod l[i].f1 4 = Go.bits .and .u8 l[i].f1 3 := tmod4 (h8 l[i] (List.getElem_mem hi))
    have hj : ∀ x : Int, cleanG l[i] = ⟨x, Int.tmod l[i].f1 4⟩ → Ev (fun k => if (o.length : Int) > 0 then (if o.length < 17592186044416 then flongref03_Clean.l0 k l (o ++ [(⟨x, Int.tmod l[i].f1 4⟩ : Gl)]) ((i + 1 : Nat) : Int) else none) else ((flongref02_Width.f k x).bind fun t => if t > 0 then (if o.length < 17592186044416 then flongref03_Clean.l0 k l (o ++ [(⟨x, Int.tmod l[i].f1 4⟩ : Gl)]) ((i + 1 : Nat) : Int) else none) else flongref03_Clean.l0 k l o ((i + 1 : Nat) : Int))) (if o = [] then clean (l.drop i) else o ++ (l.drop i).map cleanG) := by
      intro x hx
      rw [← hx]
      refine ev_ite (fun hc => ev_pos (by omega) (ev_eq h1 ?_)) (fun hc => ?_)
      · rw [if_neg (by intro e; rw [e] at hc; simp at hc), List.drop_eq_getElem_cons hi, List.map_cons]
      · obtain rfl : o = [] := by
          rcases o with _ | ⟨_, _⟩
          · rfl
          · exfalso
            apply hc
            simp only [List.length_cons]
            omega
        rw [if_pos rfl]
        have hw : wid x = wid (cleanG l[i]).f0 := by rw [hx]
        refine Ev.bind (rwidth_ev x) ?_
        rw [hw]
        refine ev_ite (fun hp => ev_pos (by simp) (ev_eq h1 ?_)) (fun hp => ev_eq (ih [] (by simp)) ?_)
        · rw [List.drop_eq_getElem_cons hi, clean, List.map_cons, List.dropWhile_cons, if_neg (by simp [hp])]
          rfl
        · rw [if_pos rfl, List.drop_eq_getElem_cons hi, clean, clean, List.map_cons, List.dropWhile_cons, if_pos (by simp [hp])]
    by_cases hc : l[i].f0 = 160
    · refine Ev.step (f := fun k => if (o.length : Int) > 0 then (if o.length < 17592186044416 then flongref03_Clean.l0 k l (o ++ [(⟨32, Int.tmod l[i].f1 4⟩ : Gl)]) ((i + 1 : Nat) : Int) else none) else ((flongref02_Width.f k 32).bind fun t => if t > 0 then (if o.length < 17592186044416 then flongref03_Clean.l0 k l (o ++ [(⟨32, Int.tmod l[i].f1 4⟩ : Gl)]) ((i + 1 : Nat) : Int) else none) else flongref03_Clean.l0 k l o ((i + 1 : Nat) : Int))) (fun k => ?_) (hj 32 ?_)
      · simp only [flongref03_Clean.l0]
        rw [if_pos (by omega), if_pos (by omega), rdG l i hi, rsafe_eq, Option.bind_some, if_pos hc, wrap_up hi (by omega)]
      · rw [cleanG, if_pos hc, safe_32, hst]
    · refine Ev.step (f := fun k => if (o.length : Int) > 0 then (if o.length < 17592186044416 then flongref03_Clean.l0 k l (o ++ [(⟨safe l[i].f0, Int.tmod l[i].f1 4⟩ : Gl)]) ((i + 1 : Nat) : Int) else none) else ((flongref02_Width.f k (safe l[i].f0)).bind fun t => if t > 0 then (if o.length < 17592186044416 then flongref03_Clean.l0 k l (o ++ [(⟨safe l[i].f0, Int.tmod l[i].f1 4⟩ : Gl)]) ((i + 1 : Nat) : Int) else none) else flongref03_Clean.l0 k l o ((i + 1 : Nat) : Int))) (fun k => ?_) (hj (safe l[i].f0) ?_)
      · simp only [flongref03_Clean.l0]
        rw [if_pos (by omega), if_pos (by omega), rdG l i hi, rsafe_eq, Option.bind_some, if_neg hc, wrap_up hi (by omega)]
      · rw [cleanG, if_neg hc, hst]
end Go.Proofs.YtmeinakeiefcdaaDoor.Pure

/- The reference: a row trimmed. -/
namespace Go.Proofs.YtmeinakeiefcdaaDoor.Pure
open Go.RowKit Go.Proofs.YtmeinakeiefcdaaDoorW.PrintWords Go.Proofs.YtmeinakeiefcdaaDoorW.PrintLast Go.Proofs.YtmeinakeiefcdaaDoorW.PrintMore Go.Proofs.YtmeinakeiefcdaaDoor.X Go.Proofs.YtmeinakeiefcdaaDoor.Hand
set_option linter.unusedSimpArgs false
set_option linter.unusedVariables false
theorem rtrim_ev {l : List Gl} {m : Nat} (hm : IsTrim l m) (h : l.length ≤ 5000) : Ev (fun k => flongref03_Trim.f k l) (l.take m) := by
  have hle := hm.le
  have hend : (if 0 ≤ (m : Int) then (if (m : Int) ≤ (l.length : Int) then (some (l.take (m : Int).toNat)) else (none)) else (none)) = some (l.take m) := by
    rw [if_pos (by omega), if_pos (by omega), Int.toNat_natCast]
  have key : ∀ d n, n - m = d → m ≤ n → n ≤ l.length → Ev (fun k => flongref03_Trim.l0 k l (n : Int)) (l.take m) := by
    intro d
    induction d with
    | zero =>
      intro n hd h1 h2
      obtain rfl : n = m := by omega
      refine Ev.step (f := fun _ => some (l.take n)) (fun k => ?_) (Ev.now _)
      simp only [flongref03_Trim.l0]
      by_cases hp : 0 < n
      · have hg := hm.last l[n - 1] hp (List.getElem?_eq_getElem (by omega))
        rw [if_pos (by omega), wrap_of (by omega) (by omega), show (n : Int) - 1 = ((n - 1 : Nat) : Int) by omega, if_pos (by omega), if_pos (by omega), rdG l (n - 1) (by omega), if_neg hg, hend]
      · rw [if_neg (by omega), hend]
    | succ d ih =>
      intro n hd h1 h2
      have hg := hm.rest (n - 1) (l[n - 1]'(by omega)) (by omega) (List.getElem?_eq_getElem (by omega))
      refine Ev.step (f := fun k => flongref03_Trim.l0 k l ((n - 1 : Nat) : Int)) (fun k => ?_) (ih (n - 1) (by omega) (by omega) (by omega))
      simp only [flongref03_Trim.l0]
      rw [if_pos (by omega), wrap_of (by omega) (by omega), show (n : Int) - 1 = ((n - 1 : Nat) : Int) by omega, if_pos (by omega), if_pos (by omega), rdG l (n - 1) (by omega), if_pos hg]
  unfold flongref03_Trim.f
  exact key (l.length - m) l.length rfl hle (Nat.le_refl _)
end Go.Proofs.YtmeinakeiefcdaaDoor.Pure

/- The reference: a row made normal. -/
namespace Go.Proofs.YtmeinakeiefcdaaDoor.Pure
open Go.RowKit Go.Proofs.YtmeinakeiefcdaaDoorW.PrintWords Go.Proofs.YtmeinakeiefcdaaDoorW.PrintLast Go.Proofs.YtmeinakeiefcdaaDoorW.PrintMore Go.Proofs.YtmeinakeiefcdaaDoor.X Go.Proofs.YtmeinakeiefcdaaDoor.Hand
set_option linter.unusedSimpArgs false
set_option linter.unusedVariables false
theorem rnormal_ev (l : List Gl) {m : Nat} (hm : IsTrim (clean l) m) (h : l.length ≤ 5000) (h8 : ∀ g ∈ l, 0 ≤ g.f1 ∧ g.f1 ≤ 255) : Ev (fun k => flongref17_Normal.f k l) (normGo none ((clean l).take m)) := by
  have hcl := clean_length l
  unfold flongref17_Normal.f
  refine Ev.bind (rclean_ev l h h8) (Ev.bind (rtrim_ev hm (by omega)) ?_)
  have hlen : ((clean l).take m).length ≤ 1000000 := by rw [List.length_take]; omega
  generalize (clean l).take m = c at hlen
  refine ev_eq (loop_up (fun k o i => flongref17_Normal.l0 k c o i) c.length (fun o i => o ++ normGo (lastS o) (c.drop i)) (fun o i => o.length = i) ?_ ?_ [] 0 (by omega) rfl) (by simp [lastS])
  · intro o ho
    refine Ev.step (f := fun _ => some o) (fun k => by simp only [flongref17_Normal.l0]; rw [if_neg (by omega)]) (ev_eq (Ev.now _) ?_)
    rw [List.drop_length, normGo, List.append_nil]
  · intro o i hi ho ih
    have hnext : ∀ x : Gl, x = ⟨c[i].f0, setOf (lastS o) c[i]⟩ → Ev (fun k => flongref17_Normal.l0 k c (o ++ [x]) ((i + 1 : Nat) : Int)) (o ++ normGo (lastS o) (c.drop i)) := by
      intro x hx
      refine ev_eq (ih (o ++ [x]) (by simp [ho])) ?_
      rw [List.drop_eq_getElem_cons hi, lastS_snoc, normGo, hx, List.append_assoc]
      rfl
    have hj : ∀ b : Bool, (b = true ↔ (o ≠ [] ∧ wid c[i].f0 = 0)) → Ev (fun k => flongref17_Normal.j1 k c o (i : Int) b c[i].f0 c[i].f1) (o ++ normGo (lastS o) (c.drop i)) := by
      intro b hb
      by_cases h32 : c[i].f0 = 32
      · have hn := hnext ⟨c[i].f0, 0⟩ (by simp [setOf, h32])
        refine Ev.step (fun k => ?_) hn
        simp only [flongref17_Normal.j1]
        cases b with
        | false => rw [if_neg (by simp), if_pos h32, if_pos (by omega), wrap_up hi (by omega)]
        | true =>
          have ho0 : o ≠ [] := (hb.1 rfl).1
          have := List.length_pos_iff.2 ho0
          rw [if_pos rfl, wrap_of (by omega) (by omega), if_pos (by omega), if_pos (by omega), if_pos h32, if_pos (by omega), wrap_up hi (by omega)]
      · cases b with
        | false =>
          have hz : ¬ (o ≠ [] ∧ wid c[i].f0 = 0) := fun e => by simpa using hb.2 e
          have hn := hnext ⟨c[i].f0, c[i].f1⟩ (by
            rcases List.eq_nil_or_concat o with e | ⟨o', y, e⟩
            · simp [setOf, h32, e, lastS]
            · have hne : o ≠ [] := by rw [e]; simp
              have hw : ¬ wid c[i].f0 = 0 := fun e2 => hz ⟨hne, e2⟩
              rw [List.concat_eq_append] at e
              simp [setOf, h32, e, lastS_snoc, hw])
          refine Ev.step (fun k => ?_) hn
          simp only [flongref17_Normal.j1]
          rw [if_neg (by simp), if_neg h32, if_pos (by omega), wrap_up hi (by omega)]
        | true =>
          obtain ⟨ho0, hw⟩ := hb.1 rfl
          rcases List.eq_nil_or_concat o with e | ⟨o', y, e⟩
          · exact absurd e ho0
          · rw [List.concat_eq_append] at e
            have hol : o.length = o'.length + 1 := by rw [e]; simp
            have hy : rd_T35 o ((i - 1 : Nat) : Int) = y := by
              rw [rdG _ _ (by omega)]
              have : i - 1 = o'.length := by omega
              simp [e, this]
            have hn := hnext ⟨c[i].f0, y.f1⟩ (by rw [e]; simp [setOf, h32, lastS_snoc, hw])
            refine Ev.step (fun k => ?_) hn
            simp only [flongref17_Normal.j1]
            rw [if_pos trivial, wrap_of (by omega) (by omega), show (i : Int) - 1 = ((i - 1 : Nat) : Int) by omega, if_pos (by omega), if_pos (by omega), if_neg h32, if_pos (by omega), hy, wrap_up hi (by omega)]
    by_cases h0 : 0 < i
    · have hne : o ≠ [] := by intro e; rw [e] at ho; simp at ho; omega
      refine Ev.step (f := fun k => (flongref02_Width.f k c[i].f0).bind fun t => flongref17_Normal.j1 k c o (i : Int) (t == 0) c[i].f0 c[i].f1) (fun k => ?_) (Ev.bind (rwidth_ev _) (hj _ (by simp [hne])))
      simp only [flongref17_Normal.l0]
      rw [if_pos (by omega), if_pos (by omega), if_pos (by omega), rdG c i hi]
    · have he : o = [] := List.eq_nil_of_length_eq_zero (by omega)
      refine Ev.step (f := fun k => flongref17_Normal.j1 k c o (i : Int) false c[i].f0 c[i].f1) (fun k => ?_) (hj false (by simp [he]))
      simp only [flongref17_Normal.l0]
      rw [if_pos (by omega), if_pos (by omega), if_neg (by omega), rdG c i hi]
end Go.Proofs.YtmeinakeiefcdaaDoor.Pure

/- Two rows, one behind the other. -/
namespace Go.Proofs.YtmeinakeiefcdaaDoor.Pure
open Go.RowKit Go.Proofs.YtmeinakeiefcdaaDoorW.PrintWords Go.Proofs.YtmeinakeiefcdaaDoorW.PrintLast Go.Proofs.YtmeinakeiefcdaaDoorW.PrintMore Go.Proofs.YtmeinakeiefcdaaDoor.X Go.Proofs.YtmeinakeiefcdaaDoor.Hand
theorem join_eq {a b : List Gl} (h : a.length + b.length < 17592186044416) : flongref03_Join.f a b = some (a ++ b) := by
  unfold flongref03_Join.f
  rw [if_pos (by simp; omega), Option.bind_some, if_pos (by simp; omega), List.nil_append]
end Go.Proofs.YtmeinakeiefcdaaDoor.Pure

/- The reference's rows of lines, and their bytes. -/
namespace Go.Proofs.YtmeinakeiefcdaaDoor.Pure
open Go Go.RowKit Go.Proofs.YtmeinakeiefcdaaDoorW.PrintWords Go.Proofs.YtmeinakeiefcdaaDoorW.PrintLast Go.Proofs.YtmeinakeiefcdaaDoorW.PrintMore Go.Proofs.YtmeinakeiefcdaaDoor.X Go.Proofs.YtmeinakeiefcdaaDoor.Hand
set_option linter.unusedSimpArgs false
set_option linter.unusedVariables false
theorem rblank_ev (a : Int) : Ev (fun k => flongref03_Blank.f k a) (List.replicate (max 0 (min a 65535)).toNat sp) := by
  unfold flongref03_Blank.f
  refine loop_up (fun k o i => flongref03_Blank.l0 k a o i) (max 0 (min a 65535)).toNat (fun _ _ => List.replicate (max 0 (min a 65535)).toNat sp) (fun o i => o = List.replicate i sp) ?_ ?_ [] 0 (by omega) rfl
  · rintro o rfl
    refine Ev.step (f := fun _ => some _) (fun k => ?_) (Ev.now _)
    simp only [flongref03_Blank.l0]
    by_cases h : ((max 0 (min a 65535)).toNat : Int) < a
    · rw [if_pos h, if_neg (by omega)]
    · rw [if_neg h]
  · rintro o i hi rfl ih
    refine Ev.step (f := fun k => flongref03_Blank.l0 k a (List.replicate i sp ++ [sp]) ((i + 1 : Nat) : Int)) (fun k => ?_) (ih _ (by rw [List.replicate_succ']))
    simp only [flongref03_Blank.l0]
    rw [if_pos (by omega), if_pos (by omega), if_pos (by rw [List.length_replicate]; omega), wrap_up hi (by omega)]
    rfl
theorem rflat_ev {x : Ln} (h : x.f1.length ≤ 1000000) : Ev (fun k => flongref16_Flat.f k x.f0 x.f1 x.f2) (flat x) := by
  unfold flongref16_Flat.f flat
  by_cases h0 : x.f1.length = 0
  · rw [if_pos h0]
    exact ev_pos (by omega) (Ev.now _)
  · rw [if_neg h0]
    exact ev_neg (by omega) (Ev.bind (rblank_ev _) (ev_bind1 (join_eq (by rw [List.length_replicate]; omega)) (Ev.now _)))
theorem rrows_ev {l : List Ln} (hl : l.length ≤ 1000) (h : ∀ x ∈ l, Small x) : Ev (fun k => flongref17_Rows.f k l) (prows l) := by
  unfold flongref17_Rows.f
  refine ev_eq (loop_up (fun k o i => flongref17_Rows.l0 k l o i) l.length (fun o i => o ++ prows (l.drop i)) (fun o i => o.length ≤ i) ?_ ?_ [] 0 (by omega) (by simp)) (by simp)
  · intro o _
    exact Ev.step (f := fun _ => some o) (fun k => by simp only [flongref17_Rows.l0]; rw [if_neg (by omega)]) (ev_eq (Ev.now _) (by simp [prows]))
  · intro o i hi ho ih
    have hs := h l[i] (List.getElem_mem hi)
    have hf := flat_length hs
    refine Ev.step (f := fun k => (flongref16_Flat.f k l[i].f0 l[i].f1 l[i].f2).bind fun u => (flongref17_Normal.f k u).bind fun t => if o.length < 5864062014805 then flongref17_Rows.l0 k l (o ++ [t]) ((i + 1 : Nat) : Int) else none) (fun k => ?_) ?_
    · simp only [flongref17_Rows.l0]
      rw [if_pos (by omega), if_pos (by omega), rdN l i hi, wrap_up hi (by omega)]
    · refine Ev.bind (rflat_ev (by have := hs.2.1; omega)) (Ev.bind (rnormal_ev _ (exists_trim (clean (flat l[i]))).choose_spec (by omega) (flat_set hs)) (ev_pos (by omega) (ev_eq (ih _ (by simp; omega)) ?_)))
      rw [prows_drop l i hi, List.append_assoc]
      rfl
end Go.Proofs.YtmeinakeiefcdaaDoor.Pure

/- The reference's bytes of one rune. -/
namespace Go.Proofs.YtmeinakeiefcdaaDoor.Pure
open Go.RowKit Go.Proofs.YtmeinakeiefcdaaDoorW.PrintWords Go.Proofs.YtmeinakeiefcdaaDoorW.PrintLast Go.Proofs.YtmeinakeiefcdaaDoorW.PrintMore Go.Proofs.YtmeinakeiefcdaaDoor.X Go.Proofs.YtmeinakeiefcdaaDoor.Hand
set_option linter.unusedSimpArgs false
set_option linter.unusedVariables false

theorem rone_j {x : Int} (h : validB x = true) : Ev (fun k => flongref02_One.j0 k x) (enc x) := by
  have h' := (validB_iff x).1 h
  have t64 : Int.tdiv x 64 = x / 64 := Int.tdiv_eq_ediv_of_nonneg (by omega)
  have t4096 : Int.tdiv x 4096 = x / 4096 := Int.tdiv_eq_ediv_of_nonneg (by omega)
  have t26 : Int.tdiv x 262144 = x / 262144 := Int.tdiv_eq_ediv_of_nonneg (by omega)
  have m : ∀ y : Int, 0 ≤ y → Int.tmod y 64 = y % 64 := fun y hy => Int.tmod_eq_emod_of_nonneg hy
  refine Ev.step (f := fun _ => some (enc x)) (fun k => ?_) (Ev.now _)
  simp only [flongref02_One.j0, enc, t64, t4096, t26]
  rw [wrap_of (x := x / 64) (by omega) (by omega), wrap_of (x := x / 4096) (by omega) (by omega), wrap_of (x := x / 262144) (by omega) (by omega), m x (by omega), m (x / 64) (by omega), m (x / 4096) (by omega),
    wrap_of (x := 192 + x / 64) (by omega) (by omega), wrap_of (x := 224 + x / 4096) (by omega) (by omega), wrap_of (x := 240 + x / 262144) (by omega) (by omega), wrap_of (x := 128 + x % 64) (by omega) (by omega), wrap_of (x := 128 + x / 64 % 64) (by omega) (by omega), wrap_of (x := 128 + x / 4096 % 64) (by omega) (by omega)]
  split
  · rw [show x % 256 = x from by omega]
  · split
    · rw [show (192 + x / 64) % 256 = 192 + x / 64 from by omega, show (128 + x % 64) % 256 = 128 + x % 64 from by omega]
    · split
      · rw [show (224 + x / 4096) % 256 = 224 + x / 4096 from by omega, show (128 + x % 64) % 256 = 128 + x % 64 from by omega, show (128 + x / 64 % 64) % 256 = 128 + x / 64 % 64 from by omega]
      · rw [show (240 + x / 262144) % 256 = 240 + x / 262144 from by omega, show (128 + x % 64) % 256 = 128 + x % 64 from by omega, show (128 + x / 64 % 64) % 256 = 128 + x / 64 % 64 from by omega, show (128 + x / 4096 % 64) % 256 = 128 + x / 4096 % 64 from by omega]
theorem rone_ev (r : Int) : Ev (fun k => flongref02_One.f k r) (one r) := by
  unfold flongref02_One.f
  refine ev_bind1 (rvalid_eq r) (ev_ite (fun h => ?_) (fun h => ?_))
  · have h' := (validB_iff r).1 h
    rw [wrap_of (by omega) (by omega)]
    exact ev_eq (rone_j h) (by simp [one, h])
  · exact ev_eq (rone_j valid_odd) (by simp [one, h])
end Go.Proofs.YtmeinakeiefcdaaDoor.Pure

/- The reference's rows of glyphs: what text; rows of rows the same. -/
namespace Go.Proofs.YtmeinakeiefcdaaDoor.Pure
open Go.RowKit Go.Proofs.YtmeinakeiefcdaaDoorW.PrintWords Go.Proofs.YtmeinakeiefcdaaDoorW.PrintLast Go.Proofs.YtmeinakeiefcdaaDoorW.PrintMore Go.Proofs.YtmeinakeiefcdaaDoor.X Go.Proofs.YtmeinakeiefcdaaDoor.Hand
set_option linter.unusedSimpArgs false
set_option linter.unusedVariables false
theorem one_len4 (r : Int) : (one r).length ≤ 4 := by
  have := encode_length [r]
  rw [encode_cons, encode_nil, List.append_nil] at this
  simpa using this
theorem rgtext_ev (l : List Gl) (h : l.length ≤ 5000) : Ev (fun k => flongref03_Text.f k l) (strOfNums (encode (runesOf l))) := by
  unfold flongref03_Text.f
  refine ev_eq (loop_up (fun k o i => flongref03_Text.l0 k l o i) l.length (fun o i => strOfNums (o ++ encode (runesOf (l.drop i)))) (fun o i => o.length ≤ 4 * i) ?_ ?_ [] 0 (by omega) (by simp)) (by simp)
  · intro o _
    exact Ev.step (f := fun _ => some (strOfNums o)) (fun k => by simp only [flongref03_Text.l0]; rw [if_neg (by omega)]) (ev_eq (Ev.now _) (by rw [List.drop_length, runesOf_nil, encode_nil, List.append_nil]))
  · intro o i hi ho ih
    have hl := one_len4 l[i].f0
    refine Ev.step (f := fun k => (flongref02_One.f k l[i].f0).bind fun t => if o.length + t.length < 140737488355328 then flongref03_Text.l0 k l (o ++ t) ((i + 1 : Nat) : Int) else none) (fun k => ?_) ?_
    · simp only [flongref03_Text.l0]
      rw [if_pos (by omega), if_pos (by omega), rdG l i hi, wrap_up hi (by omega)]
    · refine Ev.bind (rone_ev _) (ev_pos (by omega) (ev_eq (ih (o ++ one l[i].f0) (by rw [List.length_append]; omega)) ?_))
      rw [List.drop_eq_getElem_cons hi, runesOf_cons, encode_cons, List.append_assoc]
end Go.Proofs.YtmeinakeiefcdaaDoor.Pure

/- The reference's bytes of lines. -/
namespace Go.Proofs.YtmeinakeiefcdaaDoor.Pure
open Go Go.RowKit Go.Proofs.YtmeinakeiefcdaaDoorW.PrintWords Go.Proofs.YtmeinakeiefcdaaDoorW.PrintLast Go.Proofs.YtmeinakeiefcdaaDoorW.PrintMore Go.Proofs.YtmeinakeiefcdaaDoor.X Go.Proofs.YtmeinakeiefcdaaDoor.Hand
set_option linter.unusedSimpArgs false
set_option linter.unusedVariables false
theorem rwrite_ev {l : List Ln} (hl : l.length ≤ 1000) (h : ∀ x ∈ l, Small x) : Ev (fun k => flongref17_Write.f k l) (rowBytes (prows l)) := by
  unfold flongref17_Write.f
  refine Ev.bind (rrows_ev hl h) ?_
  have hn := prows_length l
  have hsm := prows_small h
  revert hn hsm
  generalize prows l = rs
  intro hn hsm
  have hB : Bytes ([] : List Int) := by intro x hx; simp at hx
  refine ev_eq (loop_up (σ := List Int) (fun k o i => flongref17_Write.l0 k rs (strOfNums o) i) rs.length (fun o i => o ++ rowBytes (rs.drop i)) (fun o i => o.length ≤ 12001 * i ∧ Bytes o) ?_ ?_ [] 0 (by omega) ⟨by simp, hB⟩) (by simp)
  · intro o ho
    refine Ev.step (f := fun _ => some o) (fun k => ?_) (ev_eq (Ev.now _) (by simp [rowBytes]))
    simp only [flongref17_Write.l0]
    rw [if_neg (by omega)]
    unfold conv_bytes.f
    rw [if_pos (by rw [numsStr_size]; omega), numsStr_back ho.2]
    rfl
  · intro o i hi ho ih
    have hr := hsm rs[i] (List.getElem_mem hi)
    have he := encode_length (runesOf rs[i])
    rw [runesOf_length] at he
    refine Ev.step (f := fun k => (flongref03_Text.f k rs[i]).bind fun t => if (strOfNums o).size + t.size ≤ 9223372036854775807 then (if (strOfNums o ++ t).size + 1 ≤ 9223372036854775807 then flongref17_Write.l0 k rs ((strOfNums o ++ t) ++ (⟨#[10]⟩ : ByteArray)) ((i + 1 : Nat) : Int) else none) else none) (fun k => ?_) ?_
    · simp only [flongref17_Write.l0]
      rw [if_pos (by omega), if_pos (by omega), rdL rs i hi, wrap_up hi (by omega)]
    · have e : (strOfNums o ++ strOfNums (encode (runesOf rs[i]))) ++ (⟨#[10]⟩ : ByteArray) = strOfNums (o ++ lineBytes rs[i]) := by
        unfold lineBytes
        rw [numsStr_append, numsStr_append, ByteArray.append_assoc]
        rfl
      refine Ev.bind (rgtext_ev _ (by omega)) (ev_pos (by rw [numsStr_size, numsStr_size]; omega) (ev_pos (by rw [← numsStr_append, numsStr_size, List.length_append]; omega) ?_))
      rw [e]
      have hlb := lineBytes_length rs[i]
      refine ev_eq (ih _ ⟨by rw [List.length_append]; omega, bytes_append ho.2 (lineBytes_Bytes _)⟩) ?_
      rw [rowBytes_drop rs i hi, List.append_assoc]
end Go.Proofs.YtmeinakeiefcdaaDoor.Pure

/- Whether two rows of glyphs are the same. -/

namespace Go.Proofs.YtmeinakeiefcdaaDoor.Pure
open Go.RowKit Go.Proofs.YtmeinakeiefcdaaDoorW.PrintWords Go.Proofs.YtmeinakeiefcdaaDoorW.PrintLast Go.Proofs.YtmeinakeiefcdaaDoorW.PrintMore Go.Proofs.YtmeinakeiefcdaaDoor.X
set_option linter.unusedSimpArgs false
set_option linter.unusedVariables false
end Go.Proofs.YtmeinakeiefcdaaDoor.Pure

/- Rows of rows of glyphs: the same. -/

namespace Go.Proofs.YtmeinakeiefcdaaDoor.Pure
open Go.RowKit Go.Proofs.YtmeinakeiefcdaaDoorW.PrintWords Go.Proofs.YtmeinakeiefcdaaDoorW.PrintLast Go.Proofs.YtmeinakeiefcdaaDoorW.PrintMore Go.Proofs.YtmeinakeiefcdaaDoor.X
set_option linter.unusedSimpArgs false
set_option linter.unusedVariables false
end Go.Proofs.YtmeinakeiefcdaaDoor.Pure

/- What the chapter's examples fix: computed. -/
namespace Go.Proofs.YtmeinakeiefcdaaDoor.Pure
open Go.RowKit Go.Proofs.YtmeinakeiefcdaaDoorW.PrintWords Go.Proofs.YtmeinakeiefcdaaDoorW.PrintLast Go.Proofs.YtmeinakeiefcdaaDoor.X
theorem known_ev : Ev (fun k => flonglaw18_known.f k) true := Ev.of (k := 30) flonglaw18_known.mono (by kernel_rfl)
end Go.Proofs.YtmeinakeiefcdaaDoor.Pure
