/- SpecQ: several of this session's texts in one. -/
import Derived.Test.YtmeinakeiefcdaaDoorWMore
import Derived.Test.YtmeinakeiefcdaaDoorX0
import Derived.Test.YtmeinakeiefcdaaDoorHandA
import Derived.Test.YtmeinakeiefcdaaDoorX1
import Derived.Test.YtmeinakeiefcdaaDoorX2
import Derived.Laws.BitsLemmas
import Derived.Test.YtmeinakeiefcdaaDoorHandO
import Derived.Test.YtmeinakeiefcdaaDoorX3
import Derived.Test.YtmeinakeiefcdaaDoorHandR
import Derived.Test.YtmeinakeiefcdaaDoorX4
/- Plain lemmas on printed functions: what holds from some number of rounds on. -/
namespace Go.Proofs.YtmeinakeiefcdaaDoor.Pure
open Go.RowKit Go.Proofs.YtmeinakeiefcdaaDoorW.PrintWords Go.Proofs.YtmeinakeiefcdaaDoorW.PrintLast

theorem ev_pos {α : Type} {c : Prop} [Decidable c] {f g : Nat → Option α} {r : α} (h : c) (k : Ev f r) : Ev (fun n => if c then f n else g n) r := by
  obtain ⟨K, k⟩ := k
  exact ⟨K, fun n hn => by simp only [if_pos h]; exact k n hn⟩
theorem ev_neg {α : Type} {c : Prop} [Decidable c] {f g : Nat → Option α} {r : α} (h : ¬ c) (k : Ev g r) : Ev (fun n => if c then f n else g n) r := by
  obtain ⟨K, k⟩ := k
  exact ⟨K, fun n hn => by simp only [if_neg h]; exact k n hn⟩
theorem ev_ite {α : Type} {c : Prop} [Decidable c] {f g : Nat → Option α} {r : α} (h : c → Ev f r) (k : ¬ c → Ev g r) : Ev (fun n => if c then f n else g n) r := by
  by_cases hc : c
  · exact ev_pos hc (h hc)
  · exact ev_neg hc (k hc)
theorem ev_eq {α : Type} {g : Nat → Option α} {r r' : α} (h : Ev g r) (e : r = r') : Ev g r' := e ▸ h
/-- What answers at once. -/
theorem ev_bind1 {α β : Type} {g : Option α} {f : Nat → α → Option β} {a : α} {r : β} (h : g = some a) (k : Ev (fun n => f n a) r) : Ev (fun n => g.bind (f n)) r := by
  subst h
  exact k
theorem ev_one {α : Type} {g : Option α} {r : α} (h : g = some r) : Ev (fun _ => g) r := ⟨0, fun _ _ => h⟩
theorem ev_unique {α : Type} {g : Nat → Option α} {r r' : α} (h : Ev g r) (h' : Ev g r') : r = r' := by
  obtain ⟨K, h⟩ := h
  obtain ⟨K', h'⟩ := h'
  have h1 := h (max K K') (Nat.le_max_left _ _)
  have h2 := h' (max K K') (Nat.le_max_right _ _)
  exact Option.some.inj (h1.symm.trans h2)
theorem wrap_of {x : Int} (h0 : -9223372036854775808 ≤ x) (h1 : x ≤ 9223372036854775807) : wrap64 x = x := by
  unfold wrap64
  omega
theorem wrap32_of {x : Int} (h0 : -2147483648 ≤ x) (h1 : x ≤ 2147483647) : wrap32 x = x := by
  unfold wrap32
  omega
theorem wf_i32 {x : Int} (h : (Lit.int .i32 x).wf = true) : -2147483648 ≤ x ∧ x ≤ 2147483647 := by
  have h' : (decide (IntKind.min .i32 ≤ x) && decide (x ≤ IntKind.max .i32)) = true := h
  rw [Bool.and_eq_true, decide_eq_true_eq, decide_eq_true_eq, show IntKind.min .i32 = -2147483648 from rfl, show IntKind.max .i32 = 2147483647 from rfl] at h'
  exact h'
theorem wf_u8 {x : Int} (h : (Lit.int .u8 x).wf = true) : 0 ≤ x ∧ x ≤ 255 := by
  have h' : (decide (IntKind.min .u8 ≤ x) && decide (x ≤ IntKind.max .u8)) = true := h
  rw [Bool.and_eq_true, decide_eq_true_eq, decide_eq_true_eq, show IntKind.min .u8 = 0 from rfl, show IntKind.max .u8 = 255 from rfl] at h'
  exact h'
theorem wf_u16 {x : Int} (h : (Lit.int .u16 x).wf = true) : 0 ≤ x ∧ x ≤ 65535 := by
  have h' : (decide (IntKind.min .u16 ≤ x) && decide (x ≤ IntKind.max .u16)) = true := h
  rw [Bool.and_eq_true, decide_eq_true_eq, decide_eq_true_eq, show IntKind.min .u16 = 0 from rfl, show IntKind.max .u16 = 65535 from rfl] at h'
  exact h'
theorem wf_i64 {x : Int} (h : (Lit.int .i64 x).wf = true) : -9223372036854775808 ≤ x ∧ x ≤ 9223372036854775807 := by
  have h' : (decide (IntKind.min .i64 ≤ x) && decide (x ≤ IntKind.max .i64)) = true := h
  rw [Bool.and_eq_true, decide_eq_true_eq, decide_eq_true_eq, show IntKind.min .i64 = -9223372036854775808 from rfl, show IntKind.max .i64 = 9223372036854775807 from rfl] at h'
  exact h'
end Go.Proofs.YtmeinakeiefcdaaDoor.Pure

/- A loop that goes up to a length, whatever its state. -/
namespace Go.Proofs.YtmeinakeiefcdaaDoor.Pure
open Go.RowKit Go.Proofs.YtmeinakeiefcdaaDoorW.PrintWords Go.Proofs.YtmeinakeiefcdaaDoorW.PrintLast

theorem loop_up {σ β : Type} (L : Nat → σ → Int → Option β) (n : Nat) (res : σ → Nat → β) (I : σ → Nat → Prop)
    (hend : ∀ s, I s n → Ev (fun k => L k s (n : Int)) (res s n))
    (hstep : ∀ s i, i < n → I s i → (∀ s', I s' (i + 1) → Ev (fun k => L k s' ((i + 1 : Nat) : Int)) (res s' (i + 1))) → Ev (fun k => L k s (i : Int)) (res s i)) :
    ∀ s i, i ≤ n → I s i → Ev (fun k => L k s (i : Int)) (res s i) := by
  have h : ∀ d i, n - i = d → i ≤ n → ∀ s, I s i → Ev (fun k => L k s (i : Int)) (res s i) := by
    intro d
    induction d with
    | zero =>
      intro i hd hi s hs
      obtain rfl : i = n := by omega
      exact hend s hs
    | succ d ih =>
      intro i hd hi s hs
      exact hstep s i (by omega) hs (fun s' hs' => ih (i + 1) (by omega) (by omega) s' hs')
  exact fun s i hi hs => h (n - i) i rfl hi s hs
theorem wrap_up {i n : Nat} (h : i < n) (hn : n ≤ 9223372036854775807) : wrap64 ((i : Int) + 1) = ((i + 1 : Nat) : Int) := by
  rw [wrap_of (by omega) (by omega)]
  omega
end Go.Proofs.YtmeinakeiefcdaaDoor.Pure

/- Rows of glyphs, plainly. -/
namespace Go.Proofs.YtmeinakeiefcdaaDoor.Pure
open Go.RowKit Go.Proofs.YtmeinakeiefcdaaDoorW.PrintWords Go.Proofs.YtmeinakeiefcdaaDoorW.PrintLast Go.Proofs.YtmeinakeiefcdaaDoorW.PrintMore Go.Proofs.YtmeinakeiefcdaaDoor.X

abbrev Gl := S35
theorem rdG (l : List Gl) (i : Nat) (h : i < l.length) : rd_T35 l (i : Int) = l[i] := by
  simp [rd_T35, List.getD_eq_getElem?_getD, List.getElem?_eq_getElem h]
theorem gl_ext {a b : Gl} (h0 : a.f0 = b.f0) (h1 : a.f1 = b.f1) : a = b := by
  cases a
  cases b
  simp_all
instance : DecidableEq Gl := fun a b => if h : a.f0 = b.f0 ∧ a.f1 = b.f1 then .isTrue (gl_ext h.1 h.2) else .isFalse (fun e => h (by rw [e]; exact ⟨rfl, rfl⟩))
theorem gl_ne (a b : Gl) : ((!((a.f0) == (b.f0)) || (!((a.f1) == (b.f1)))) = true) ↔ a ≠ b := by
  constructor
  · intro h e
    subst e
    simp at h
  · intro h
    by_cases h0 : a.f0 = b.f0
    · have h1 : a.f1 ≠ b.f1 := fun h1 => h (gl_ext h0 h1)
      simp [h1]
    · simp [h0]
theorem drop_ne {a b : List Gl} {i : Nat} (ha : i < a.length) (hb : i < b.length) : a.drop i = b.drop i ↔ a[i] = b[i] ∧ a.drop (i + 1) = b.drop (i + 1) := by
  rw [List.drop_eq_getElem_cons ha, List.drop_eq_getElem_cons hb, List.cons.injEq]
end Go.Proofs.YtmeinakeiefcdaaDoor.Pure

/- What package runes computes of one rune: its printed functions answer by plain functions. -/
namespace Go.Proofs.YtmeinakeiefcdaaDoor.Pure
open Go.RowKit Go.Proofs.YtmeinakeiefcdaaDoorW.PrintWords Go.Proofs.YtmeinakeiefcdaaDoorW.PrintLast Go.Proofs.YtmeinakeiefcdaaDoorW.PrintMore Go.Proofs.YtmeinakeiefcdaaDoor.X Go.Proofs.YtmeinakeiefcdaaDoor.Hand
set_option linter.unusedSimpArgs false

theorem valid_eq (a : Int) : runes_Valid.f a = some (validB a) := by
  unfold runes_Valid.f
  by_cases h1 : a ≥ 0 <;> by_cases h2 : a ≤ 1114111 <;> by_cases h3 : a < 55296 <;> simp only [h1, h2, h3, if_true, if_false] <;> congr 1 <;> (rw [Bool.eq_iff_iff]; simp [validB]; omega)

theorem validB_iff (a : Int) : validB a = true ↔ 0 ≤ a ∧ a ≤ 1114111 ∧ (a < 55296 ∨ 57343 < a) := by
  simp [validB]
theorem controlB_iff (a : Int) : controlB a = true ↔ (0 ≤ a ∧ a < 32) ∨ (127 ≤ a ∧ a ≤ 159) ∨ a = 8232 ∨ a = 8233 := by
  simp [controlB]

theorem control_ev (a : Int) : Ev (fun k => runes_Control.f k a) (controlB a) := by
  have j1 : ∀ x : Bool, Ev (fun k => runes_Control.j1 k a x) (x || (decide (a = 8232) || decide (a = 8233))) := by
    intro x
    refine Ev.step (f := fun _ => if x = true then some true else if a = 8232 then some true else if a = 8233 then some true else some false) (fun k => by simp only [runes_Control.j1]) ?_
    refine ev_one ?_
    cases x <;> simp
    split <;> simp_all
    split <;> simp_all
  have j0 : ∀ x : Bool, Ev (fun k => runes_Control.j0 k a x) (x || ((decide (127 ≤ a) && decide (a ≤ 159)) || (decide (a = 8232) || decide (a = 8233)))) := by
    intro x
    refine Ev.step (f := fun k => if x = true then runes_Control.j1 k a x else if a ≥ 127 then runes_Control.j1 k a (decide (a ≤ 159)) else runes_Control.j1 k a false) (fun k => by simp only [runes_Control.j0]) ?_
    refine ev_ite (fun h => ev_eq (j1 _) (by simp [h])) (fun h => ev_ite (fun h2 => ev_eq (j1 _) (by simp_all <;> omega)) (fun h2 => ev_eq (j1 _) (by simp_all <;> omega)))
  unfold runes_Control.f
  exact ev_ite (fun h => ev_eq (j0 _) (by simp_all [controlB] <;> omega)) (fun h => ev_eq (j0 _) (by simp_all [controlB] <;> omega))

/-- What may be written in a rune's place. -/
def safe (a : Int) : Int := if validB a = true ∧ controlB a = false then a else 65533
theorem safe_ev (a : Int) : Ev (fun k => runes_Safe.f k a) (safe a) := by
  unfold runes_Safe.f
  refine ev_bind1 (valid_eq a) ?_
  refine ev_ite (fun h => ?_) (fun h => ev_eq (Ev.now _) (by simp_all [safe]))
  refine Ev.bind (control_ev a) ?_
  refine ev_ite (fun h2 => ev_eq (Ev.now _) (by simp_all [safe])) (fun h2 => ev_eq (Ev.now _) (by simp_all [safe]))

theorem safe_valid (a : Int) : validB (safe a) = true := by
  unfold safe
  split
  · rename_i h
    exact h.1
  · decide +kernel
theorem safe_control (a : Int) : controlB (safe a) = false := by
  unfold safe
  split
  · rename_i h
    exact h.2
  · decide +kernel
theorem safe_safe (a : Int) : safe (safe a) = safe a := by
  have h1 := safe_valid a
  have h2 := safe_control a
  generalize safe a = b at h1 h2
  simp [safe, h1, h2]
theorem wid_range (a : Int) : 0 ≤ wid a ∧ wid a ≤ 2 := by
  unfold wid
  split
  · omega
  · split
    · omega
    · split
      · omega
      · split <;> omega
theorem wid_odd : wid 65533 = 1 := by decide +kernel
theorem safe_other {a : Int} (h : safe a ≠ a) : wid a = 0 ∧ safe a = 65533 := by
  unfold safe at h ⊢
  by_cases hv : validB a = true
  · cases hc : controlB a
    · simp [hv, hc] at h
    · simp [hv, hc, wid]
  · simp [hv, wid]
end Go.Proofs.YtmeinakeiefcdaaDoor.Pure

/- What may be written of a row. -/
namespace Go.Proofs.YtmeinakeiefcdaaDoor.Pure
open Go.RowKit Go.Proofs.YtmeinakeiefcdaaDoorW.PrintWords Go.Proofs.YtmeinakeiefcdaaDoorW.PrintLast Go.Proofs.YtmeinakeiefcdaaDoorW.PrintMore Go.Proofs.YtmeinakeiefcdaaDoor.X Go.Proofs.YtmeinakeiefcdaaDoor.Hand
set_option linter.unusedSimpArgs false
set_option linter.unusedVariables false
/-- One glyph, as it may be written. -/
def cleanG (g : Gl) : Gl := ⟨safe (if g.f0 = 160 then 32 else g.f0), Go.bits .and .u8 g.f1 3⟩
def clean (l : List Gl) : List Gl := (l.map cleanG).dropWhile (fun g => !decide (wid g.f0 > 0))
theorem clean_ev (l : List Gl) (h : l.length < 17592186044416) : Ev (fun k => cells_Clean.f k l) (clean l) := by
  unfold cells_Clean.f
  refine ev_eq (loop_up (fun k o i => cells_Clean.l0 k o l (l.length : Int) i) l.length (fun o i => if o = [] then clean (l.drop i) else o ++ (l.drop i).map cleanG) (fun o i => o.length ≤ i) ?_ ?_ [] 0 (by omega) (by simp)) (by simp)
  · intro o _
    refine Ev.step (f := fun _ => some o) (fun k => by simp only [cells_Clean.l0]; rw [if_neg (by omega)]) (ev_eq (Ev.now _) ?_)
    rw [List.drop_length]
    split
    · rename_i e
      rw [e]
      rfl
    · simp
  · intro o i hi ho ih
    have hj : ∀ x : Int, (if l[i].f0 = 160 then 32 else l[i].f0) = x → Ev (fun k => cells_Clean.j1 k o l (l.length : Int) (i : Int) x l[i].f1) (if o = [] then clean (l.drop i) else o ++ (l.drop i).map cleanG) := by
      intro x hx
      have hg : cleanG l[i] = ⟨safe x, Go.bits .and .u8 l[i].f1 3⟩ := by rw [cleanG, hx]
      refine Ev.step (f := fun k => (runes_Safe.f k x).bind fun t => (if (o.length : Int) > 0 then (cells_Clean.l0 k (o ++ [(⟨t, Go.bits .and .u8 l[i].f1 3⟩ : Gl)]) l (l.length : Int) ((i + 1 : Nat) : Int)) else (if wid t > 0 then (cells_Clean.l0 k (o ++ [(⟨t, Go.bits .and .u8 l[i].f1 3⟩ : Gl)]) l (l.length : Int) ((i + 1 : Nat) : Int)) else (cells_Clean.l0 k o l (l.length : Int) ((i + 1 : Nat) : Int))))) (fun k => ?_) ?_
      · simp only [cells_Clean.j1]
        rw [wrap_up hi (by omega)]
        congr 1
        funext t
        rw [show runes_Width.f t = some (wid t) from rfl, Option.bind_some, if_pos (show o.length < 17592186044416 by omega)]
      · refine Ev.bind (safe_ev x) ?_
        rw [← hg]
        have h1 : Ev (fun k => cells_Clean.l0 k (o ++ [cleanG l[i]]) l (l.length : Int) ((i + 1 : Nat) : Int)) (o ++ cleanG l[i] :: (l.drop (i + 1)).map cleanG) := by
          refine ev_eq (ih (o ++ [cleanG l[i]]) (by simp; omega)) ?_
          rw [if_neg (by simp), List.append_assoc]
          rfl
        refine ev_ite (fun hc => ev_eq h1 ?_) (fun hc => ?_)
        · rw [if_neg (by intro e; rw [e] at hc; simp at hc), List.drop_eq_getElem_cons hi, List.map_cons]
        · obtain rfl : o = [] := by
            rcases o with _ | ⟨_, _⟩
            · rfl
            · exfalso
              apply hc
              simp only [List.length_cons]
              omega
          rw [if_pos rfl]
          have hw : wid (safe x) = wid (cleanG l[i]).f0 := by rw [hg]
          rw [hw]
          refine ev_ite (fun hp => ev_eq h1 ?_) (fun hp => ev_eq (ih [] (by simp)) ?_)
          · rw [List.drop_eq_getElem_cons hi, clean, List.map_cons, List.dropWhile_cons, if_neg (by simp [hp])]
            rfl
          · rw [if_pos rfl, List.drop_eq_getElem_cons hi, clean, clean, List.map_cons, List.dropWhile_cons, if_pos (by simp [hp])]
    refine Ev.step (f := fun k => if l[i].f0 = 160 then cells_Clean.j1 k o l (l.length : Int) (i : Int) 32 l[i].f1 else cells_Clean.j1 k o l (l.length : Int) (i : Int) l[i].f0 l[i].f1) (fun k => ?_) ?_
    · simp only [cells_Clean.l0]
      rw [if_pos (by omega), if_pos (by omega), if_pos (by omega), rdG l i hi]
    · exact ev_ite (fun hc => hj 32 (if_pos hc)) (fun hc => hj _ (if_neg hc))
end Go.Proofs.YtmeinakeiefcdaaDoor.Pure

/- What may be written: plainly. -/
namespace Go.Proofs.YtmeinakeiefcdaaDoor.Pure
open Go.RowKit Go.Proofs.YtmeinakeiefcdaaDoorW.PrintWords Go.Proofs.YtmeinakeiefcdaaDoorW.PrintLast Go.Proofs.YtmeinakeiefcdaaDoorW.PrintMore Go.Proofs.YtmeinakeiefcdaaDoor.X Go.Proofs.YtmeinakeiefcdaaDoor.Hand
set_option linter.unusedSimpArgs false
set_option linter.unusedVariables false
theorem safe_160 {x : Int} (h : x ≠ 160) : safe x ≠ 160 := by
  unfold safe
  split
  · exact h
  · decide
theorem and3 {x : Int} (h : 0 ≤ x ∧ x ≤ 255) : 0 ≤ Go.bits .and .u8 x 3 ∧ Go.bits .and .u8 x 3 ≤ 3 ∧ Go.bits .and .u8 (Go.bits .and .u8 x 3) 3 = Go.bits .and .u8 x 3 := by
  have h1 : ∀ n : Nat, n < 256 → 0 ≤ Go.bits .and .u8 (n : Int) 3 ∧ Go.bits .and .u8 (n : Int) 3 ≤ 3 ∧ Go.bits .and .u8 (Go.bits .and .u8 (n : Int) 3) 3 = Go.bits .and .u8 (n : Int) 3 := by decide +kernel
  obtain ⟨n, rfl⟩ := Int.eq_ofNat_of_zero_le h.1
  exact h1 n (by omega)
/-- Cleaned: what it is. -/
def Cl (g : Gl) : Prop := safe g.f0 = g.f0 ∧ g.f0 ≠ 160 ∧ 0 ≤ g.f1 ∧ g.f1 ≤ 3 ∧ Go.bits .and .u8 g.f1 3 = g.f1
theorem cleanG_Cl (g : Gl) (h : 0 ≤ g.f1 ∧ g.f1 ≤ 255) : Cl (cleanG g) := by
  have h3 := and3 h
  refine ⟨safe_safe _, safe_160 ?_, h3.1, h3.2.1, h3.2.2⟩
  split
  · decide
  · assumption
theorem cleanG_self {g : Gl} (h : Cl g) : cleanG g = g := by
  unfold cleanG
  rw [if_neg h.2.1, h.1, h.2.2.2.2]
theorem map_self {l : List Gl} (h : ∀ g ∈ l, Cl g) : l.map cleanG = l := by
  induction l with
  | nil => rfl
  | cons g l ih => rw [List.map_cons, cleanG_self (h g (by simp)), ih (fun x hx => h x (by simp [hx]))]
theorem clean_Cl (l : List Gl) (h : ∀ g ∈ l, 0 ≤ g.f1 ∧ g.f1 ≤ 255) : ∀ g ∈ clean l, Cl g := by
  intro g hg
  have := (List.dropWhile_sublist _).subset hg
  obtain ⟨x, hx, rfl⟩ := List.mem_map.1 this
  exact cleanG_Cl x (h x hx)
theorem dropWhile_twice {α : Type} (p : α → Bool) : ∀ l : List α, (l.dropWhile p).dropWhile p = l.dropWhile p
  | [] => rfl
  | a :: l => by
    rw [List.dropWhile_cons]
    split
    · exact dropWhile_twice p l
    · rename_i h
      rw [List.dropWhile_cons, if_neg h]
theorem dropWhile_head {α : Type} (p : α → Bool) : ∀ l : List α, ∀ h : 0 < (l.dropWhile p).length, p (l.dropWhile p)[0] = false
  | [], h => by simp at h
  | a :: l, h => by
    by_cases hp : p a = true
    · have e : (a :: l).dropWhile p = l.dropWhile p := by rw [List.dropWhile_cons, if_pos hp]
      simp only [e] at h ⊢
      exact dropWhile_head p l h
    · have e : (a :: l).dropWhile p = a :: l := by rw [List.dropWhile_cons, if_neg hp]
      simp only [e]
      simpa using hp
theorem clean_clean (l : List Gl) (h : ∀ g ∈ l, 0 ≤ g.f1 ∧ g.f1 ≤ 255) : clean (clean l) = clean l := by
  show ((clean l).map cleanG).dropWhile (fun g => !decide (wid g.f0 > 0)) = clean l
  rw [map_self (clean_Cl l h)]
  unfold clean
  exact dropWhile_twice _ _
theorem clean_length (l : List Gl) : (clean l).length ≤ l.length := by
  have := (List.dropWhile_sublist (fun g : Gl => !decide (wid g.f0 > 0)) (l := l.map cleanG)).length_le
  simpa [clean] using this
theorem clean_head (l : List Gl) (h : 0 < (clean l).length) : wid ((clean l)[0]).f0 ≠ 0 := by
  have := dropWhile_head (fun g : Gl => !decide (wid g.f0 > 0)) (l.map cleanG) h
  simp at this
  have h2 : 0 < wid ((clean l)[0]).f0 := this
  omega
end Go.Proofs.YtmeinakeiefcdaaDoor.Pure

/- A row trimmed. -/
namespace Go.Proofs.YtmeinakeiefcdaaDoor.Pure
open Go.RowKit Go.Proofs.YtmeinakeiefcdaaDoorW.PrintWords Go.Proofs.YtmeinakeiefcdaaDoorW.PrintLast Go.Proofs.YtmeinakeiefcdaaDoorW.PrintMore Go.Proofs.YtmeinakeiefcdaaDoor.X Go.Proofs.YtmeinakeiefcdaaDoor.Hand
set_option linter.unusedSimpArgs false
set_option linter.unusedVariables false
theorem clone_eq {l : List Gl} (h : l.length < 17592186044416) : clone_G.f l = some l := by
  unfold clone_G.f
  rw [if_pos h]
/-- So many are left of a row trimmed. -/
structure IsTrim (l : List Gl) (m : Nat) : Prop where
  le : m ≤ l.length
  last : ∀ g : Gl, 0 < m → l[m - 1]? = some g → g.f0 ≠ 32
  rest : ∀ (i : Nat) (g : Gl), m ≤ i → l[i]? = some g → g.f0 = 32
theorem exists_trim (l : List Gl) : ∃ m, IsTrim l m := by
  have h : ∀ n, n ≤ l.length → ∃ m, m ≤ n ∧ (∀ g : Gl, 0 < m → l[m - 1]? = some g → g.f0 ≠ 32) ∧ ∀ (i : Nat) (g : Gl), m ≤ i → i < n → l[i]? = some g → g.f0 = 32 := by
    intro n
    induction n with
    | zero => exact fun _ => ⟨0, Nat.le_refl _, fun g h => absurd h (by omega), fun i g _ h => absurd h (by omega)⟩
    | succ n ih =>
      intro hn
      by_cases hc : (l[n]'(by omega)).f0 = 32
      · obtain ⟨m, h1, h2, h3⟩ := ih (by omega)
        refine ⟨m, by omega, h2, fun i g hi hlt hg => ?_⟩
        by_cases e : i = n
        · subst e
          rw [List.getElem?_eq_getElem (by omega)] at hg
          obtain rfl := Option.some.inj hg
          exact hc
        · exact h3 i g hi (by omega) hg
      · refine ⟨n + 1, Nat.le_refl _, fun g _ hg => ?_, fun i g hi hlt => by omega⟩
        rw [Nat.add_sub_cancel, List.getElem?_eq_getElem (by omega)] at hg
        obtain rfl := Option.some.inj hg
        exact hc
  obtain ⟨m, h1, h2, h3⟩ := h l.length (Nat.le_refl _)
  exact ⟨m, h1, h2, fun i g hi hg => h3 i g hi (List.getElem?_eq_some_iff.1 hg).1 hg⟩
theorem trim_ev {l : List Gl} {m : Nat} (hm : IsTrim l m) (h : l.length < 17592186044416) : Ev (fun k => cells_Trim.f k l) (l.take m) := by
  have hle := hm.le
  have hend : (if 0 ≤ (m : Int) then (if (m : Int) ≤ (l.length : Int) then ((clone_G.f (l.take (m : Int).toNat)).bind fun t286 => (some t286)) else (none)) else (none)) = some (l.take m) := by
    rw [if_pos (by omega), if_pos (by omega), Int.toNat_natCast, clone_eq (by rw [List.length_take]; omega), Option.bind_some]
  have key : ∀ d n, n - m = d → m ≤ n → n ≤ l.length → Ev (fun k => cells_Trim.l0 k l (n : Int)) (l.take m) := by
    intro d
    induction d with
    | zero =>
      intro n hd h1 h2
      obtain rfl : n = m := by omega
      refine Ev.step (f := fun _ => some (l.take n)) (fun k => ?_) (Ev.now _)
      simp only [cells_Trim.l0]
      by_cases hp : 0 < n
      · have hg := hm.last l[n - 1] hp (List.getElem?_eq_getElem (by omega))
        rw [if_pos (by omega), wrap_of (by omega) (by omega), show (n : Int) - 1 = ((n - 1 : Nat) : Int) by omega, if_pos (by omega), if_pos (by omega), rdG l (n - 1) (by omega), if_neg hg, hend]
      · rw [if_neg (by omega), hend]
    | succ d ih =>
      intro n hd h1 h2
      have hg := hm.rest (n - 1) (l[n - 1]'(by omega)) (by omega) (List.getElem?_eq_getElem (by omega))
      refine Ev.step (f := fun k => cells_Trim.l0 k l ((n - 1 : Nat) : Int)) (fun k => ?_) (ih (n - 1) (by omega) (by omega) (by omega))
      simp only [cells_Trim.l0]
      rw [if_pos (by omega), wrap_of (by omega) (by omega), show (n : Int) - 1 = ((n - 1 : Nat) : Int) by omega, if_pos (by omega), if_pos (by omega), rdG l (n - 1) (by omega), if_pos hg]
  unfold cells_Trim.f
  exact key (l.length - m) l.length rfl hle (Nat.le_refl _)
end Go.Proofs.YtmeinakeiefcdaaDoor.Pure

/- A row made normal, and erased: package plain's and the reference's. -/
namespace Go.Proofs.YtmeinakeiefcdaaDoor.Pure
open Go.RowKit Go.Proofs.YtmeinakeiefcdaaDoorW.PrintWords Go.Proofs.YtmeinakeiefcdaaDoorW.PrintLast Go.Proofs.YtmeinakeiefcdaaDoorW.PrintMore Go.Proofs.YtmeinakeiefcdaaDoor.X Go.Proofs.YtmeinakeiefcdaaDoor.Hand
set_option linter.unusedSimpArgs false
set_option linter.unusedVariables false
/-- How a glyph is set, behind one that is set as p (none: first). -/
def setOf (p : Option Int) (g : Gl) : Int := if g.f0 = 32 then 0 else match p with | some s => if wid g.f0 = 0 then s else g.f1 | none => g.f1
def normGo : Option Int → List Gl → List Gl
  | _, [] => []
  | p, g :: t => ⟨g.f0, setOf p g⟩ :: normGo (some (setOf p g)) t
def erase (l : List Gl) : List Gl := l.map (fun g => ⟨g.f0, 0⟩)
/-- How the last is set. -/
def lastS (o : List Gl) : Option Int := o.getLast?.map (·.f1)
theorem lastS_snoc (o : List Gl) (g : Gl) : lastS (o ++ [g]) = some g.f1 := by simp [lastS]
theorem normGo_length : ∀ (l : List Gl) (p : Option Int), (normGo p l).length = l.length
  | [], _ => rfl
  | g :: t, p => by rw [normGo, List.length_cons, normGo_length t, List.length_cons]
theorem normGo_runes : ∀ (l : List Gl) (p : Option Int), (normGo p l).map (·.f0) = l.map (·.f0)
  | [], _ => rfl
  | g :: t, p => by rw [normGo, List.map_cons, normGo_runes t, List.map_cons]
theorem erase_runes (l : List Gl) : (erase l).map (·.f0) = l.map (·.f0) := by
  unfold erase
  rw [List.map_map]
  rfl
theorem set_mid (o : List Gl) (g x : Gl) (t : List Gl) : (o ++ g :: t).set o.length x = (o ++ [x]) ++ t := by
  rw [List.set_append_right _ _ (Nat.le_refl _), Nat.sub_self, List.set_cons_zero, List.append_assoc]
  rfl
theorem rd_mid (o : List Gl) (g : Gl) (t : List Gl) : rd_T35 (o ++ g :: t) (o.length : Int) = g := by
  rw [rdG _ _ (by rw [List.length_append, List.length_cons]; omega)]
  simp
theorem rd_before (o : List Gl) (y g : Gl) (t : List Gl) : rd_T35 ((o ++ [y]) ++ g :: t) (((o ++ [y]).length - 1 : Nat) : Int) = y := by
  have e : (o ++ [y]).length - 1 = o.length := by simp
  rw [e, rdG _ _ (by rw [List.length_append, List.length_append, List.length_singleton, List.length_cons]; omega)]
  simp
theorem normal_ev (l : List Gl) {m : Nat} (hm : IsTrim (clean l) m) (h : l.length ≤ 1000000) : Ev (fun k => plain_Normal.f k l) (normGo none ((clean l).take m)) := by
  have hcl := clean_length l
  unfold plain_Normal.f
  refine Ev.bind (clean_ev l (by omega)) (Ev.bind (trim_ev hm (by omega)) ?_)
  have hlen : ((clean l).take m).length ≤ 1000000 := by rw [List.length_take]; omega
  generalize (clean l).take m = c at hlen
  refine ev_eq (loop_up (fun k o i => plain_Normal.l0 k (o ++ c.drop o.length) (c.length : Int) i) c.length (fun o i => o ++ normGo (lastS o) (c.drop i)) (fun o i => o.length = i) ?_ ?_ [] 0 (by omega) rfl) (by simp [lastS])
  · intro o ho
    refine Ev.step (f := fun _ => some (o ++ c.drop o.length)) (fun k => by simp only [plain_Normal.l0]; rw [if_neg (by omega)]) (ev_eq (Ev.now _) ?_)
    rw [ho, List.drop_length, normGo]
  · intro o i hi ho ih
    subst ho
    obtain ⟨g, t, hgt⟩ : ∃ g t, c.drop o.length = g :: t := ⟨c[o.length], c.drop (o.length + 1), List.drop_eq_getElem_cons hi⟩
    have ht : c.drop (o.length + 1) = t := by
      have := List.drop_eq_getElem_cons hi
      rw [hgt] at this
      injection this with _ h2
      exact h2.symm
    have hxl : (o ++ g :: t).length = c.length := by
      have := congrArg List.length hgt
      rw [List.length_drop] at this
      rw [List.length_append, ← this]
      omega
    have hnext : ∀ x : Gl, x = ⟨g.f0, setOf (lastS o) g⟩ → Ev (fun k => plain_Normal.l0 k ((o ++ [x]) ++ t) (c.length : Int) ((o.length + 1 : Nat) : Int)) (o ++ normGo (lastS o) (g :: t)) := by
      intro x hx
      have h1 := ih (o ++ [x]) (by simp)
      rw [show (o ++ [x]).length = o.length + 1 by simp, ht] at h1
      refine ev_eq h1 ?_
      rw [lastS_snoc, normGo, hx, List.append_assoc]
      rfl
    have hsame : ∀ x : Gl, x = g → (o ++ [x]) ++ t = o ++ g :: t := by
      intro x hx
      rw [hx, List.append_assoc]
      rfl
    rw [hgt]
    by_cases h32 : g.f0 = 32
    · refine Ev.step (f := fun k => plain_Normal.l0 k ((o ++ [⟨g.f0, 0⟩]) ++ t) (c.length : Int) ((o.length + 1 : Nat) : Int)) (fun k => ?_) (hnext ⟨g.f0, 0⟩ (by simp [setOf, h32]))
      simp only [plain_Normal.l0]
      rw [if_pos (by omega), if_pos (by omega), if_pos (by omega), rd_mid, if_pos h32, Int.toNat_natCast, set_mid, wrap_up hi (by omega)]
    · rcases List.eq_nil_or_concat o with ho | ⟨o', y, ho⟩
      · have hn := hnext g (gl_ext rfl (by simp [setOf, h32, ho, lastS]))
        rw [hsame g rfl] at hn
        refine Ev.step (f := fun k => plain_Normal.l0 k (o ++ g :: t) (c.length : Int) ((o.length + 1 : Nat) : Int)) (fun k => ?_) hn
        have h0 : o.length = 0 := by rw [ho]; rfl
        simp only [plain_Normal.l0]
        rw [if_pos (by omega), if_pos (by omega), if_pos (by omega), rd_mid, if_neg h32, if_neg (by omega), wrap_up hi (by omega)]
      · rw [List.concat_eq_append] at ho
        have hol : o.length = o'.length + 1 := by rw [ho]; simp
        have hls : lastS o = some y.f1 := by rw [ho, lastS_snoc]
        have hprev : rd_T35 (o ++ g :: t) ((o.length - 1 : Nat) : Int) = y := by
          rw [ho]
          exact rd_before o' y g t
        by_cases hz : wid g.f0 = 0
        · refine Ev.step (fun k => ?_) (hnext ⟨g.f0, y.f1⟩ (by simp [setOf, h32, hls, hz]))
          simp only [plain_Normal.l0]
          rw [if_pos (by omega), if_pos (by omega), if_pos (by omega), rd_mid, if_neg h32, if_pos (by omega), show runes_Width.f g.f0 = some (wid g.f0) from rfl, Option.bind_some, if_pos hz, wrap_of (x := (o.length : Int) - 1) (by omega) (by omega), show (o.length : Int) - 1 = ((o.length - 1 : Nat) : Int) by omega, if_pos (by omega), if_pos (by omega), hprev, Int.toNat_natCast, set_mid, wrap_up hi (by omega)]
        · have hn := hnext g (gl_ext rfl (by simp [setOf, h32, hls, hz]))
          rw [hsame g rfl] at hn
          refine Ev.step (fun k => ?_) hn
          simp only [plain_Normal.l0]
          rw [if_pos (by omega), if_pos (by omega), if_pos (by omega), rd_mid, if_neg h32, if_pos (by omega), show runes_Width.f g.f0 = some (wid g.f0) from rfl, Option.bind_some, if_neg hz, wrap_up hi (by omega)]
end Go.Proofs.YtmeinakeiefcdaaDoor.Pure

/- Rows as they may be written. -/
namespace Go.Proofs.YtmeinakeiefcdaaDoor.Pure
open Go.RowKit Go.Proofs.YtmeinakeiefcdaaDoorW.PrintWords Go.Proofs.YtmeinakeiefcdaaDoorW.PrintLast Go.Proofs.YtmeinakeiefcdaaDoorW.PrintMore Go.Proofs.YtmeinakeiefcdaaDoor.X Go.Proofs.YtmeinakeiefcdaaDoor.Hand
set_option linter.unusedSimpArgs false
set_option linter.unusedVariables false
/-- A row, normal. -/
noncomputable def nrm (l : List Gl) : List Gl := normGo none ((clean l).take (exists_trim (clean l)).choose)
theorem nrm_length (l : List Gl) : (nrm l).length ≤ l.length := by
  have := clean_length l
  unfold nrm
  rw [normGo_length, List.length_take]
  omega
end Go.Proofs.YtmeinakeiefcdaaDoor.Pure

/- A list of numbers, read at a place. -/
namespace Go.Proofs.YtmeinakeiefcdaaDoor.Pure
open Go.RowKit Go.Proofs.YtmeinakeiefcdaaDoorW.PrintWords Go.Proofs.YtmeinakeiefcdaaDoorW.PrintLast Go.Proofs.YtmeinakeiefcdaaDoorW.PrintMore
set_option linter.unusedSimpArgs false
set_option linter.unusedVariables false
theorem rd_nat (l : List Int) (i : Nat) (h : i < l.length) : rd l (i : Int) = l[i] := by
  simp [rd, List.getD_eq_getElem?_getD, List.getElem?_eq_getElem h]
end Go.Proofs.YtmeinakeiefcdaaDoor.Pure

/- Runes and their bytes, as plain functions over whole numbers: what is written is read, and only what was written is read as anything. -/
namespace Go.Proofs.YtmeinakeiefcdaaDoor.Pure
open Go.Proofs.YtmeinakeiefcdaaDoor.Hand
set_option linter.unusedVariables false
set_option linter.unusedSimpArgs false

/-- The bytes of a rune that may be. -/
def enc (r : Int) : List Int :=
  if r < 128 then [r] else if r < 2048 then [192 + r / 64, 128 + r % 64] else if r < 65536 then [224 + r / 4096, 128 + r / 64 % 64, 128 + r % 64]
  else [240 + r / 262144, 128 + r / 4096 % 64, 128 + r / 64 % 64, 128 + r % 64]
/-- The bytes of any rune. -/
def one (r : Int) : List Int := enc (if validB r = true then r else 65533)
def encode (l : List Int) : List Int := l.flatMap one
def cont (d : Int) : Bool := decide (128 ≤ d) && decide (d < 192)
/-- The first rune, and how many bytes it has; 1 of one that is none. -/
def firstRune : List Int → Int × Nat
  | [] => (65533, 1)
  | c :: t =>
    if c < 128 then (c, 1)
    else if 192 ≤ c ∧ c < 224 then
      match t with
      | d :: _ => if cont d = true ∧ 128 ≤ (c - 192) * 64 + (d - 128) then ((c - 192) * 64 + (d - 128), 2) else (65533, 1)
      | _ => (65533, 1)
    else if 224 ≤ c ∧ c < 240 then
      match t with
      | d :: e :: _ => if cont d = true ∧ cont e = true ∧ 2048 ≤ ((c - 224) * 64 + (d - 128)) * 64 + (e - 128) ∧ validB (((c - 224) * 64 + (d - 128)) * 64 + (e - 128)) = true then (((c - 224) * 64 + (d - 128)) * 64 + (e - 128), 3) else (65533, 1)
      | _ => (65533, 1)
    else if 240 ≤ c ∧ c < 248 then
      match t with
      | d :: e :: f :: _ => if cont d = true ∧ cont e = true ∧ cont f = true ∧ 65536 ≤ (((c - 240) * 64 + (d - 128)) * 64 + (e - 128)) * 64 + (f - 128) ∧ validB ((((c - 240) * 64 + (d - 128)) * 64 + (e - 128)) * 64 + (f - 128)) = true
          then ((((c - 240) * 64 + (d - 128)) * 64 + (e - 128)) * 64 + (f - 128), 4) else (65533, 1)
      | _ => (65533, 1)
    else (65533, 1)
def decodeN : Nat → List Int → List Int
  | 0, _ => []
  | n + 1, l => if l = [] then [] else (firstRune l).1 :: decodeN n (l.drop (firstRune l).2)
def decode (l : List Int) : List Int := decodeN l.length l
/-- All of them bytes. -/
def Bytes (l : List Int) : Prop := ∀ x ∈ l, 0 ≤ x ∧ x ≤ 255

theorem validB_iff' (a : Int) : validB a = true ↔ 0 ≤ a ∧ a ≤ 1114111 ∧ (a < 55296 ∨ 57343 < a) := by
  simp [validB]
theorem cont_iff (d : Int) : cont d = true ↔ 128 ≤ d ∧ d < 192 := by simp [cont]

theorem first_enc {r : Int} (h : validB r = true) (t : List Int) : firstRune (enc r ++ t) = (r, (enc r).length) := by
  have h' := (validB_iff' r).1 h
  unfold enc
  split
  · simp [firstRune, *]
  · split
    · have e : (192 + r / 64 - 192) * 64 + (128 + r % 64 - 128) = r := by omega
      simp only [firstRune, List.cons_append, List.nil_append, List.length_cons, List.length_nil]
      rw [if_neg (by omega), if_pos (by omega), e, if_pos ⟨(cont_iff _).2 (by omega), by omega⟩]
    · split
      · have e : ((224 + r / 4096 - 224) * 64 + (128 + r / 64 % 64 - 128)) * 64 + (128 + r % 64 - 128) = r := by omega
        simp only [firstRune, List.cons_append, List.nil_append, List.length_cons, List.length_nil]
        rw [if_neg (by omega), if_neg (by omega), if_pos (by omega), e, if_pos ⟨(cont_iff _).2 (by omega), (cont_iff _).2 (by omega), by omega, h⟩]
      · have e : (((240 + r / 262144 - 240) * 64 + (128 + r / 4096 % 64 - 128)) * 64 + (128 + r / 64 % 64 - 128)) * 64 + (128 + r % 64 - 128) = r := by omega
        simp only [firstRune, List.cons_append, List.nil_append, List.length_cons, List.length_nil]
        rw [if_neg (by omega), if_neg (by omega), if_neg (by omega), if_pos (by omega), e, if_pos ⟨(cont_iff _).2 (by omega), (cont_iff _).2 (by omega), (cont_iff _).2 (by omega), by omega, h⟩]

theorem valid_odd : validB 65533 = true := by decide +kernel
theorem enc_len (r : Int) : 1 ≤ (enc r).length ∧ (enc r).length ≤ 4 := by
  unfold enc
  split
  · simp
  · split
    · simp
    · split <;> simp
theorem enc_bytes {r : Int} (h : validB r = true) : Bytes (enc r) := by
  have h' := (validB_iff' r).1 h
  unfold enc Bytes
  split
  · simp; omega
  · split
    · simp; omega
    · split <;> (simp; omega)
theorem enc_ne (r : Int) : enc r ≠ [] := fun h => by have := enc_len r; rw [h] at this; simp at this

/-- What is told first: a rune's bytes stand there, or it is told for what is none, one byte. -/
theorem first_spec {l : List Int} (hb : Bytes l) (hl : l ≠ []) : (validB (firstRune l).1 = true ∧ (firstRune l).2 = (enc (firstRune l).1).length ∧ l.take (firstRune l).2 = enc (firstRune l).1) ∨ firstRune l = (65533, 1) := by
  match l, hl with
  | c :: t, _ =>
    have hc := hb c (by simp)
    simp only [firstRune]
    split
    · left
      refine ⟨(validB_iff' _).2 (by simp; omega), ?_⟩
      simp [enc, *]
    · split
      · rename_i h1 h2
        match t with
        | d :: t' =>
          simp only
          split
          · rename_i h3
            have hd := (cont_iff d).1 h3.1
            left
            refine ⟨(validB_iff' _).2 (by simp; omega), ?_⟩
            simp only [enc]
            rw [if_neg (by omega), if_pos (by omega)]
            refine ⟨rfl, ?_⟩
            simp
            omega
          · exact .inr rfl
        | [] => exact .inr rfl
      · split
        · rename_i h1 h2 h3
          match t with
          | d :: e :: t' =>
            simp only
            split
            · rename_i h4
              have hd := (cont_iff d).1 h4.1
              have he := (cont_iff e).1 h4.2.1
              have h5 := h4.2.2.1
              left
              refine ⟨h4.2.2.2, ?_⟩
              simp only [enc]
              rw [if_neg (by omega), if_neg (by omega), if_pos (by omega)]
              refine ⟨rfl, ?_⟩
              simp
              omega
            · exact .inr rfl
          | [d] => exact .inr rfl
          | [] => exact .inr rfl
        · split
          · rename_i h1 h2 h3 h4
            match t with
            | d :: e :: f :: t' =>
              simp only
              split
              · rename_i h5
                have hd := (cont_iff d).1 h5.1
                have he := (cont_iff e).1 h5.2.1
                have hf := (cont_iff f).1 h5.2.2.1
                have h6 := h5.2.2.2.1
                left
                refine ⟨h5.2.2.2.2, ?_⟩
                simp only [enc]
                rw [if_neg (by omega), if_neg (by omega), if_neg (by omega)]
                refine ⟨rfl, ?_⟩
                simp
                omega
              · exact .inr rfl
            | [d, e] => exact .inr rfl
            | [d] => exact .inr rfl
            | [] => exact .inr rfl
          · exact .inr rfl

theorem first_len (l : List Int) : 1 ≤ (firstRune l).2 ∧ (firstRune l).2 ≤ 4 := by
  unfold firstRune
  repeat' split
  all_goals simp
theorem first_fits {l : List Int} (hb : Bytes l) (hl : l ≠ []) : (firstRune l).2 ≤ l.length := by
  rcases first_spec hb hl with ⟨_, h2, h3⟩ | h
  · have := congrArg List.length h3
    rw [List.length_take] at this
    omega
  · rw [h]
    cases l
    · exact absurd rfl hl
    · simp
theorem first_valid {l : List Int} (hb : Bytes l) (hl : l ≠ []) : validB (firstRune l).1 = true := by
  rcases first_spec hb hl with ⟨h, _⟩ | h
  · exact h
  · rw [h]; exact valid_odd

theorem bytes_drop {l : List Int} (h : Bytes l) (n : Nat) : Bytes (l.drop n) := fun x hx => h x (List.mem_of_mem_drop hx)
theorem decodeN_more : ∀ (n m : Nat) (l : List Int), Bytes l → l.length ≤ n → l.length ≤ m → decodeN n l = decodeN m l
  | 0, 0, _, _, _, _ => rfl
  | 0, m + 1, l, _, h, _ => by
    have : l = [] := List.eq_nil_of_length_eq_zero (by omega)
    simp [decodeN, this]
  | n + 1, 0, l, _, _, h => by
    have : l = [] := List.eq_nil_of_length_eq_zero (by omega)
    simp [decodeN, this]
  | n + 1, m + 1, l, hb, h, h' => by
    unfold decodeN
    split
    · rfl
    · rename_i hl
      have := first_len l
      have hn := List.length_drop (i := (firstRune l).2) (l := l)
      have h0 : 0 < l.length := List.length_pos_iff.2 hl
      rw [decodeN_more n m _ (bytes_drop hb _) (by omega) (by omega)]
theorem decode_nil : decode [] = [] := rfl
theorem decode_cons {l : List Int} (hb : Bytes l) (hl : l ≠ []) : decode l = (firstRune l).1 :: decode (l.drop (firstRune l).2) := by
  have h0 : 0 < l.length := List.length_pos_iff.2 hl
  have h1 := first_len l
  have hn := List.length_drop (i := (firstRune l).2) (l := l)
  obtain ⟨n, hn'⟩ : ∃ n, l.length = n + 1 := ⟨l.length - 1, by omega⟩
  show decodeN l.length l = _
  rw [hn']
  unfold decodeN
  rw [if_neg hl]
  congr 1
  exact decodeN_more _ _ _ (bytes_drop hb _) (by omega) (by omega)

/-- Down from a row of bytes to the rest behind its first rune. -/
theorem bytes_ind {P : List Int → Prop} (h0 : P []) (hs : ∀ l, Bytes l → l ≠ [] → P (l.drop (firstRune l).2) → P l) : ∀ l, Bytes l → P l := by
  have key : ∀ (n : Nat) (l : List Int), l.length ≤ n → Bytes l → P l := by
    intro n
    induction n with
    | zero =>
      intro l hl _
      rw [List.eq_nil_of_length_eq_zero (by omega : l.length = 0)]
      exact h0
    | succ n ih =>
      intro l hl hb
      by_cases he : l = []
      · rw [he]; exact h0
      · refine hs l hb he (ih _ ?_ (bytes_drop hb _))
        have := first_len l
        have hn := List.length_drop (i := (firstRune l).2) (l := l)
        have h0 : 0 < l.length := List.length_pos_iff.2 he
        omega
  exact fun l hb => key l.length l (Nat.le_refl _) hb

theorem decode_valid : ∀ l, Bytes l → ∀ r ∈ decode l, validB r = true :=
  bytes_ind (P := fun l => ∀ r ∈ decode l, validB r = true) (by simp [decode_nil]) fun l hb hl ih r hr => by
    rw [decode_cons hb hl] at hr
    rcases List.mem_cons.1 hr with rfl | h
    · exact first_valid hb hl
    · exact ih r h
theorem decode_length : ∀ l, Bytes l → (decode l).length ≤ l.length ∧ (l ≠ [] → decode l ≠ []) :=
  bytes_ind (P := fun l => (decode l).length ≤ l.length ∧ (l ≠ [] → decode l ≠ [])) (by simp [decode_nil]) fun l hb hl ih => by
    rw [decode_cons hb hl]
    have := first_len l
    have hn := List.length_drop (i := (firstRune l).2) (l := l)
    have h0 : 0 < l.length := List.length_pos_iff.2 hl
    have h1 := ih.1
    refine ⟨?_, fun _ => by simp⟩
    rw [List.length_cons]
    omega

theorem one_valid {r : Int} (h : validB r = true) : one r = enc r := by simp [one, h]
theorem one_bytes (r : Int) : Bytes (one r) := by
  unfold one
  split
  · rename_i h; exact enc_bytes h
  · exact enc_bytes valid_odd
theorem one_len (r : Int) : 1 ≤ (one r).length ∧ (one r).length ≤ 4 := enc_len _
theorem bytes_append {a b : List Int} (ha : Bytes a) (hb : Bytes b) : Bytes (a ++ b) := fun x hx => by
  rcases List.mem_append.1 hx with h | h
  · exact ha x h
  · exact hb x h
theorem encode_bytes (l : List Int) : Bytes (encode l) := fun x hx => by
  obtain ⟨r, _, h⟩ := List.mem_flatMap.1 hx
  exact one_bytes r x h
theorem encode_nil : encode [] = [] := rfl
theorem encode_cons (r : Int) (l : List Int) : encode (r :: l) = one r ++ encode l := by simp [encode]
theorem encode_append (a b : List Int) : encode (a ++ b) = encode a ++ encode b := by simp [encode]
theorem encode_length (l : List Int) : (encode l).length ≤ 4 * l.length := by
  induction l with
  | nil => simp [encode_nil]
  | cons r l ih =>
    have := one_len r
    rw [encode_cons, List.length_append, List.length_cons]
    omega

/-- What is written of runes that may be, whatever stands behind, is read as they were. -/
theorem decode_encode : ∀ (l : List Int) (b : List Int), (∀ r ∈ l, validB r = true) → Bytes b → decode (encode l ++ b) = l ++ decode b
  | [], b, _, _ => by simp [encode_nil]
  | r :: l, b, h, hb => by
    have hr := h r (by simp)
    have e : encode (r :: l) ++ b = enc r ++ (encode l ++ b) := by rw [encode_cons, one_valid hr, List.append_assoc]
    have hB : Bytes (enc r ++ (encode l ++ b)) := bytes_append (enc_bytes hr) (bytes_append (encode_bytes l) hb)
    have hne : enc r ++ (encode l ++ b) ≠ [] := by simp [enc_ne]
    rw [e, decode_cons hB hne, first_enc hr]
    simp only [List.drop_left, List.cons_append]
    rw [decode_encode l b (fun x hx => h x (List.mem_cons_of_mem _ hx)) hb]
theorem decode_encode' {l : List Int} (h : ∀ r ∈ l, validB r = true) : decode (encode l) = l := by
  have := decode_encode l [] h (by simp [Bytes])
  simpa [decode_nil] using this
theorem decode_again {a : List Int} (h : Bytes a) : decode (encode (decode a)) = decode a := decode_encode' (decode_valid a h)
/-- One row behind another one that is right. -/
theorem decode_append {a b : List Int} (ha : Bytes a) (hb : Bytes b) (hr : encode (decode a) = a) : decode (a ++ b) = decode a ++ decode b := by
  have := decode_encode (decode a) b (decode_valid a ha) hb
  rwa [hr] at this
/-- Bytes that are a rune's are read as it: no other number of bytes is. -/
theorem first_of_take {l : List Int} {k : Nat} {r : Int} (h : validB r = true) (e : l.take k = enc r) (hk : k ≤ l.length) : firstRune l = (r, k) := by
  have h1 : l = enc r ++ l.drop k := by rw [← e, List.take_append_drop]
  have h2 := first_enc h (l.drop k)
  rw [← h1] at h2
  rw [h2]
  congr 1
  rw [← e, List.length_take]
  omega
end Go.Proofs.YtmeinakeiefcdaaDoor.Pure

/- What package runes computes of bytes and of rows: its printed functions answer by plain functions. -/
namespace Go.Proofs.YtmeinakeiefcdaaDoor.Pure
open Go.RowKit Go.Proofs.YtmeinakeiefcdaaDoorW.PrintWords Go.Proofs.YtmeinakeiefcdaaDoorW.PrintLast Go.Proofs.YtmeinakeiefcdaaDoorW.PrintMore Go.Proofs.YtmeinakeiefcdaaDoor.X Go.Proofs.YtmeinakeiefcdaaDoor.Hand
set_option linter.unusedSimpArgs false
set_option linter.unusedVariables false

theorem size_eq (a : Int) : runes_size.f a = some (if a < 128 then 1 else if a < 2048 then 2 else if a < 65536 then 3 else 4) := by
  unfold runes_size.f
  repeat' split
  all_goals rfl
theorem i32_and63 {x : Int} (h₀ : 0 ≤ x) (h₁ : x < 2147483648) : Go.bits .and .i32 x 63 = x % 64 := bits_mask .i32 31 (by decide) wraps_i32 6 (by decide) x h₀ h₁
theorem step_one (x : Int) (n : Int) (b : List Int) (i : Nat) (hx : 0 ≤ x) (hx1 : x < 2147483648) (hi : 0 < i) (hib : i < b.length) (hb : b.length ≤ 4) (r : List Int)
    (k : Ev (fun k => runes_one.l0 k (x / 64) n (b.set i (128 + x % 64)) ((i : Int) - 1)) r) : Ev (fun k => runes_one.l0 k x n b (i : Int)) r := by
  refine Ev.step (f := fun k => runes_one.l0 k (x / 64) n (b.set i (128 + x % 64)) ((i : Int) - 1)) (fun k => ?_) k
  simp only [runes_one.l0]
  rw [if_pos (by omega), if_pos (by omega), if_pos (by omega), i32_and63 hx hx1, show (x % 64) % 256 = x % 64 from by omega, u8_or128 (x % 64) (by omega) (by omega), wrap_of (x := (i : Int) - 1) (by omega) (by omega), Int.toNat_natCast]
theorem last_one (x : Int) (n : Int) (b : List Int) (h : Int) (hn : 0 ≤ n) (hb : 0 < b.length) (hv : Go.bits .or .u8 ((shr .i64 3840 n) % 256) (x % 256) = h) : Ev (fun k => runes_one.l0 k x n b 0) (b.set 0 h) := by
  refine Ev.step (f := fun _ => some (b.set 0 h)) (fun k => ?_) (Ev.now _)
  simp only [runes_one.l0]
  rw [if_neg (by omega), if_pos hn, if_pos (by omega), hv]
  rfl
theorem one_j {x : Int} (h : validB x = true) : Ev (fun k => runes_one.j0 k x) (enc x) := by
  have h' := (validB_iff x).1 h
  refine Ev.step (f := fun k => (runes_size.f x).bind fun t => if t = 1 then some [x % 256] else if 0 ≤ t then (if (t : Int).toNat ≤ 281474976710656 then runes_one.l0 k x t (List.replicate (t : Int).toNat 0) (wrap64 (t - 1)) else none) else none) (fun k => by simp only [runes_one.j0]) ?_
  refine ev_bind1 (size_eq x) ?_
  unfold enc
  by_cases h1 : x < 128
  · simp only [h1, if_true]
    refine ev_eq (Ev.now _) ?_
    rw [show x % 256 = x from by omega]
  · by_cases h2 : x < 2048
    · simp only [h1, h2, if_true, if_false]
      refine ev_neg (by omega) (ev_pos (by omega) (ev_pos (by decide) ?_))
      refine Ev.congr (f := fun k => runes_one.l0 k x 2 [0, 0] ((1 : Nat) : Int)) (fun k => by rw [wrap_of (by omega) (by omega)]; rfl) ?_
      refine step_one x 2 [0, 0] 1 (by omega) (by omega) (by omega) (by simp) (by simp) _ ?_
      refine ev_eq (last_one (x / 64) 2 _ (192 + x / 64) (by omega) (by simp) ?_) (by rfl)
      rw [show (shr .i64 3840 2) % 256 = 192 by decide +kernel, show (x / 64) % 256 = x / 64 from by omega]
      exact u8_or192 _ (by omega) (by omega)
    · by_cases h3 : x < 65536
      · simp only [h1, h2, h3, if_true, if_false]
        refine ev_neg (by omega) (ev_pos (by omega) (ev_pos (by decide) ?_))
        refine Ev.congr (f := fun k => runes_one.l0 k x 3 [0, 0, 0] ((2 : Nat) : Int)) (fun k => by rw [wrap_of (by omega) (by omega)]; rfl) ?_
        refine step_one x 3 [0, 0, 0] 2 (by omega) (by omega) (by omega) (by simp) (by simp) _ ?_
        refine step_one (x / 64) 3 _ 1 (by omega) (by omega) (by omega) (by simp) (by simp) _ ?_
        refine ev_eq (last_one (x / 64 / 64) 3 _ (224 + x / 4096) (by omega) (by simp) ?_) (by rfl)
        rw [show (shr .i64 3840 3) % 256 = 224 by decide +kernel, show (x / 64 / 64) % 256 = x / 4096 from by omega]
        exact u8_or224 _ (by omega) (by omega)
      · simp only [h1, h2, h3, if_false]
        refine ev_neg (by omega) (ev_pos (by omega) (ev_pos (by decide) ?_))
        refine Ev.congr (f := fun k => runes_one.l0 k x 4 [0, 0, 0, 0] ((3 : Nat) : Int)) (fun k => by rw [wrap_of (by omega) (by omega)]; rfl) ?_
        refine step_one x 4 [0, 0, 0, 0] 3 (by omega) (by omega) (by omega) (by simp) (by simp) _ ?_
        refine step_one (x / 64) 4 _ 2 (by omega) (by omega) (by omega) (by simp) (by simp) _ ?_
        refine step_one (x / 64 / 64) 4 _ 1 (by omega) (by omega) (by omega) (by simp) (by simp) _ ?_
        refine ev_eq (last_one (x / 64 / 64 / 64) 4 _ (240 + x / 262144) (by omega) (by simp) ?_) ?_
        · rw [show (shr .i64 3840 4) % 256 = 240 by decide +kernel, show (x / 64 / 64 / 64) % 256 = x / 262144 from by omega]
          exact u8_or240 _ (by omega) (by omega)
        · simp
          omega
theorem one_ev (r : Int) : Ev (fun k => runes_one.f k r) (one r) := by
  unfold runes_one.f
  refine ev_bind1 (valid_eq r) (ev_ite (fun h => ?_) (fun h => ?_))
  · exact ev_eq (one_j h) (by simp [one, h])
  · exact ev_eq (one_j valid_odd) (by simp [one, h])

theorem encode_l (l : List Int) : ∀ (d i : Nat) (o : List Int), l.length - i = d → i ≤ l.length → o.length + 4 * (l.length - i) < 140737488355328 → l.length ≤ 9223372036854775807 →
    Ev (fun k => runes_Encode.l0 k o l (l.length : Int) (i : Int)) (o ++ encode (l.drop i)) := by
  intro d
  induction d with
  | zero =>
    intro i o hd hi ho hl
    refine Ev.step (f := fun _ => some o) (fun k => ?_) (ev_eq (Ev.now _) ?_)
    · simp only [runes_Encode.l0]
      rw [if_neg (by omega)]
    · rw [List.drop_eq_nil_of_le (by omega)]
      simp [encode_nil]
  | succ d ih =>
    intro i o hd hi ho hl
    have hlt : i < l.length := by omega
    have h1 := one_len l[i]
    refine Ev.step (f := fun k => (runes_one.f k l[i]).bind fun t => if o.length + t.length < 140737488355328 then runes_Encode.l0 k (o ++ t) l (l.length : Int) ((i + 1 : Nat) : Int) else none) (fun k => ?_) ?_
    · simp only [runes_Encode.l0]
      rw [if_pos (by omega), if_pos (by omega), if_pos (by omega), rd_nat l i hlt, wrap_of (by omega) (by omega)]
      rfl
    · refine Ev.bind (one_ev _) (ev_pos (by omega) (ev_eq (ih (i + 1) _ (by omega) (by omega) (by rw [List.length_append]; omega) hl) ?_))
      rw [List.drop_eq_getElem_cons hlt, encode_cons, List.append_assoc]
theorem encode_ev (l : List Int) (h : 4 * l.length < 140737488355328) : Ev (fun k => runes_Encode.f k l) (encode l) := by
  unfold runes_Encode.f
  exact ev_eq (encode_l l l.length 0 [] (by omega) (by omega) (by simpa using h) (by omega)) (by simp)

/-! ### reading -/
end Go.Proofs.YtmeinakeiefcdaaDoor.Pure

/- Package cells: a row's runes, its text; a text's glyphs. -/
namespace Go.Proofs.YtmeinakeiefcdaaDoor.Pure
open Go.RowKit Go.Proofs.YtmeinakeiefcdaaDoorW.PrintWords Go.Proofs.YtmeinakeiefcdaaDoorW.PrintLast Go.Proofs.YtmeinakeiefcdaaDoorW.PrintMore Go.Proofs.YtmeinakeiefcdaaDoor.X Go.Proofs.YtmeinakeiefcdaaDoor.Hand
set_option linter.unusedSimpArgs false
set_option linter.unusedVariables false

/-- The runes of a row. -/
def runesOf (l : List Gl) : List Int := l.map (·.f0)
def ofRunes (s : Int) (l : List Int) : List Gl := l.map (fun r => ⟨r, s⟩)
theorem ofRunes_nil (s : Int) : ofRunes s [] = [] := rfl
theorem ofRunes_cons (s r : Int) (l : List Int) : ofRunes s (r :: l) = ⟨r, s⟩ :: ofRunes s l := rfl
theorem ofRunes_append (s : Int) (a b : List Int) : ofRunes s (a ++ b) = ofRunes s a ++ ofRunes s b := by simp [ofRunes]
theorem ofRunes_length (s : Int) (l : List Int) : (ofRunes s l).length = l.length := by simp [ofRunes]
theorem runesOf_nil : runesOf [] = [] := rfl
theorem runesOf_cons (g : Gl) (l : List Gl) : runesOf (g :: l) = g.f0 :: runesOf l := rfl
theorem runesOf_append (a b : List Gl) : runesOf (a ++ b) = runesOf a ++ runesOf b := by simp [runesOf]
theorem runesOf_length (l : List Gl) : (runesOf l).length = l.length := by simp [runesOf]
theorem runesOf_ofRunes (s : Int) (l : List Int) : runesOf (ofRunes s l) = l := by
  unfold runesOf ofRunes
  rw [List.map_map]
  exact List.map_id _
theorem bytesOf_Bytes (s : ByteArray) : Bytes (bytesOf s) := fun x hx => by
  unfold bytesOf at hx
  obtain ⟨u, _, rfl⟩ := List.mem_map.1 hx
  have := u.toNat_lt
  omega
theorem text_ev (l : List Gl) (h : l.length < 8796093022208) : Ev (fun k => cells_Text.f k l) (strOfNums (encode (runesOf l))) := by
  unfold cells_Text.f
  refine ev_eq (loop_up (fun k o i => cells_Text.l0 k o l (l.length : Int) i) l.length (fun o i => strOfNums (encode (o ++ runesOf (l.drop i)))) (fun o i => o.length = i) ?_ ?_ [] 0 (by omega) rfl) (by simp)
  · intro o ho
    refine Ev.step (f := fun k => (runes_Encode.f k o).bind fun t => some (strOfNums t)) (fun k => by simp only [cells_Text.l0]; rw [if_neg (by omega)]) (Ev.bind (encode_ev o (by omega)) (ev_eq (Ev.now _) (by rw [List.drop_length, runesOf_nil, List.append_nil])))
  · intro o i hi ho ih
    refine Ev.step (f := fun k => cells_Text.l0 k (o ++ [l[i].f0]) l (l.length : Int) ((i + 1 : Nat) : Int)) (fun k => ?_) (ev_eq (ih (o ++ [l[i].f0]) (by simp [ho])) ?_)
    · simp only [cells_Text.l0]
      rw [if_pos (by omega), if_pos (by omega), if_pos (by omega), if_pos (by omega), rdG l i hi, wrap_up hi (by omega)]
    · rw [List.drop_eq_getElem_cons hi, runesOf_cons, List.append_assoc]
      rfl
end Go.Proofs.YtmeinakeiefcdaaDoor.Pure

/- How wide a row of runes is. -/
namespace Go.Proofs.YtmeinakeiefcdaaDoor.Pure
open Go.RowKit Go.Proofs.YtmeinakeiefcdaaDoorW.PrintWords Go.Proofs.YtmeinakeiefcdaaDoorW.PrintLast Go.Proofs.YtmeinakeiefcdaaDoorW.PrintMore Go.Proofs.YtmeinakeiefcdaaDoor.X Go.Proofs.YtmeinakeiefcdaaDoor.Hand
set_option linter.unusedSimpArgs false
set_option linter.unusedVariables false
/-- How wide a row is. -/
def sum (l : List Int) : Int := (l.map wid).sum
theorem sum_nil : sum [] = 0 := rfl
theorem sum_cons (r : Int) (l : List Int) : sum (r :: l) = wid r + sum l := by simp [sum]
theorem sum_append (a b : List Int) : sum (a ++ b) = sum a + sum b := by simp [sum]
theorem sum_range (l : List Int) : 0 ≤ sum l ∧ sum l ≤ 2 * l.length := by
  induction l with
  | nil => simp [sum_nil]
  | cons r l ih =>
    have := wid_range r
    rw [sum_cons, List.length_cons]
    omega
end Go.Proofs.YtmeinakeiefcdaaDoor.Pure

/- How wide a row of glyphs is. -/
namespace Go.Proofs.YtmeinakeiefcdaaDoor.Pure
open Go.RowKit Go.Proofs.YtmeinakeiefcdaaDoorW.PrintWords Go.Proofs.YtmeinakeiefcdaaDoorW.PrintLast Go.Proofs.YtmeinakeiefcdaaDoorW.PrintMore Go.Proofs.YtmeinakeiefcdaaDoor.X Go.Proofs.YtmeinakeiefcdaaDoor.Hand
set_option linter.unusedSimpArgs false
set_option linter.unusedVariables false
/-- How wide a row is. -/
def width (l : List Gl) : Int := sum (l.map (·.f0))
theorem width_nil : width [] = 0 := rfl
theorem width_cons (g : Gl) (l : List Gl) : width (g :: l) = wid g.f0 + width l := by simp [width, sum_cons]
theorem width_append (a b : List Gl) : width (a ++ b) = width a + width b := by simp [width, sum_append]
theorem width_range (l : List Gl) : 0 ≤ width l ∧ width l ≤ 2 * l.length := by
  have := sum_range (l.map (·.f0))
  simpa [width] using this
theorem width_ev (l : List Gl) (h : l.length ≤ 4611686018427387903) : Ev (fun k => cells_Width.f k l) (width l) := by
  unfold cells_Width.f
  refine ev_eq (loop_up (fun k n i => cells_Width.l0 k n l (l.length : Int) i) l.length (fun n i => n + width (l.drop i)) (fun n i => 0 ≤ n ∧ n ≤ 2 * i) ?_ ?_ 0 0 (by omega) ⟨by omega, by omega⟩) (by simp)
  · intro n _
    exact Ev.step (f := fun _ => some n) (fun k => by simp only [cells_Width.l0]; rw [if_neg (by omega)]) (ev_eq (Ev.now _) (by simp [width_nil]))
  · intro n i hi ⟨h0, h1⟩ ih
    have hw := wid_range l[i].f0
    refine Ev.step (f := fun k => cells_Width.l0 k (n + wid l[i].f0) l (l.length : Int) ((i + 1 : Nat) : Int)) (fun k => ?_) (ev_eq (ih (n + wid l[i].f0) ⟨by omega, by omega⟩) ?_)
    · simp only [cells_Width.l0]
      rw [if_pos (by omega), if_pos (by omega), if_pos (by omega), rdG l i hi, show runes_Width.f l[i].f0 = some (wid l[i].f0) from rfl, Option.bind_some, wrap_of (x := n + wid l[i].f0) (by omega) (by omega), wrap_up hi (by omega)]
    · rw [List.drop_eq_getElem_cons hi, width_cons]
      omega
end Go.Proofs.YtmeinakeiefcdaaDoor.Pure

/- Numbers as a text, and back. -/
namespace Go.Proofs.YtmeinakeiefcdaaDoor.Pure
open Go Go.RowKit Go.Proofs.YtmeinakeiefcdaaDoorW.PrintWords Go.Proofs.YtmeinakeiefcdaaDoorW.PrintLast Go.Proofs.YtmeinakeiefcdaaDoorW.PrintMore Go.Proofs.YtmeinakeiefcdaaDoor.X Go.Proofs.YtmeinakeiefcdaaDoor.Hand
set_option linter.unusedSimpArgs false
set_option linter.unusedVariables false
theorem numsStr_append (a b : List Int) : strOfNums (a ++ b) = strOfNums a ++ strOfNums b := by
  apply ByteArray.ext
  apply Array.ext'
  rw [ByteArray.data_append, Array.toList_append, strOfNums_data, strOfNums_data, strOfNums_data, List.map_append]
theorem numsStr_size (a : List Int) : (strOfNums a).size = a.length := by
  rw [← data_length, strOfNums_data, List.length_map]
theorem numsStr_back {b : List Int} (hb : Bytes b) : bytesOf (strOfNums b) = b := by
  unfold bytesOf
  rw [strOfNums_data, List.map_map]
  conv => rhs; rw [← List.map_id b]
  apply List.map_congr_left
  intro x hx
  have := hb x hx
  simp
  omega
end Go.Proofs.YtmeinakeiefcdaaDoor.Pure

/- The bytes of a glyph, struck over: package over's. -/
namespace Go.Proofs.YtmeinakeiefcdaaDoor.Pure
open Go Go.RowKit Go.Proofs.YtmeinakeiefcdaaDoorW.PrintWords Go.Proofs.YtmeinakeiefcdaaDoorW.PrintLast Go.Proofs.YtmeinakeiefcdaaDoorW.PrintMore Go.Proofs.YtmeinakeiefcdaaDoor.X Go.Proofs.YtmeinakeiefcdaaDoor.Hand
set_option linter.unusedSimpArgs false
set_option linter.unusedVariables false
/-- The bytes of a glyph. -/
def oneV (g : Gl) : List Int :=
  if wid (cleanG g).f0 = 0 ∨ (cleanG g).f0 = 32 then one (cleanG g).f0
  else ((if (cleanG g).f1 < 2 then [] else List.replicate (wid (cleanG g).f0).toNat 95 ++ List.replicate (wid (cleanG g).f0).toNat 8)
    ++ (if (cleanG g).f1 % 2 = 0 then [] else one (cleanG g).f0 ++ List.replicate (wid (cleanG g).f0).toNat 8)) ++ one (cleanG g).f0
theorem bits_2 {f : Int} (h : 0 ≤ f ∧ f ≤ 3) : Go.bits .and .u8 f 2 = 0 ↔ f < 2 := by
  have h1 : ∀ n : Nat, n < 4 → (Go.bits .and .u8 (n : Int) 2 = 0 ↔ (n : Int) < 2) := by decide +kernel
  obtain ⟨n, rfl⟩ := Int.eq_ofNat_of_zero_le h.1
  exact h1 n (by omega)
theorem bits_1 {f : Int} (h : 0 ≤ f ∧ f ≤ 3) : Go.bits .and .u8 f 1 = 0 ↔ f % 2 = 0 := by
  have h1 : ∀ n : Nat, n < 4 → (Go.bits .and .u8 (n : Int) 1 = 0 ↔ (n : Int) % 2 = 0) := by decide +kernel
  obtain ⟨n, rfl⟩ := Int.eq_ofNat_of_zero_le h.1
  exact h1 n (by omega)
theorem one_Bytes (r : Int) : Bytes (one r) := one_bytes r
theorem encode_one (r : Int) : encode [r] = one r := by rw [encode_cons, encode_nil, List.append_nil]
theorem clean_one (g : Gl) : clean [g] = if 0 < wid (cleanG g).f0 then [cleanG g] else [] := by
  unfold clean
  rw [List.map_cons, List.map_nil, List.dropWhile_cons]
  by_cases h : 0 < wid (cleanG g).f0
  · rw [if_pos h, if_neg (by simp; omega)]
  · rw [if_neg h, if_pos (by simp; omega)]
    rfl
theorem oneB_eq {r : Int} {f : Int} (hf : 0 ≤ f ∧ f ≤ 3) (n : Nat) : oneB (strOfNums (one r)) n f = ((if f < 2 then [] else List.replicate n 95 ++ List.replicate n 8) ++ (if f % 2 = 0 then [] else one r ++ List.replicate n 8)) ++ one r := by
  unfold oneB
  rw [numsStr_back (one_Bytes r)]
  congr 2
  · by_cases h : f < 2
    · rw [if_pos h, if_pos ((bits_2 hf).2 h)]
    · rw [if_neg h, if_neg (fun e => h ((bits_2 hf).1 e))]
  · by_cases h : f % 2 = 0
    · rw [if_pos h, if_pos ((bits_1 hf).2 h)]
    · rw [if_neg h, if_neg (fun e => h ((bits_1 hf).1 e))]
theorem over_one_ev (g : Gl) (h : 0 ≤ g.f1 ∧ g.f1 ≤ 255) : Ev (fun k => over_One.f k g.f0 g.f1) (oneV g) := by
  have hcl := cleanG_Cl g h
  have hwr := wid_range (cleanG g).f0
  have hol := one_len (cleanG g).f0
  unfold over_One.f
  refine Ev.bind (clean_ev [g] (by simp)) ?_
  rw [clean_one]
  by_cases hw : 0 < wid (cleanG g).f0
  · rw [if_pos hw]
    have hrd : rd_T35 [cleanG g] 0 = cleanG g := rfl
    have he : encode (runesOf [cleanG g]) = one (cleanG g).f0 := encode_one _
    have hwd : width [cleanG g] = wid (cleanG g).f0 := by rw [width_cons, width_nil]; omega
    refine ev_neg (by simp) (Ev.bind (text_ev [cleanG g] (by simp)) (Ev.bind (width_ev [cleanG g] (by simp)) ?_))
    rw [hrd, he, hwd]
    refine ev_ite (fun hp => ?_) (fun hp => ?_)
    · refine ev_one ?_
      unfold conv_bytes.f oneV
      rw [if_pos (by rw [numsStr_size]; omega), numsStr_back (one_Bytes _)]
      congr 1
      by_cases h32 : (cleanG g).f0 = 32
      · rw [if_pos (.inr h32)]
      · have h0 := hp.resolve_left h32
        rw [if_neg (by omega), if_pos (by omega), if_pos (by omega)]
        rfl
    · refine ev_pos ⟨by omega, by omega, by rw [numsStr_size]; omega⟩ (ev_eq (Ev.now _) ?_)
      have hneg : ¬ (wid (cleanG g).f0 = 0 ∨ (cleanG g).f0 = 32) := by omega
      unfold oneV
      rw [oneB_eq ⟨hcl.2.2.1, hcl.2.2.2.1⟩, if_neg hneg]
  · rw [if_neg hw]
    have h160 : g.f0 ≠ 160 := by
      intro e
      apply hw
      unfold cleanG
      rw [if_pos e]
      show 0 < wid (safe 32)
      decide +kernel
    have hr : (cleanG g).f0 = safe g.f0 := by
      unfold cleanG
      rw [if_neg h160]
    refine ev_pos rfl (Ev.bind (safe_ev g.f0) (ev_eq (encode_ev [safe g.f0] (by simp)) ?_))
    rw [encode_one, oneV, if_pos (by omega), hr]
theorem oneV_length (g : Gl) : (oneV g).length ≤ 20 := by
  have hwr := wid_range (cleanG g).f0
  have hol := one_len (cleanG g).f0
  unfold oneV
  split
  · omega
  · split <;> split <;> simp only [List.length_append, List.length_replicate, List.length_nil] <;> omega
theorem oneV_Bytes (g : Gl) : Bytes (oneV g) := by
  have hr : ∀ (n : Nat) (x : Int), 0 ≤ x ∧ x ≤ 255 → Bytes (List.replicate n x) := fun n x hx y hy => by rw [List.eq_of_mem_replicate hy]; exact hx
  have hn : Bytes ([] : List Int) := fun x hx => by simp at hx
  unfold oneV
  split
  · exact one_Bytes _
  · refine bytes_append (bytes_append ?_ ?_) (one_Bytes _)
    · split
      · exact hn
      · exact bytes_append (hr _ _ (by decide)) (hr _ _ (by decide))
    · split
      · exact hn
      · exact bytes_append (one_Bytes _) (hr _ _ (by decide))
/-- The bytes of a row. -/
def rowO (c : List Gl) : List Int := c.flatMap oneV
theorem rowO_cons (g : Gl) (t : List Gl) : rowO (g :: t) = oneV g ++ rowO t := by simp [rowO]
theorem rowO_append (a b : List Gl) : rowO (a ++ b) = rowO a ++ rowO b := by simp [rowO]
theorem rowO_length : ∀ c : List Gl, (rowO c).length ≤ 20 * c.length
  | [] => by simp [rowO]
  | g :: t => by
    have h1 := oneV_length g
    have h2 := rowO_length t
    rw [rowO_cons, List.length_append, List.length_cons]
    omega
theorem rowO_Bytes (c : List Gl) : Bytes (rowO c) := by
  intro x hx
  obtain ⟨g, _, hg⟩ := List.mem_flatMap.1 hx
  exact oneV_Bytes g x hg
end Go.Proofs.YtmeinakeiefcdaaDoor.Pure

/- Blanks. -/
namespace Go.Proofs.YtmeinakeiefcdaaDoor.Pure
open Go.RowKit Go.Proofs.YtmeinakeiefcdaaDoorW.PrintWords Go.Proofs.YtmeinakeiefcdaaDoorW.PrintLast Go.Proofs.YtmeinakeiefcdaaDoorW.PrintMore Go.Proofs.YtmeinakeiefcdaaDoor.X Go.Proofs.YtmeinakeiefcdaaDoor.Hand
set_option linter.unusedSimpArgs false
set_option linter.unusedVariables false
def sp : Gl := ⟨32, 0⟩
theorem wid_sp : wid sp.f0 = 1 := by decide +kernel
theorem mx_mn (a : Int) : mx 0 (mn a 65535) = max 0 (min a 65535) := by
  unfold mx mn
  omega
theorem blank_eq (a : Int) : cells_Blank.f a = some (List.replicate (max 0 (min a 65535)).toNat sp) := by
  unfold cells_Blank.f repeat_G.f
  rw [mx_mn, if_pos ⟨rfl, by omega, by omega⟩, Option.bind_some]
  rfl
end Go.Proofs.YtmeinakeiefcdaaDoor.Pure

/- A row of rows, read. -/
namespace Go.Proofs.YtmeinakeiefcdaaDoor.Pure
open Go.RowKit Go.Proofs.YtmeinakeiefcdaaDoorW.PrintWords Go.Proofs.YtmeinakeiefcdaaDoorW.PrintLast Go.Proofs.YtmeinakeiefcdaaDoorW.PrintMore Go.Proofs.YtmeinakeiefcdaaDoor.X Go.Proofs.YtmeinakeiefcdaaDoor.Hand
theorem rdL (l : List (List Gl)) (i : Nat) (h : i < l.length) : rd_L6 l (i : Int) = l[i] := by
  simp [rd_L6, List.getD_eq_getElem?_getD, List.getElem?_eq_getElem h]
end Go.Proofs.YtmeinakeiefcdaaDoor.Pure

/- Lines laid flat, made normal, and as bytes: package plain's and the reference's. -/
namespace Go.Proofs.YtmeinakeiefcdaaDoor.Pure
open Go.RowKit Go.Proofs.YtmeinakeiefcdaaDoorW.PrintWords Go.Proofs.YtmeinakeiefcdaaDoorW.PrintLast Go.Proofs.YtmeinakeiefcdaaDoorW.PrintMore Go.Proofs.YtmeinakeiefcdaaDoor.X Go.Proofs.YtmeinakeiefcdaaDoor.Hand
set_option linter.unusedSimpArgs false
set_option linter.unusedVariables false
abbrev Ln := S30
theorem rdN (l : List Ln) (i : Nat) (h : i < l.length) : rd_T30 l (i : Int) = l[i] := by
  simp [rd_T30, List.getD_eq_getElem?_getD, List.getElem?_eq_getElem h]
/-- A line, flat. -/
def flat (x : Ln) : List Gl := if x.f1.length = 0 then [] else List.replicate (max 0 (min x.f0 65535)).toNat sp ++ x.f1
/-- What the chapter's laws look at. -/
def Small (x : Ln) : Prop := x.f0 ≤ 2000 ∧ x.f1.length ≤ 1000 ∧ ∀ g ∈ x.f1, 0 ≤ g.f1 ∧ g.f1 ≤ 255
theorem flat_length {x : Ln} (h : Small x) : (flat x).length ≤ 3000 := by
  obtain ⟨h0, h1, _⟩ := h
  unfold flat
  split
  · simp
  · rw [List.length_append, List.length_replicate]
    omega
theorem flat_set {x : Ln} (h : Small x) : ∀ g ∈ flat x, 0 ≤ g.f1 ∧ g.f1 ≤ 255 := by
  intro g hg
  unfold flat at hg
  split at hg
  · simp at hg
  · rcases List.mem_append.1 hg with hg | hg
    · rw [(List.mem_replicate.1 hg).2]
      decide
    · exact h.2.2 g hg
theorem flat_eq {x : Ln} (h : x.f1.length ≤ 1000000) : layout_Flat.f x.f0 x.f1 x.f2 = some (flat x) := by
  unfold layout_Flat.f flat
  by_cases h0 : x.f1.length = 0
  · rw [if_pos (by omega), if_pos h0]
  · rw [if_neg (by omega), if_neg h0, blank_eq, Option.bind_some, if_pos (by rw [List.length_replicate]; omega)]
noncomputable def prows (l : List Ln) : List (List Gl) := l.map (fun x => nrm (flat x))
theorem prows_length (l : List Ln) : (prows l).length = l.length := by simp [prows]
theorem prows_small {l : List Ln} (h : ∀ x ∈ l, Small x) : ∀ r ∈ prows l, r.length ≤ 3000 := by
  intro r hr
  obtain ⟨x, hx, rfl⟩ := List.mem_map.1 hr
  exact Nat.le_trans (nrm_length _) (flat_length (h x hx))
theorem prows_drop (l : List Ln) (i : Nat) (h : i < l.length) : prows (l.drop i) = nrm (flat l[i]) :: prows (l.drop (i + 1)) := by
  unfold prows
  rw [List.drop_eq_getElem_cons h, List.map_cons]
theorem rows_ev {l : List Ln} (hl : l.length ≤ 1000) (h : ∀ x ∈ l, Small x) : Ev (fun k => plain_Rows.f k l) (prows l) := by
  unfold plain_Rows.f
  refine ev_eq (loop_up (fun k o i => plain_Rows.l0 k o l (l.length : Int) i) l.length (fun o i => o ++ prows (l.drop i)) (fun o i => o.length ≤ i) ?_ ?_ [] 0 (by omega) (by simp)) (by simp)
  · intro o _
    exact Ev.step (f := fun _ => some o) (fun k => by simp only [plain_Rows.l0]; rw [if_neg (by omega)]) (ev_eq (Ev.now _) (by simp [prows]))
  · intro o i hi ho ih
    have hs := h l[i] (List.getElem_mem hi)
    have hf := flat_length hs
    refine Ev.step (f := fun k => (plain_Normal.f k (flat l[i])).bind fun t => if o.length < 5864062014805 then plain_Rows.l0 k (o ++ [t]) l (l.length : Int) ((i + 1 : Nat) : Int) else none) (fun k => ?_) ?_
    · simp only [plain_Rows.l0]
      rw [if_pos (by omega), if_pos (by omega), if_pos (by omega), rdN l i hi, flat_eq (by have := hs.2.1; omega), Option.bind_some, wrap_up hi (by omega)]
    · refine Ev.bind (normal_ev _ (exists_trim (clean (flat l[i]))).choose_spec (by omega)) (ev_pos (by omega) (ev_eq (ih _ (by simp; omega)) ?_))
      rw [prows_drop l i hi, List.append_assoc]
      rfl
/-- Rows as bytes. -/
def lineBytes (r : List Gl) : List Int := encode (runesOf r) ++ [10]
def rowBytes (rs : List (List Gl)) : List Int := (rs.map lineBytes).flatten
theorem rowBytes_drop (rs : List (List Gl)) (i : Nat) (h : i < rs.length) : rowBytes (rs.drop i) = lineBytes rs[i] ++ rowBytes (rs.drop (i + 1)) := by
  unfold rowBytes
  rw [List.drop_eq_getElem_cons h, List.map_cons, List.flatten_cons]
theorem lineBytes_length (r : List Gl) : (lineBytes r).length ≤ 4 * r.length + 1 := by
  have := encode_length (runesOf r)
  rw [runesOf_length] at this
  unfold lineBytes
  rw [List.length_append]
  simp
  omega
theorem lineBytes_Bytes (r : List Gl) : Bytes (lineBytes r) := by
  intro x hx
  rcases List.mem_append.1 hx with h | h
  · exact encode_bytes _ x h
  · rw [List.mem_singleton.1 h]
    decide
theorem rowBytes_Bytes (rs : List (List Gl)) : Bytes (rowBytes rs) := by
  intro x hx
  obtain ⟨y, hy, hxy⟩ := List.mem_flatten.1 hx
  obtain ⟨r, _, rfl⟩ := List.mem_map.1 hy
  exact lineBytes_Bytes r x hxy
/-- Is it more than is looked at? -/
def longB : List Ln → Int → Bool
  | [], n => decide (n > 400)
  | x :: t, n => if x.f0 > 2000 then true else longB t (n + 1 + (x.f1.length : Int))
def lsum (l : List Ln) : Nat := (l.map (fun x => x.f1.length + 1)).sum
theorem lsum_cons (x : Ln) (t : List Ln) : lsum (x :: t) = x.f1.length + 1 + lsum t := by simp [lsum]
theorem lsum_length : ∀ l : List Ln, l.length ≤ lsum l
  | [] => Nat.zero_le _
  | x :: t => by
    have := lsum_length t
    rw [lsum_cons, List.length_cons]
    omega
theorem longB_false : ∀ (l : List Ln) (n : Int), 0 ≤ n → longB l n = false → n + lsum l ≤ 400 ∧ ∀ x ∈ l, x.f0 ≤ 2000 ∧ x.f1.length ≤ 400
  | [], n, h0, h => by
    simp [longB] at h
    simp [lsum]
    omega
  | x :: t, n, h0, h => by
    rw [longB] at h
    split at h
    · cases h
    · obtain ⟨h1, h2⟩ := longB_false t _ (by omega) h
      rw [lsum_cons]
      refine ⟨by omega, fun y hy => ?_⟩
      rcases List.mem_cons.1 hy with rfl | hy
      · omega
      · exact h2 y hy
theorem long_ev {l : List Ln} (h : lsum l ≤ 1048576) : Ev (fun k => flongref17_Long.f k l) (longB l 0) := by
  have hll := lsum_length l
  unfold flongref17_Long.f
  refine ev_eq (loop_up (fun k n i => flongref17_Long.l0 k l n i) l.length (fun n i => longB (l.drop i) n) (fun n i => 0 ≤ n ∧ n + lsum (l.drop i) ≤ 1048576) ?_ ?_ 0 0 (by omega) (by simp; omega)) (by simp)
  · intro n _
    exact Ev.step (f := fun _ => some (decide (n > 400))) (fun k => by simp only [flongref17_Long.l0]; rw [if_neg (by omega)]) (ev_eq (Ev.now _) (by rw [List.drop_length]; rfl))
  · intro n i hi hn ih
    rw [List.drop_eq_getElem_cons hi, lsum_cons] at hn
    rw [List.drop_eq_getElem_cons hi, longB]
    refine Ev.step (f := fun k => if l[i].f0 > 2000 then some true else flongref17_Long.l0 k l (n + 1 + (l[i].f1.length : Int)) ((i + 1 : Nat) : Int)) (fun k => ?_) ?_
    · simp only [flongref17_Long.l0]
      rw [if_pos (by omega), if_pos (by omega), rdN l i hi, wrap_up hi (by omega), wrap_of (x := n + 1) (by omega) (by omega), wrap_of (x := n + 1 + _) (by omega) (by omega)]
    · refine ev_ite (fun h => ev_eq (Ev.now _) (by rw [if_pos h])) (fun h => ?_)
      rw [if_neg h]
      exact ih _ ⟨by omega, by omega⟩
end Go.Proofs.YtmeinakeiefcdaaDoor.Pure

/- Normal rows: what they are, and that they stay. -/
namespace Go.Proofs.YtmeinakeiefcdaaDoor.Pure
open Go.RowKit Go.Proofs.YtmeinakeiefcdaaDoorW.PrintWords Go.Proofs.YtmeinakeiefcdaaDoorW.PrintLast Go.Proofs.YtmeinakeiefcdaaDoorW.PrintMore Go.Proofs.YtmeinakeiefcdaaDoor.X Go.Proofs.YtmeinakeiefcdaaDoor.Hand
set_option linter.unusedVariables false
/-- Normal: how each is set, behind p. -/
def IsNorm : Option Int → List Gl → Prop
  | _, [] => True
  | p, g :: t => g.f1 = setOf p g ∧ IsNorm (some g.f1) t
theorem setOf_same (p : Option Int) (g : Gl) (s : Int) (h : s = setOf p g) : setOf p ⟨g.f0, s⟩ = s := by
  unfold setOf at h ⊢
  split at h
  · rename_i h0
    rw [if_pos h0, h]
  · rename_i h0
    rw [if_neg h0]
    cases p with
    | none => rfl
    | some q =>
      simp only at h ⊢
      split at h
      · rename_i hw
        rw [if_pos hw, h]
      · rename_i hw
        rw [if_neg hw]
theorem normGo_IsNorm : ∀ (l : List Gl) (p : Option Int), IsNorm p (normGo p l)
  | [], _ => trivial
  | g :: t, p => ⟨(setOf_same p g _ rfl).symm, normGo_IsNorm t _⟩
theorem normGo_self : ∀ (l : List Gl) (p : Option Int), IsNorm p l → normGo p l = l
  | [], _, _ => rfl
  | g :: t, p, h => by
    rw [normGo, ← h.1, normGo_self t _ h.2]
theorem and3_self {x : Int} (h : 0 ≤ x ∧ x ≤ 3) : Go.bits .and .u8 x 3 = x := by
  have h1 : ∀ n : Nat, n < 4 → Go.bits .and .u8 (n : Int) 3 = (n : Int) := by decide +kernel
  obtain ⟨n, rfl⟩ := Int.eq_ofNat_of_zero_le h.1
  exact h1 n (by omega)
theorem setOf_in {p : Option Int} {g : Gl} (hp : ∀ s, p = some s → 0 ≤ s ∧ s ≤ 3) (hg : 0 ≤ g.f1 ∧ g.f1 ≤ 3) : 0 ≤ setOf p g ∧ setOf p g ≤ 3 := by
  unfold setOf
  split
  · omega
  · cases p with
    | none => exact hg
    | some s =>
      simp only
      split
      · exact hp s rfl
      · exact hg
theorem normGo_in : ∀ (l : List Gl) (p : Option Int), (∀ s, p = some s → 0 ≤ s ∧ s ≤ 3) → (∀ g ∈ l, 0 ≤ g.f1 ∧ g.f1 ≤ 3) → ∀ g ∈ normGo p l, 0 ≤ g.f1 ∧ g.f1 ≤ 3
  | [], _, _, _, g, h => by simp [normGo] at h
  | x :: t, p, hp, hl, g, h => by
    have hx := setOf_in hp (hl x (by simp))
    rw [normGo] at h
    rcases List.mem_cons.1 h with rfl | h
    · exact hx
    · exact normGo_in t _ (fun s e => by injection e with e; rw [← e]; exact hx) (fun y hy => hl y (by simp [hy])) g h
/-- A row that is normal. -/
structure Nrml (c : List Gl) : Prop where
  norm : IsNorm none c
  cl : ∀ g ∈ c, Cl g
  head : ∀ h : 0 < c.length, wid (c[0]).f0 ≠ 0
  last : ∀ g : Gl, 0 < c.length → c[c.length - 1]? = some g → g.f0 ≠ 32
theorem Nrml.clean_eq {c : List Gl} (h : Nrml c) : clean c = c := by
  unfold clean
  rw [map_self h.cl]
  cases hcc : c with
  | nil => rfl
  | cons g t =>
    rw [List.dropWhile_cons, if_neg]
    have := h.head (by rw [hcc]; simp)
    simp only [hcc, List.getElem_cons_zero] at this
    have hr := wid_range g.f0
    simp
    omega
theorem Nrml.self {c : List Gl} (h : Nrml c) : nrm c = c := by
  unfold nrm
  have ht := (exists_trim (clean c)).choose_spec
  revert ht
  generalize (exists_trim (clean c)).choose = m
  rw [h.clean_eq]
  intro ht
  have hle := ht.le
  have hm : m = c.length := by
    rcases Nat.lt_or_ge m c.length with hlt | hge
    · exfalso
      have h1 : c[c.length - 1]? = some c[c.length - 1] := List.getElem?_eq_getElem (by omega)
      exact h.last _ (by omega) h1 (ht.rest (c.length - 1) _ (by omega) h1)
    · omega
  rw [hm, List.take_length, normGo_self c none h.norm]
theorem nrm_is {l : List Gl} (h8 : ∀ g ∈ l, 0 ≤ g.f1 ∧ g.f1 ≤ 255) : Nrml (nrm l) := by
  have hcl := clean_length l
  unfold nrm
  have hm := (exists_trim (clean l)).choose_spec
  revert hm
  generalize (exists_trim (clean l)).choose = m
  intro hm
  have hmle := hm.le
  have hC := clean_Cl l h8
  obtain ⟨c, hc⟩ : ∃ c, c = normGo none ((clean l).take m) := ⟨_, rfl⟩
  rw [← hc]
  have hclen : c.length = m := by rw [hc, normGo_length, List.length_take]; omega
  have hrunes : c.map (·.f0) = ((clean l).take m).map (·.f0) := by rw [hc, normGo_runes]
  have hf0 : ∀ (i : Nat) (g : Gl), c[i]? = some g → ∃ x, (clean l)[i]? = some x ∧ g.f0 = x.f0 := by
    intro i g hg
    have h1 := congrArg (fun z : List Int => z[i]?) hrunes
    simp only [List.getElem?_map, hg, Option.map_some] at h1
    have hi : i < m := by rw [← hclen]; exact (List.getElem?_eq_some_iff.1 hg).1
    rw [List.getElem?_take_of_lt hi, List.getElem?_eq_getElem (by omega)] at h1
    exact ⟨_, List.getElem?_eq_getElem (by omega), Option.some.inj h1⟩
  refine ⟨by rw [hc]; exact normGo_IsNorm _ _, fun g hg => ?_, fun h0 => ?_, fun g h0 hg => ?_⟩
  · obtain ⟨i, hi, rfl⟩ := List.getElem_of_mem hg
    obtain ⟨x, hx, e⟩ := hf0 i _ (List.getElem?_eq_getElem hi)
    have hxC := hC x (List.mem_of_getElem? hx)
    have hr : 0 ≤ (c[i]).f1 ∧ (c[i]).f1 ≤ 3 := by
      refine normGo_in ((clean l).take m) none (fun s e => by cases e) (fun y hy => ?_) c[i] (by rw [← hc]; exact hg)
      have := hC y (List.mem_of_mem_take hy)
      exact ⟨this.2.2.1, this.2.2.2.1⟩
    exact ⟨by rw [e]; exact hxC.1, by rw [e]; exact hxC.2.1, hr.1, hr.2, and3_self hr⟩
  · obtain ⟨x, hx, e⟩ := hf0 0 c[0] (List.getElem?_eq_getElem h0)
    obtain ⟨h1, h2⟩ := List.getElem?_eq_some_iff.1 hx
    rw [e, ← h2]
    exact clean_head l h1
  · obtain ⟨x, hx, e⟩ := hf0 _ g hg
    rw [hclen] at hx h0
    rw [e]
    exact hm.last x h0 hx
theorem nrm_nrm {l : List Gl} (h8 : ∀ g ∈ l, 0 ≤ g.f1 ∧ g.f1 ≤ 255) : nrm (nrm l) = nrm l := (nrm_is h8).self
end Go.Proofs.YtmeinakeiefcdaaDoor.Pure

/- The bytes of rows and lines, struck over: package over's. -/
namespace Go.Proofs.YtmeinakeiefcdaaDoor.Pure
open Go Go.RowKit Go.Proofs.YtmeinakeiefcdaaDoorW.PrintWords Go.Proofs.YtmeinakeiefcdaaDoorW.PrintLast Go.Proofs.YtmeinakeiefcdaaDoorW.PrintMore Go.Proofs.YtmeinakeiefcdaaDoor.X Go.Proofs.YtmeinakeiefcdaaDoor.Hand
set_option linter.unusedSimpArgs false
set_option linter.unusedVariables false
theorem row18_ev {l : List Gl} (hl : l.length ≤ 3000) (h : ∀ g ∈ l, 0 ≤ g.f1 ∧ g.f1 ≤ 255) : Ev (fun k => over_Row.f k l) (rowO (nrm l)) := by
  have hn := nrm_length l
  have hN := nrm_is h
  have hnl := normal_ev l (exists_trim (clean l)).choose_spec (by omega)
  change Ev _ (nrm l) at hnl
  unfold over_Row.f
  refine Ev.bind hnl ?_
  revert hn hN
  generalize nrm l = c
  intro hn hN
  refine ev_eq (loop_up (fun k o i => over_Row.l0 k o c (c.length : Int) i) c.length (fun o i => o ++ rowO (c.drop i)) (fun o i => o.length ≤ 20 * i) ?_ ?_ [] 0 (by omega) (by simp)) (by simp)
  · intro o _
    exact Ev.step (f := fun _ => some o) (fun k => by simp only [over_Row.l0]; rw [if_neg (by omega)]) (ev_eq (Ev.now _) (by simp [rowO]))
  · intro o i hi ho ih
    have hg := (hN.cl c[i] (List.getElem_mem hi))
    have hlen := oneV_length c[i]
    refine Ev.step (f := fun k => (over_One.f k c[i].f0 c[i].f1).bind fun t184 => (if o.length + t184.length < 140737488355328 then (over_Row.l0 k (o ++ t184) c (c.length : Int) ((i + 1 : Nat) : Int)) else (none))) (fun k => ?_) ?_
    · simp only [over_Row.l0]
      rw [if_pos (by omega), if_pos (by omega), if_pos (by omega), rdG c i hi, wrap_up hi (by omega)]
    · refine Ev.bind (over_one_ev c[i] ⟨hg.2.2.1, by have := hg.2.2.2.1; omega⟩) (ev_pos (by omega) (ev_eq (ih _ (by rw [List.length_append]; omega)) ?_))
      rw [List.drop_eq_getElem_cons hi, rowO_cons, List.append_assoc]
/-- The bytes of lines. -/
noncomputable def wO (rs : List (List Gl)) : List Int := (rs.map (fun r => rowO (nrm r) ++ [10])).flatten
theorem wO_drop (rs : List (List Gl)) (i : Nat) (h : i < rs.length) : wO (rs.drop i) = (rowO (nrm rs[i]) ++ [10]) ++ wO (rs.drop (i + 1)) := by
  unfold wO
  rw [List.drop_eq_getElem_cons h, List.map_cons, List.flatten_cons]
theorem wO_cons (r : List Gl) (t : List (List Gl)) : wO (r :: t) = rowO (nrm r) ++ 10 :: wO t := by simp [wO]
theorem wO_append (a b : List (List Gl)) : wO (a ++ b) = wO a ++ wO b := by simp [wO]
theorem wO_length : ∀ rs : List (List Gl), (∀ r ∈ rs, r.length ≤ 3000) → (wO rs).length ≤ 60001 * rs.length
  | [], _ => by simp [wO]
  | r :: t, h => by
    have h1 := wO_length t (fun x hx => h x (by simp [hx]))
    have h2 := h r (by simp)
    have h3 := rowO_length (nrm r)
    have h4 := nrm_length r
    rw [wO_cons, List.length_append, List.length_cons, List.length_cons]
    omega
theorem wO_Bytes (rs : List (List Gl)) : Bytes (wO rs) := by
  intro x hx
  unfold wO at hx
  obtain ⟨y, hy, hx⟩ := List.mem_flatten.1 hx
  obtain ⟨r, _, rfl⟩ := List.mem_map.1 hy
  rcases List.mem_append.1 hx with h | h
  · exact rowO_Bytes _ x h
  · rw [List.mem_singleton.1 h]
    decide
theorem prows_set18 {l : List Ln} (h : ∀ x ∈ l, Small x) : ∀ r ∈ prows l, ∀ g ∈ r, 0 ≤ g.f1 ∧ g.f1 ≤ 255 := by
  intro r hr
  obtain ⟨x, hx, rfl⟩ := List.mem_map.1 hr
  intro g hg
  have := ((nrm_is (flat_set (h x hx))).cl g hg)
  exact ⟨this.2.2.1, by have := this.2.2.2.1; omega⟩
theorem owrite_ev {l : List Ln} (hl : l.length ≤ 1000) (h : ∀ x ∈ l, Small x) : Ev (fun k => over_Write.f k l) (wO (prows l)) := by
  unfold over_Write.f
  refine Ev.bind (rows_ev hl h) ?_
  have hn := prows_length l
  have hsm := prows_small h
  have hst := prows_set18 h
  revert hn hsm hst
  generalize prows l = rs
  intro hn hsm hst
  refine ev_eq (loop_up (fun k o i => over_Write.l0 k o rs (rs.length : Int) i) rs.length (fun o i => o ++ wO (rs.drop i)) (fun o i => o.length ≤ 60001 * i) ?_ ?_ [] 0 (by omega) (by simp)) (by simp)
  · intro o _
    exact Ev.step (f := fun _ => some o) (fun k => by simp only [over_Write.l0]; rw [if_neg (by omega)]) (ev_eq (Ev.now _) (by simp [wO]))
  · intro o i hi ho ih
    have hr := hsm rs[i] (List.getElem_mem hi)
    have hlen := rowO_length (nrm rs[i])
    have hnl := nrm_length rs[i]
    refine Ev.step (f := fun k => (over_Row.f k rs[i]).bind fun t218 => (if o.length + t218.length < 140737488355328 then ((some (o ++ t218 : List Int)).bind fun y221 => (if y221.length < 140737488355328 then (over_Write.l0 k (y221 ++ [10]) rs (rs.length : Int) ((i + 1 : Nat) : Int)) else (none))) else (none))) (fun k => ?_) ?_
    · simp only [over_Write.l0]
      rw [if_pos (by omega), if_pos (by omega), if_pos (by omega), rdL rs i hi, wrap_up hi (by omega)]
    · refine Ev.bind (row18_ev hr (hst _ (List.getElem_mem hi))) (ev_pos (by omega) (ev_bind1 rfl (ev_pos (by rw [List.length_append]; omega) (ev_eq (ih _ (by simp only [List.length_append, List.length_singleton]; omega)) ?_))))
      rw [wO_drop rs i hi]
      simp only [List.append_assoc]
theorem prows_nrml {l : List Ln} (h : ∀ x ∈ l, Small x) : ∀ r ∈ prows l, Nrml r := by
  intro r hr
  obtain ⟨x, hx, rfl⟩ := List.mem_map.1 hr
  exact nrm_is (flat_set (h x hx))
end Go.Proofs.YtmeinakeiefcdaaDoor.Pure

/- The reference's test of a rune. -/
namespace Go.Proofs.YtmeinakeiefcdaaDoor.Pure
open Go Go.RowKit Go.Proofs.YtmeinakeiefcdaaDoorW.PrintWords Go.Proofs.YtmeinakeiefcdaaDoorW.PrintLast Go.Proofs.YtmeinakeiefcdaaDoorW.PrintMore Go.Proofs.YtmeinakeiefcdaaDoor.X Go.Proofs.YtmeinakeiefcdaaDoor.Hand
set_option linter.unusedSimpArgs false
set_option linter.unusedVariables false
theorem rvalid_eq (a : Int) : flongref02_Valid.f a = some (validB a) := by
  unfold flongref02_Valid.f
  by_cases h1 : a ≥ 0 <;> by_cases h2 : a < 1114112 <;> by_cases h3 : a < 55296 <;> simp only [h1, h2, h3, if_true, if_false] <;> congr 1 <;> (rw [Bool.eq_iff_iff]; simp [validB]; omega)
end Go.Proofs.YtmeinakeiefcdaaDoor.Pure

/- The references of layer 2 that look at one rune. -/
namespace Go.Proofs.YtmeinakeiefcdaaDoor.Pure
open Go.RowKit Go.Proofs.YtmeinakeiefcdaaDoorW.PrintWords Go.Proofs.YtmeinakeiefcdaaDoorW.PrintLast Go.Proofs.YtmeinakeiefcdaaDoorW.PrintMore Go.Proofs.YtmeinakeiefcdaaDoor.X Go.Proofs.YtmeinakeiefcdaaDoor.Hand
set_option linter.unusedSimpArgs false
set_option linter.unusedVariables false
theorem rcontrol_eq (a : Int) : flongref02_Control.f a = some (controlB a) := by
  unfold flongref02_Control.f
  by_cases h1 : a ≥ 0 <;> by_cases h2 : a ≤ 31 <;> by_cases h3 : a ≥ 127 <;> by_cases h4 : a ≤ 159 <;> by_cases h5 : a = 8232 <;> simp only [h1, h2, h3, h4, h5, if_true, if_false] <;> congr 1 <;> (rw [Bool.eq_iff_iff]; simp [controlB]; omega)
theorem rsafe_eq (a : Int) : flongref02_Safe.f a = some (safe a) := by
  unfold flongref02_Safe.f
  rw [rvalid_eq, Option.bind_some]
  by_cases h1 : validB a = true
  · rw [if_pos h1, rcontrol_eq, Option.bind_some]
    cases h2 : controlB a <;> simp [safe, h1, h2]
  · rw [if_neg h1]
    simp [safe, h1]
theorem within_step (r : Int) (ls : List Int) (n : Nat) (hn : ls.length = 2 * n) (hs : n ≤ 1000) (i : Nat) (hlt : i < n) (k : Nat) : flongref02_within.l0 (k + 1) r ls ((2 * i : Nat) : Int) =
    if r ≥ lowAt ls i then (if r ≤ highAt ls i then some true else flongref02_within.l0 k r ls ((2 * (i + 1) : Nat) : Int)) else flongref02_within.l0 k r ls ((2 * (i + 1) : Nat) : Int) := by
  have e0 : rd ls ((2 * i : Nat) : Int) = lowAt ls i := by
    rw [rd_nat ls (2 * i) (by omega)]
    simp [lowAt, List.getD_eq_getElem?_getD, Nat.mul_comm i 2, List.getElem?_eq_getElem (show 2 * i < ls.length by omega)]
  have e1 : rd ls (((2 * i : Nat) : Int) + 1) = highAt ls i := by
    rw [show ((2 * i : Nat) : Int) + 1 = ((2 * i + 1 : Nat) : Int) from by omega, rd_nat ls (2 * i + 1) (by omega)]
    simp [highAt, List.getD_eq_getElem?_getD, Nat.mul_comm i 2, List.getElem?_eq_getElem (show 2 * i + 1 < ls.length by omega)]
  simp only [flongref02_within.l0]
  rw [wrap_of (x := ((2 * i : Nat) : Int) + 1) (by omega) (by omega), wrap_of (x := ((2 * i : Nat) : Int) + 2) (by omega) (by omega), if_pos (by omega), if_pos (by omega), if_pos (by omega), e0, e1, show ((2 * i : Nat) : Int) + 2 = ((2 * (i + 1) : Nat) : Int) from by omega]
  split
  · rw [if_pos (by omega)]
  · rfl
theorem within_end (r : Int) (ls : List Int) (n : Nat) (hn : ls.length = 2 * n) (hs : n ≤ 1000) (k : Nat) : flongref02_within.l0 (k + 1) r ls ((2 * n : Nat) : Int) = some false := by
  simp only [flongref02_within.l0]
  rw [wrap_of (by omega) (by omega), if_neg (by omega)]
theorem part_range (r : Int) (ls : List Int) (n i : Nat) (hlt : i < n) : (∃ j, i ≤ j ∧ j < n ∧ lowAt ls j ≤ r ∧ r ≤ highAt ls j) ↔ (lowAt ls i ≤ r ∧ r ≤ highAt ls i) ∨ ∃ j, i + 1 ≤ j ∧ j < n ∧ lowAt ls j ≤ r ∧ r ≤ highAt ls j := by
  constructor
  · rintro ⟨j, h1, h2, h3⟩
    by_cases e : j = i
    · subst e; exact .inl h3
    · exact .inr ⟨j, by omega, h2, h3⟩
  · rintro (h | ⟨j, h1, h2, h3⟩)
    · exact ⟨i, Nat.le_refl _, hlt, h⟩
    · exact ⟨j, by omega, h2, h3⟩
theorem within_l (r : Int) (ls : List Int) (n : Nat) (hn : ls.length = 2 * n) (hs : n ≤ 1000) : ∀ (d i : Nat), n - i = d → i ≤ n → ∀ b : Bool, (b = true ↔ ∃ j, i ≤ j ∧ j < n ∧ lowAt ls j ≤ r ∧ r ≤ highAt ls j) → Ev (fun k => flongref02_within.l0 k r ls ((2 * i : Nat) : Int)) b := by
  intro d
  induction d with
  | zero =>
    intro i hd hi b hb
    obtain rfl : i = n := by clear hb; omega
    refine Ev.step (f := fun _ => some false) (fun k => within_end r ls i hn hs k) (ev_eq (Ev.now _) ?_)
    cases b with
    | false => rfl
    | true =>
      obtain ⟨j, h1, h2, _⟩ := hb.1 rfl
      exact absurd h2 (Nat.not_lt.2 h1)
  | succ d ih =>
    intro i hd hi b hb
    have hlt : i < n := by clear hb; omega
    have hnext := ih (i + 1) (by clear hb; omega) (by clear hb; omega)
    refine Ev.step (within_step r ls n hn hs i hlt) ?_
    refine ev_ite (fun h => ev_ite (fun h' => ev_eq (Ev.now _) ?_) (fun h' => hnext b ?_)) (fun h => hnext b ?_)
    · exact ((hb.trans (part_range r ls n i hlt)).2 (.inl ⟨h, h'⟩)).symm
    · rw [hb, part_range r ls n i hlt]
      exact ⟨fun z => z.resolve_left (fun q => h' q.2), .inr⟩
    · rw [hb, part_range r ls n i hlt]
      exact ⟨fun z => z.resolve_left (fun q => h q.1), .inr⟩
theorem within_ev (r : Int) (ls : List Int) (n : Nat) (hn : ls.length = 2 * n) (hs : n ≤ 1000) : Ev (fun k => flongref02_within.f k r ls) (inRange ls n r) := by
  unfold flongref02_within.f
  refine within_l r ls n hn hs n 0 (by omega) (by omega) _ ?_
  rw [inRange_true]
  constructor
  · rintro ⟨j, h2, h3⟩; exact ⟨j, Nat.zero_le _, h2, h3⟩
  · rintro ⟨j, _, h2, h3⟩; exact ⟨j, h2, h3⟩
theorem rwidth_ev (r : Int) : Ev (fun k => flongref02_Width.f k r) (wid r) := by
  have hj : ∀ b : Bool, Ev (fun k => flongref02_Width.j0 k r b) (if b = true then 0 else if inRange noneL 12 r = true then 0 else if inRange wideL 16 r = true then 2 else 1) := by
    intro b
    refine Ev.step (f := fun k => if b = true then some 0 else ((flongref02_within.f k r noneL).bind fun t => if t = true then some 0 else ((flongref02_within.f k r wideL).bind fun t => if t = true then some 2 else some 1))) (fun k => by simp only [flongref02_Width.j0, noneL, wideL]) ?_
    refine ev_ite (fun h => ev_eq (Ev.now _) (by simp [h])) (fun h => Ev.bind (within_ev r noneL 12 rfl (by omega)) (ev_ite (fun h1 => ev_eq (Ev.now _) (by simp [h, h1])) (fun h1 => Ev.bind (within_ev r wideL 16 rfl (by omega)) (ev_ite (fun h2 => ev_eq (Ev.now _) (by simp [h, h1, h2])) (fun h2 => ev_eq (Ev.now _) (by simp [h, h1, h2]))))))
  unfold flongref02_Width.f
  refine ev_bind1 (rvalid_eq r) (ev_ite (fun h => ev_bind1 (rcontrol_eq r) (ev_eq (hj _) ?_)) (fun h => ev_eq (hj _) ?_))
  · simp [wid, h]
  · simp [wid, h]
end Go.Proofs.YtmeinakeiefcdaaDoor.Pure

/- The reference: what may be written of a row. -/
namespace Go.Proofs.YtmeinakeiefcdaaDoor.Pure
open Go.RowKit Go.Proofs.YtmeinakeiefcdaaDoorW.PrintWords Go.Proofs.YtmeinakeiefcdaaDoorW.PrintLast Go.Proofs.YtmeinakeiefcdaaDoorW.PrintMore Go.Proofs.YtmeinakeiefcdaaDoor.X Go.Proofs.YtmeinakeiefcdaaDoor.Hand
set_option linter.unusedSimpArgs false
set_option linter.unusedVariables false
theorem tmod4 {x : Int} (h : 0 ≤ x ∧ x ≤ 255) : Int.tmod x 4 = Go.bits .and .u8 x 3 := by
  have h1 : ∀ n : Nat, n < 256 → Int.tmod (n : Int) 4 = Go.bits .and .u8 (n : Int) 3 := by decide +kernel
  obtain ⟨n, rfl⟩ := Int.eq_ofNat_of_zero_le h.1
  exact h1 n (by omega)
theorem safe_32 : safe 32 = 32 := by decide +kernel
theorem rclean_ev (l : List Gl) (h : l.length ≤ 5000) (h8 : ∀ g ∈ l, 0 ≤ g.f1 ∧ g.f1 ≤ 255) : Ev (fun k => flongref03_Clean.f k l) (clean l) := by
  unfold flongref03_Clean.f
  refine ev_eq (loop_up (fun k o i => flongref03_Clean.l0 k l o i) l.length (fun o i => if o = [] then clean (l.drop i) else o ++ (l.drop i).map cleanG) (fun o i => o.length ≤ i) ?_ ?_ [] 0 (by omega) (by simp)) (by simp)
  · intro o _
    refine Ev.step (f := fun _ => some o) (fun k => by simp only [flongref03_Clean.l0]; rw [if_neg (by omega)]) (ev_eq (Ev.now _) ?_)
    rw [List.drop_length]
    split
    · rename_i e
      rw [e]
      rfl
    · simp
  · intro o i hi ho ih
    have h1 : Ev (fun k => flongref03_Clean.l0 k l (o ++ [cleanG l[i]]) ((i + 1 : Nat) : Int)) (o ++ cleanG l[i] :: (l.drop (i + 1)).map cleanG) := by
      refine ev_eq (ih (o ++ [cleanG l[i]]) (by simp; omega)) ?_
      rw [if_neg (by simp), List.append_assoc]
      rfl
    have hst : Int.tmod l[i].f1 4 = Go.bits .and .u8 l[i].f1 3 := tmod4 (h8 l[i] (List.getElem_mem hi))
    have hj : ∀ x : Int, cleanG l[i] = ⟨x, Int.tmod l[i].f1 4⟩ → Ev (fun k => if (o.length : Int) > 0 then (if o.length < 17592186044416 then flongref03_Clean.l0 k l (o ++ [(⟨x, Int.tmod l[i].f1 4⟩ : Gl)]) ((i + 1 : Nat) : Int) else none) else ((flongref02_Width.f k x).bind fun t => if t > 0 then (if o.length < 17592186044416 then flongref03_Clean.l0 k l (o ++ [(⟨x, Int.tmod l[i].f1 4⟩ : Gl)]) ((i + 1 : Nat) : Int) else none) else flongref03_Clean.l0 k l o ((i + 1 : Nat) : Int))) (if o = [] then clean (l.drop i) else o ++ (l.drop i).map cleanG) := by
      intro x hx
      rw [← hx]
      refine ev_ite (fun hc => ev_pos (by omega) (ev_eq h1 ?_)) (fun hc => ?_)
      · rw [if_neg (by intro e; rw [e] at hc; simp at hc), List.drop_eq_getElem_cons hi, List.map_cons]
      · obtain rfl : o = [] := by
          rcases o with _ | ⟨_, _⟩
          · rfl
          · exfalso
            apply hc
            simp only [List.length_cons]
            omega
        rw [if_pos rfl]
        have hw : wid x = wid (cleanG l[i]).f0 := by rw [hx]
        refine Ev.bind (rwidth_ev x) ?_
        rw [hw]
        refine ev_ite (fun hp => ev_pos (by simp) (ev_eq h1 ?_)) (fun hp => ev_eq (ih [] (by simp)) ?_)
        · rw [List.drop_eq_getElem_cons hi, clean, List.map_cons, List.dropWhile_cons, if_neg (by simp [hp])]
          rfl
        · rw [if_pos rfl, List.drop_eq_getElem_cons hi, clean, clean, List.map_cons, List.dropWhile_cons, if_pos (by simp [hp])]
    by_cases hc : l[i].f0 = 160
    · refine Ev.step (f := fun k => if (o.length : Int) > 0 then (if o.length < 17592186044416 then flongref03_Clean.l0 k l (o ++ [(⟨32, Int.tmod l[i].f1 4⟩ : Gl)]) ((i + 1 : Nat) : Int) else none) else ((flongref02_Width.f k 32).bind fun t => if t > 0 then (if o.length < 17592186044416 then flongref03_Clean.l0 k l (o ++ [(⟨32, Int.tmod l[i].f1 4⟩ : Gl)]) ((i + 1 : Nat) : Int) else none) else flongref03_Clean.l0 k l o ((i + 1 : Nat) : Int))) (fun k => ?_) (hj 32 ?_)
      · simp only [flongref03_Clean.l0]
        rw [if_pos (by omega), if_pos (by omega), rdG l i hi, rsafe_eq, Option.bind_some, if_pos hc, wrap_up hi (by omega)]
      · rw [cleanG, if_pos hc, safe_32, hst]
    · refine Ev.step (f := fun k => if (o.length : Int) > 0 then (if o.length < 17592186044416 then flongref03_Clean.l0 k l (o ++ [(⟨safe l[i].f0, Int.tmod l[i].f1 4⟩ : Gl)]) ((i + 1 : Nat) : Int) else none) else ((flongref02_Width.f k (safe l[i].f0)).bind fun t => if t > 0 then (if o.length < 17592186044416 then flongref03_Clean.l0 k l (o ++ [(⟨safe l[i].f0, Int.tmod l[i].f1 4⟩ : Gl)]) ((i + 1 : Nat) : Int) else none) else flongref03_Clean.l0 k l o ((i + 1 : Nat) : Int))) (fun k => ?_) (hj (safe l[i].f0) ?_)
      · simp only [flongref03_Clean.l0]
        rw [if_pos (by omega), if_pos (by omega), rdG l i hi, rsafe_eq, Option.bind_some, if_neg hc, wrap_up hi (by omega)]
      · rw [cleanG, if_neg hc, hst]
end Go.Proofs.YtmeinakeiefcdaaDoor.Pure

/- The reference: a row trimmed. -/
namespace Go.Proofs.YtmeinakeiefcdaaDoor.Pure
open Go.RowKit Go.Proofs.YtmeinakeiefcdaaDoorW.PrintWords Go.Proofs.YtmeinakeiefcdaaDoorW.PrintLast Go.Proofs.YtmeinakeiefcdaaDoorW.PrintMore Go.Proofs.YtmeinakeiefcdaaDoor.X Go.Proofs.YtmeinakeiefcdaaDoor.Hand
set_option linter.unusedSimpArgs false
set_option linter.unusedVariables false
theorem rtrim_ev {l : List Gl} {m : Nat} (hm : IsTrim l m) (h : l.length ≤ 5000) : Ev (fun k => flongref03_Trim.f k l) (l.take m) := by
  have hle := hm.le
  have hend : (if 0 ≤ (m : Int) then (if (m : Int) ≤ (l.length : Int) then (some (l.take (m : Int).toNat)) else (none)) else (none)) = some (l.take m) := by
    rw [if_pos (by omega), if_pos (by omega), Int.toNat_natCast]
  have key : ∀ d n, n - m = d → m ≤ n → n ≤ l.length → Ev (fun k => flongref03_Trim.l0 k l (n : Int)) (l.take m) := by
    intro d
    induction d with
    | zero =>
      intro n hd h1 h2
      obtain rfl : n = m := by omega
      refine Ev.step (f := fun _ => some (l.take n)) (fun k => ?_) (Ev.now _)
      simp only [flongref03_Trim.l0]
      by_cases hp : 0 < n
      · have hg := hm.last l[n - 1] hp (List.getElem?_eq_getElem (by omega))
        rw [if_pos (by omega), wrap_of (by omega) (by omega), show (n : Int) - 1 = ((n - 1 : Nat) : Int) by omega, if_pos (by omega), if_pos (by omega), rdG l (n - 1) (by omega), if_neg hg, hend]
      · rw [if_neg (by omega), hend]
    | succ d ih =>
      intro n hd h1 h2
      have hg := hm.rest (n - 1) (l[n - 1]'(by omega)) (by omega) (List.getElem?_eq_getElem (by omega))
      refine Ev.step (f := fun k => flongref03_Trim.l0 k l ((n - 1 : Nat) : Int)) (fun k => ?_) (ih (n - 1) (by omega) (by omega) (by omega))
      simp only [flongref03_Trim.l0]
      rw [if_pos (by omega), wrap_of (by omega) (by omega), show (n : Int) - 1 = ((n - 1 : Nat) : Int) by omega, if_pos (by omega), if_pos (by omega), rdG l (n - 1) (by omega), if_pos hg]
  unfold flongref03_Trim.f
  exact key (l.length - m) l.length rfl hle (Nat.le_refl _)
end Go.Proofs.YtmeinakeiefcdaaDoor.Pure

/- The reference: a row made normal. -/
namespace Go.Proofs.YtmeinakeiefcdaaDoor.Pure
open Go.RowKit Go.Proofs.YtmeinakeiefcdaaDoorW.PrintWords Go.Proofs.YtmeinakeiefcdaaDoorW.PrintLast Go.Proofs.YtmeinakeiefcdaaDoorW.PrintMore Go.Proofs.YtmeinakeiefcdaaDoor.X Go.Proofs.YtmeinakeiefcdaaDoor.Hand
set_option linter.unusedSimpArgs false
set_option linter.unusedVariables false
theorem rnormal_ev (l : List Gl) {m : Nat} (hm : IsTrim (clean l) m) (h : l.length ≤ 5000) (h8 : ∀ g ∈ l, 0 ≤ g.f1 ∧ g.f1 ≤ 255) : Ev (fun k => flongref17_Normal.f k l) (normGo none ((clean l).take m)) := by
  have hcl := clean_length l
  unfold flongref17_Normal.f
  refine Ev.bind (rclean_ev l h h8) (Ev.bind (rtrim_ev hm (by omega)) ?_)
  have hlen : ((clean l).take m).length ≤ 1000000 := by rw [List.length_take]; omega
  generalize (clean l).take m = c at hlen
  refine ev_eq (loop_up (fun k o i => flongref17_Normal.l0 k c o i) c.length (fun o i => o ++ normGo (lastS o) (c.drop i)) (fun o i => o.length = i) ?_ ?_ [] 0 (by omega) rfl) (by simp [lastS])
  · intro o ho
    refine Ev.step (f := fun _ => some o) (fun k => by simp only [flongref17_Normal.l0]; rw [if_neg (by omega)]) (ev_eq (Ev.now _) ?_)
    rw [List.drop_length, normGo, List.append_nil]
  · intro o i hi ho ih
    have hnext : ∀ x : Gl, x = ⟨c[i].f0, setOf (lastS o) c[i]⟩ → Ev (fun k => flongref17_Normal.l0 k c (o ++ [x]) ((i + 1 : Nat) : Int)) (o ++ normGo (lastS o) (c.drop i)) := by
      intro x hx
      refine ev_eq (ih (o ++ [x]) (by simp [ho])) ?_
      rw [List.drop_eq_getElem_cons hi, lastS_snoc, normGo, hx, List.append_assoc]
      rfl
    have hj : ∀ b : Bool, (b = true ↔ (o ≠ [] ∧ wid c[i].f0 = 0)) → Ev (fun k => flongref17_Normal.j1 k c o (i : Int) b c[i].f0 c[i].f1) (o ++ normGo (lastS o) (c.drop i)) := by
      intro b hb
      by_cases h32 : c[i].f0 = 32
      · have hn := hnext ⟨c[i].f0, 0⟩ (by simp [setOf, h32])
        refine Ev.step (fun k => ?_) hn
        simp only [flongref17_Normal.j1]
        cases b with
        | false => rw [if_neg (by simp), if_pos h32, if_pos (by omega), wrap_up hi (by omega)]
        | true =>
          have ho0 : o ≠ [] := (hb.1 rfl).1
          have := List.length_pos_iff.2 ho0
          rw [if_pos rfl, wrap_of (by omega) (by omega), if_pos (by omega), if_pos (by omega), if_pos h32, if_pos (by omega), wrap_up hi (by omega)]
      · cases b with
        | false =>
          have hz : ¬ (o ≠ [] ∧ wid c[i].f0 = 0) := fun e => by simpa using hb.2 e
          have hn := hnext ⟨c[i].f0, c[i].f1⟩ (by
            rcases List.eq_nil_or_concat o with e | ⟨o', y, e⟩
            · simp [setOf, h32, e, lastS]
            · have hne : o ≠ [] := by rw [e]; simp
              have hw : ¬ wid c[i].f0 = 0 := fun e2 => hz ⟨hne, e2⟩
              rw [List.concat_eq_append] at e
              simp [setOf, h32, e, lastS_snoc, hw])
          refine Ev.step (fun k => ?_) hn
          simp only [flongref17_Normal.j1]
          rw [if_neg (by simp), if_neg h32, if_pos (by omega), wrap_up hi (by omega)]
        | true =>
          obtain ⟨ho0, hw⟩ := hb.1 rfl
          rcases List.eq_nil_or_concat o with e | ⟨o', y, e⟩
          · exact absurd e ho0
          · rw [List.concat_eq_append] at e
            have hol : o.length = o'.length + 1 := by rw [e]; simp
            have hy : rd_T35 o ((i - 1 : Nat) : Int) = y := by
              rw [rdG _ _ (by omega)]
              have : i - 1 = o'.length := by omega
              simp [e, this]
            have hn := hnext ⟨c[i].f0, y.f1⟩ (by rw [e]; simp [setOf, h32, lastS_snoc, hw])
            refine Ev.step (fun k => ?_) hn
            simp only [flongref17_Normal.j1]
            rw [if_pos trivial, wrap_of (by omega) (by omega), show (i : Int) - 1 = ((i - 1 : Nat) : Int) by omega, if_pos (by omega), if_pos (by omega), if_neg h32, if_pos (by omega), hy, wrap_up hi (by omega)]
    by_cases h0 : 0 < i
    · have hne : o ≠ [] := by intro e; rw [e] at ho; simp at ho; omega
      refine Ev.step (f := fun k => (flongref02_Width.f k c[i].f0).bind fun t => flongref17_Normal.j1 k c o (i : Int) (t == 0) c[i].f0 c[i].f1) (fun k => ?_) (Ev.bind (rwidth_ev _) (hj _ (by simp [hne])))
      simp only [flongref17_Normal.l0]
      rw [if_pos (by omega), if_pos (by omega), if_pos (by omega), rdG c i hi]
    · have he : o = [] := List.eq_nil_of_length_eq_zero (by omega)
      refine Ev.step (f := fun k => flongref17_Normal.j1 k c o (i : Int) false c[i].f0 c[i].f1) (fun k => ?_) (hj false (by simp [he]))
      simp only [flongref17_Normal.l0]
      rw [if_pos (by omega), if_pos (by omega), if_neg (by omega), rdG c i hi]
end Go.Proofs.YtmeinakeiefcdaaDoor.Pure

/- The reference's bytes of one rune. -/
namespace Go.Proofs.YtmeinakeiefcdaaDoor.Pure
open Go.RowKit Go.Proofs.YtmeinakeiefcdaaDoorW.PrintWords Go.Proofs.YtmeinakeiefcdaaDoorW.PrintLast Go.Proofs.YtmeinakeiefcdaaDoorW.PrintMore Go.Proofs.YtmeinakeiefcdaaDoor.X Go.Proofs.YtmeinakeiefcdaaDoor.Hand
set_option linter.unusedSimpArgs false
set_option linter.unusedVariables false

theorem rone_j {x : Int} (h : validB x = true) : Ev (fun k => flongref02_One.j0 k x) (enc x) := by
  have h' := (validB_iff x).1 h
  have t64 : Int.tdiv x 64 = x / 64 := Int.tdiv_eq_ediv_of_nonneg (by omega)
  have t4096 : Int.tdiv x 4096 = x / 4096 := Int.tdiv_eq_ediv_of_nonneg (by omega)
  have t26 : Int.tdiv x 262144 = x / 262144 := Int.tdiv_eq_ediv_of_nonneg (by omega)
  have m : ∀ y : Int, 0 ≤ y → Int.tmod y 64 = y % 64 := fun y hy => Int.tmod_eq_emod_of_nonneg hy
  refine Ev.step (f := fun _ => some (enc x)) (fun k => ?_) (Ev.now _)
  simp only [flongref02_One.j0, enc, t64, t4096, t26]
  rw [wrap_of (x := x / 64) (by omega) (by omega), wrap_of (x := x / 4096) (by omega) (by omega), wrap_of (x := x / 262144) (by omega) (by omega), m x (by omega), m (x / 64) (by omega), m (x / 4096) (by omega),
    wrap_of (x := 192 + x / 64) (by omega) (by omega), wrap_of (x := 224 + x / 4096) (by omega) (by omega), wrap_of (x := 240 + x / 262144) (by omega) (by omega), wrap_of (x := 128 + x % 64) (by omega) (by omega), wrap_of (x := 128 + x / 64 % 64) (by omega) (by omega), wrap_of (x := 128 + x / 4096 % 64) (by omega) (by omega)]
  split
  · rw [show x % 256 = x from by omega]
  · split
    · rw [show (192 + x / 64) % 256 = 192 + x / 64 from by omega, show (128 + x % 64) % 256 = 128 + x % 64 from by omega]
    · split
      · rw [show (224 + x / 4096) % 256 = 224 + x / 4096 from by omega, show (128 + x % 64) % 256 = 128 + x % 64 from by omega, show (128 + x / 64 % 64) % 256 = 128 + x / 64 % 64 from by omega]
      · rw [show (240 + x / 262144) % 256 = 240 + x / 262144 from by omega, show (128 + x % 64) % 256 = 128 + x % 64 from by omega, show (128 + x / 64 % 64) % 256 = 128 + x / 64 % 64 from by omega, show (128 + x / 4096 % 64) % 256 = 128 + x / 4096 % 64 from by omega]
theorem rone_ev (r : Int) : Ev (fun k => flongref02_One.f k r) (one r) := by
  unfold flongref02_One.f
  refine ev_bind1 (rvalid_eq r) (ev_ite (fun h => ?_) (fun h => ?_))
  · have h' := (validB_iff r).1 h
    rw [wrap_of (by omega) (by omega)]
    exact ev_eq (rone_j h) (by simp [one, h])
  · exact ev_eq (rone_j valid_odd) (by simp [one, h])
end Go.Proofs.YtmeinakeiefcdaaDoor.Pure

/- The bytes of a glyph and of a row, struck over: the reference's. -/
namespace Go.Proofs.YtmeinakeiefcdaaDoor.Pure
open Go Go.RowKit Go.Proofs.YtmeinakeiefcdaaDoorW.PrintWords Go.Proofs.YtmeinakeiefcdaaDoorW.PrintLast Go.Proofs.YtmeinakeiefcdaaDoorW.PrintMore Go.Proofs.YtmeinakeiefcdaaDoor.X Go.Proofs.YtmeinakeiefcdaaDoor.Hand
set_option linter.unusedSimpArgs false
set_option linter.unusedVariables false
theorem times_ev (x : Int) (n : Nat) (h : n ≤ 1000) : Ev (fun k => flongref18_times.f k (strOfNums [x]) (n : Int)) (strOfNums (List.replicate n x)) := by
  unfold flongref18_times.f
  have h0 : (⟨#[]⟩ : ByteArray) = strOfNums [] := by decide +kernel
  rw [h0]
  refine loop_up (fun k o i => flongref18_times.l0 k (strOfNums [x]) (n : Int) o i) n (fun _ _ => strOfNums (List.replicate n x)) (fun o i => o = strOfNums (List.replicate i x)) ?_ ?_ _ 0 (by omega) rfl
  · intro o ho
    exact Ev.step (f := fun _ => some o) (fun k => by simp only [flongref18_times.l0]; rw [if_neg (by omega)]) (ev_eq (Ev.now _) ho)
  · intro o i hi ho ih
    subst ho
    refine Ev.step (f := fun k => flongref18_times.l0 k (strOfNums [x]) (n : Int) (strOfNums (List.replicate i x) ++ strOfNums [x]) ((i + 1 : Nat) : Int)) (fun k => ?_) (ih _ ?_)
    · simp only [flongref18_times.l0]
      rw [if_pos (by omega), if_pos (by rw [numsStr_size, numsStr_size, List.length_replicate]; simp; omega), wrap_up hi (by omega)]
    · rw [← numsStr_append, List.replicate_succ']
theorem s95 : (⟨#[95]⟩ : ByteArray) = strOfNums [95] := by decide +kernel
theorem s8 : (⟨#[8]⟩ : ByteArray) = strOfNums [8] := by decide +kernel
theorem s0 : (⟨#[]⟩ : ByteArray) = strOfNums [] := by decide +kernel
theorem conv_now {b : List Int} (hb : Bytes b) (h : b.length ≤ 1000000) : conv_bytes.f (strOfNums b) = some b := by
  unfold conv_bytes.f
  rw [if_pos (by rw [numsStr_size]; omega), numsStr_back hb]
def tailO (e : List Int) (r : Int) (n : Nat) (f : Int) : List Int := (if 0 < n ∧ r ≠ 32 ∧ Int.tmod f 2 = 1 then e ++ List.replicate n 8 else []) ++ e
theorem rep_Bytes (n : Nat) (x : Int) (h : 0 ≤ x ∧ x ≤ 255) : Bytes (List.replicate n x) := fun y hy => by rw [List.eq_of_mem_replicate hy]; exact h
theorem rone_j1 (r : Int) (e : List Int) (n : Nat) (hn : n ≤ 2) (he : Bytes e) (hl : e.length ≤ 4) (sl : Bool) (a f : Int) :
    Ev (fun k => flongref18_One.j1 k r (strOfNums e) (n : Int) ⟨#[]⟩ sl a f) ((if sl = true then List.replicate n 95 ++ List.replicate n 8 else []) ++ tailO e r n f) := by
  have h95 : Bytes (List.replicate n (95 : Int)) := rep_Bytes n 95 (by decide)
  have h8 : Bytes (List.replicate n (8 : Int)) := rep_Bytes n 8 (by decide)
  have hT : ∀ o : List Int, Bytes o → o.length ≤ 1000 → Ev (fun k => if (n : Int) > 0 then (if r = 32 then (if (strOfNums o).size + (strOfNums e).size ≤ 9223372036854775807 then ((conv_bytes.f (strOfNums o ++ strOfNums e)).bind fun t => some t) else none) else (if Int.tmod f 2 = 1 then (if (strOfNums o).size + (strOfNums e).size ≤ 9223372036854775807 then ((flongref18_times.f k (⟨#[8]⟩ : ByteArray) (n : Int)).bind fun t353 => (if (strOfNums o ++ strOfNums e).size + t353.size ≤ 9223372036854775807 then (if ((strOfNums o ++ strOfNums e) ++ t353).size + (strOfNums e).size ≤ 9223372036854775807 then ((conv_bytes.f (((strOfNums o ++ strOfNums e) ++ t353) ++ strOfNums e)).bind fun t => some t) else none) else none)) else none) else (if (strOfNums o).size + (strOfNums e).size ≤ 9223372036854775807 then ((conv_bytes.f (strOfNums o ++ strOfNums e)).bind fun t => some t) else none))) else (if (strOfNums o).size + (strOfNums e).size ≤ 9223372036854775807 then ((conv_bytes.f (strOfNums o ++ strOfNums e)).bind fun t => some t) else none)) (o ++ tailO e r n f) := by
    intro o ho hol
    have hplain : Ev (fun _ : Nat => if (strOfNums o).size + (strOfNums e).size ≤ 9223372036854775807 then ((conv_bytes.f (strOfNums o ++ strOfNums e)).bind fun t => some t) else none) (o ++ e) := by
      refine ev_pos (by rw [numsStr_size, numsStr_size]; omega) ?_
      rw [← numsStr_append]
      exact ev_bind1 (conv_now (bytes_append ho he) (by rw [List.length_append]; omega)) (Ev.now _)
    refine ev_ite (fun h0 => ev_ite (fun h32 => ?_) (fun h32 => ev_ite (fun hf => ?_) (fun hf => ?_))) (fun h0 => ?_)
    · refine ev_eq hplain ?_
      rw [tailO, if_neg (by omega), List.nil_append]
    · rw [s8]
      refine ev_pos (by rw [numsStr_size, numsStr_size]; omega) (Ev.bind (times_ev 8 n (by omega)) ?_)
      rw [← numsStr_append, ← numsStr_append, ← numsStr_append]
      refine ev_pos (by rw [numsStr_size, numsStr_size, List.length_append, List.length_replicate]; omega) (ev_pos (by rw [numsStr_size, numsStr_size]; simp only [List.length_append, List.length_replicate]; omega) ?_)
      refine ev_bind1 (conv_now (bytes_append (bytes_append (bytes_append ho he) h8) he) (by simp only [List.length_append, List.length_replicate]; omega)) (ev_eq (Ev.now _) ?_)
      rw [tailO, if_pos ⟨by omega, h32, hf⟩]
      simp only [List.append_assoc]
    · refine ev_eq hplain ?_
      rw [tailO, if_neg (fun x => hf x.2.2), List.nil_append]
    · refine ev_eq hplain ?_
      rw [tailO, if_neg (by omega), List.nil_append]
  cases sl with
  | true =>
    refine Ev.step (f := fun k => (flongref18_times.f k (⟨#[95]⟩ : ByteArray) (n : Int)).bind fun t348 => ((flongref18_times.f k (⟨#[8]⟩ : ByteArray) (n : Int)).bind fun t349 => (if t348.size + t349.size ≤ 9223372036854775807 then (if (n : Int) > 0 then (if r = 32 then (if (t348 ++ t349).size + (strOfNums e).size ≤ 9223372036854775807 then ((conv_bytes.f ((t348 ++ t349) ++ strOfNums e)).bind fun t350 => (some t350)) else (none)) else (if (Int.tmod f 2) = 1 then (if (t348 ++ t349).size + (strOfNums e).size ≤ 9223372036854775807 then ((flongref18_times.f k (⟨#[8]⟩ : ByteArray) (n : Int)).bind fun t353 => (if ((t348 ++ t349) ++ strOfNums e).size + t353.size ≤ 9223372036854775807 then (if (((t348 ++ t349) ++ strOfNums e) ++ t353).size + (strOfNums e).size ≤ 9223372036854775807 then ((conv_bytes.f ((((t348 ++ t349) ++ strOfNums e) ++ t353) ++ strOfNums e)).bind fun t354 => (some t354)) else (none)) else (none))) else (none)) else (if (t348 ++ t349).size + (strOfNums e).size ≤ 9223372036854775807 then ((conv_bytes.f ((t348 ++ t349) ++ strOfNums e)).bind fun t357 => (some t357)) else (none)))) else (if (t348 ++ t349).size + (strOfNums e).size ≤ 9223372036854775807 then ((conv_bytes.f ((t348 ++ t349) ++ strOfNums e)).bind fun t360 => (some t360)) else (none))) else (none)))) (fun k => by simp only [flongref18_One.j1]; rw [if_pos trivial]) ?_
    rw [if_pos rfl]
    refine Ev.bind (ev_eq (times_ev 95 n (by omega)) rfl) (Ev.bind (times_ev 8 n (by omega)) (ev_pos (by rw [numsStr_size, numsStr_size, List.length_replicate, List.length_replicate]; omega) ?_))
    rw [← numsStr_append]
    exact hT _ (bytes_append h95 h8) (by rw [List.length_append, List.length_replicate, List.length_replicate]; omega)
  | false =>
    have := hT [] (fun x hx => by simp at hx) (by simp)
    rw [← s0] at this
    rw [if_neg (by simp)]
    exact Ev.step (fun k => by simp only [flongref18_One.j1]; rw [if_neg (by simp)]) this
theorem f4 {f : Int} (h : 0 ≤ f ∧ f ≤ 255) : Go.bits .and .u8 f 3 = f % 4 := by
  rw [← tmod4 h, Int.tmod_eq_emod_of_nonneg h.1]
theorem rone18_ev (g : Gl) (h : 0 ≤ g.f1 ∧ g.f1 ≤ 255) : Ev (fun k => flongref18_One.f k g.f0 g.f1) (oneV g) := by
  have hwr := wid_range (cleanG g).f0
  have hol := one_len (cleanG g).f0
  have hf : (cleanG g).f1 = g.f1 % 4 := f4 h
  have ht2 : Int.tmod g.f1 2 = g.f1 % 2 := Int.tmod_eq_emod_of_nonneg h.1
  have hd2 : ((Int.tdiv g.f1 2) % 256) % 2 = g.f1 / 2 % 2 := by rw [Int.tdiv_eq_ediv_of_nonneg h.1]; omega
  have hj : Ev (fun k => flongref18_One.j0 k (cleanG g).f0 g.f0 g.f1) (oneV g) := by
    obtain ⟨n, hn⟩ : ∃ n : Nat, wid (cleanG g).f0 = n := ⟨(wid (cleanG g).f0).toNat, by omega⟩
    refine Ev.step (f := fun k => (flongref02_One.f k (cleanG g).f0).bind fun t344 => ((flongref02_Width.f k (cleanG g).f0).bind fun t347 => (if t347 > 0 then (if (cleanG g).f0 = 32 then (flongref18_One.j1 k (cleanG g).f0 (strOfNums t344) t347 (⟨#[]⟩ : ByteArray) false g.f0 g.f1) else (flongref18_One.j1 k (cleanG g).f0 (strOfNums t344) t347 (⟨#[]⟩ : ByteArray) ((((Int.tdiv g.f1 2) % 256) % 2) == 1) g.f0 g.f1)) else (flongref18_One.j1 k (cleanG g).f0 (strOfNums t344) t347 (⟨#[]⟩ : ByteArray) false g.f0 g.f1)))) (fun k => by simp only [flongref18_One.j0]) ?_
    refine Ev.bind (rone_ev _) (Ev.bind (rwidth_ev _) ?_)
    rw [hn]
    have hj1 := fun sl => rone_j1 (cleanG g).f0 (one (cleanG g).f0) n (by omega) (one_Bytes _) (by omega) sl g.f0 g.f1
    refine ev_ite (fun hw => ev_ite (fun h32 => ?_) (fun h32 => ?_)) (fun hw => ?_)
    · refine ev_eq (hj1 false) ?_
      rw [if_neg (by simp), List.nil_append, tailO, if_neg (by omega), List.nil_append, oneV, if_pos (.inr h32)]
    · refine ev_eq (hj1 _) ?_
      have hneg : ¬ (wid (cleanG g).f0 = 0 ∨ (cleanG g).f0 = 32) := by omega
      unfold oneV tailO
      rw [if_neg hneg, hn, hf, hd2, ht2, Int.toNat_natCast, List.append_assoc]
      congr 1
      · by_cases hb : g.f1 / 2 % 2 = 1
        · rw [if_pos (by simpa using hb), if_neg (by omega)]
        · rw [if_neg (by simpa using hb), if_pos (by omega)]
      · congr 1
        by_cases hb : g.f1 % 2 = 1
        · rw [if_pos ⟨by omega, h32, hb⟩, if_neg (by omega)]
        · rw [if_neg (fun x => hb x.2.2), if_pos (by omega)]
    · refine ev_eq (hj1 false) ?_
      rw [if_neg (by simp), List.nil_append, tailO, if_neg (by omega), List.nil_append, oneV, if_pos (.inl (by omega))]
  unfold flongref18_One.f
  refine ev_bind1 (rsafe_eq g.f0) (ev_ite (fun h160 => ?_) (fun h160 => ?_))
  · have : (cleanG g).f0 = 32 := by
      unfold cleanG
      rw [if_pos h160]
      exact safe_32
    rw [this] at hj
    exact hj
  · have : (cleanG g).f0 = safe g.f0 := by
      unfold cleanG
      rw [if_neg h160]
    rw [this] at hj
    exact hj
theorem rrow18_ev {l : List Gl} (hl : l.length ≤ 3000) (h : ∀ g ∈ l, 0 ≤ g.f1 ∧ g.f1 ≤ 255) : Ev (fun k => flongref18_Row.f k l) (rowO (nrm l)) := by
  have hn := nrm_length l
  have hN := nrm_is h
  have hnl := rnormal_ev l (exists_trim (clean l)).choose_spec (by omega) h
  change Ev _ (nrm l) at hnl
  unfold flongref18_Row.f
  refine Ev.bind hnl ?_
  revert hn hN
  generalize nrm l = c
  intro hn hN
  refine ev_eq (loop_up (fun k o i => flongref18_Row.l0 k c o i) c.length (fun o i => o ++ rowO (c.drop i)) (fun o i => o.length ≤ 20 * i) ?_ ?_ [] 0 (by omega) (by simp)) (by simp)
  · intro o _
    exact Ev.step (f := fun _ => some o) (fun k => by simp only [flongref18_Row.l0]; rw [if_neg (by omega)]) (ev_eq (Ev.now _) (by simp [rowO]))
  · intro o i hi ho ih
    have hg := (hN.cl c[i] (List.getElem_mem hi))
    have hlen := oneV_length c[i]
    refine Ev.step (f := fun k => (flongref18_One.f k c[i].f0 c[i].f1).bind fun t380 => (if o.length + t380.length < 140737488355328 then (flongref18_Row.l0 k c (o ++ t380) ((i + 1 : Nat) : Int)) else (none))) (fun k => ?_) ?_
    · simp only [flongref18_Row.l0]
      rw [if_pos (by omega), if_pos (by omega), rdG c i hi, wrap_up hi (by omega)]
    · refine Ev.bind (rone18_ev c[i] ⟨hg.2.2.1, by have := hg.2.2.2.1; omega⟩) (ev_pos (by omega) (ev_eq (ih _ (by rw [List.length_append]; omega)) ?_))
      rw [List.drop_eq_getElem_cons hi, rowO_cons, List.append_assoc]
end Go.Proofs.YtmeinakeiefcdaaDoor.Pure

/- What the chapter's examples fix: computed. -/
namespace Go.Proofs.YtmeinakeiefcdaaDoor.Pure
open Go.RowKit Go.Proofs.YtmeinakeiefcdaaDoorW.PrintWords Go.Proofs.YtmeinakeiefcdaaDoorW.PrintLast Go.Proofs.YtmeinakeiefcdaaDoor.X
theorem known_ev : Ev (fun k => flonglaw18_known.f k) true := Ev.of (k := 30) flonglaw18_known.mono (by kernel_rfl)
end Go.Proofs.YtmeinakeiefcdaaDoor.Pure
