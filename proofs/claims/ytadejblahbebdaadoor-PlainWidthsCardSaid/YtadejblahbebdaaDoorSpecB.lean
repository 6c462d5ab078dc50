/- SpecB: several of this session's texts in one. -/
import Derived.Test.YtadejblahbebdaaDoorSpecA
import Derived.Test.YtadejblahbebdaaDoorSpecU
import Derived.Test.YtadejblahbebdaaDoorX6
import Derived.Test.YtadejblahbebdaaDoorX13
import Derived.Test.YtadejblahbebdaaDoorX21
import Derived.Test.YtadejblahbebdaaDoorX4
import Derived.Test.YtadejblahbebdaaDoorX9
import Derived.Test.YtadejblahbebdaaDoorX3
import Derived.Test.YtadejblahbebdaaDoorX10
import Derived.Test.YtadejblahbebdaaDoorX12
import Derived.Test.YtadejblahbebdaaDoorX17
/- Package cells, and the reference beside it: whether two rows are the same, how wide a row is, its text; a text's glyphs; a front. -/
namespace Go.Proofs.YtadejblahbebdaaDoor.Pure
open Go.RowKit Go.Proofs.YtadejblahbebdaaDoorW.PrintWords Go.Proofs.YtadejblahbebdaaDoorW.PrintLast Go.Proofs.YtadejblahbebdaaDoorW.PrintMore Go.Proofs.YtadejblahbebdaaDoor.X Go.Proofs.YtadejblahbebdaaDoor.Hand
set_option linter.unusedSimpArgs false
set_option linter.unusedVariables false

theorem gsame_ev (a b : List Gl) (h : a.length ≤ 9223372036854775807) : Ev (fun k => flongref03_Same.f k a b) (decide (a = b)) := by
  unfold flongref03_Same.f
  refine ev_ite (fun hl => ?_) (fun hl => ev_eq (Ev.now _) (by symm; rw [decide_eq_false_iff_not]; intro e; exact hl (by rw [e])))
  have hl' : a.length = b.length := by omega
  refine ev_eq (loop_up (σ := Unit) (fun k _ i => flongref03_Same.l0 k a b i) a.length (fun _ i => decide (a.drop i = b.drop i)) (fun _ _ => True) ?_ ?_ () 0 (by omega) trivial) (by simp)
  · intro _ _
    exact Ev.step (f := fun _ => some true) (fun k => by simp only [flongref03_Same.l0]; rw [if_neg (by omega)]) (ev_eq (Ev.now _) (by simp [hl']))
  · intro _ i hi _ ih
    refine Ev.step (f := fun k => if (!((a[i].f0) == (b[i].f0)) || (!((a[i].f1) == (b[i].f1)))) = true then some false else flongref03_Same.l0 k a b ((i + 1 : Nat) : Int)) (fun k => ?_) ?_
    · simp only [flongref03_Same.l0]
      rw [if_pos (by omega), if_pos (by omega), if_pos (by omega), rdG a i hi, rdG b i (by omega), wrap_up hi h]
    · refine ev_ite (fun hc => ev_eq (Ev.now _) ?_) (fun hc => ev_eq (ih () trivial) ?_)
      · symm
        rw [decide_eq_false_iff_not, drop_ne hi (by omega)]
        exact fun e => (gl_ne _ _).1 hc e.1
      · have e : a[i] = b[i] := Decidable.of_not_not fun e => hc ((gl_ne _ _).2 e)
        simp only [drop_ne hi (show i < b.length by omega), e, true_and]
theorem gsame_true {a b : List Gl} (e : a = b) (h : a.length ≤ 9223372036854775807) : Ev (fun k => flongref03_Same.f k a b) true := ev_eq (gsame_ev a b h) (by simp [e])
/-- How wide a row is. -/
def width (l : List Gl) : Int := sum (l.map (·.f0))
theorem width_nil : width [] = 0 := rfl
theorem width_cons (g : Gl) (l : List Gl) : width (g :: l) = wid g.f0 + width l := by simp [width, sum_cons]
theorem width_append (a b : List Gl) : width (a ++ b) = width a + width b := by simp [width, sum_append]
theorem width_range (l : List Gl) : 0 ≤ width l ∧ width l ≤ 2 * l.length := by
  have := sum_range (l.map (·.f0))
  simpa [width] using this
/-- How many of a row fit. -/
def front (w : Int) : Int → List Gl → Nat
  | _, [] => 0
  | n, g :: t => if n + wid g.f0 > w then 0 else front w (n + wid g.f0) t + 1
theorem front_le (w : Int) : ∀ (l : List Gl) (n : Int), front w n l ≤ l.length
  | [], _ => by simp [front]
  | g :: t, n => by
    rw [front]
    split
    · omega
    · have := front_le w t (n + wid g.f0)
      simp only [List.length_cons]
      omega
/-- The runes of a row. -/
def runesOf (l : List Gl) : List Int := l.map (·.f0)
def ofRunes (s : Int) (l : List Int) : List Gl := l.map (fun r => ⟨r, s⟩)
theorem ofRunes_nil (s : Int) : ofRunes s [] = [] := rfl
theorem ofRunes_cons (s r : Int) (l : List Int) : ofRunes s (r :: l) = ⟨r, s⟩ :: ofRunes s l := rfl
theorem ofRunes_append (s : Int) (a b : List Int) : ofRunes s (a ++ b) = ofRunes s a ++ ofRunes s b := by simp [ofRunes]
theorem ofRunes_length (s : Int) (l : List Int) : (ofRunes s l).length = l.length := by simp [ofRunes]
theorem runesOf_nil : runesOf [] = [] := rfl
theorem runesOf_cons (g : Gl) (l : List Gl) : runesOf (g :: l) = g.f0 :: runesOf l := rfl
theorem runesOf_append (a b : List Gl) : runesOf (a ++ b) = runesOf a ++ runesOf b := by simp [runesOf]
theorem runesOf_length (l : List Gl) : (runesOf l).length = l.length := by simp [runesOf]
theorem runesOf_ofRunes (s : Int) (l : List Int) : runesOf (ofRunes s l) = l := by
  unfold runesOf ofRunes
  rw [List.map_map]
  exact List.map_id _
theorem bytesOf_Bytes (s : ByteArray) : Bytes (bytesOf s) := fun x hx => by
  unfold bytesOf at hx
  obtain ⟨u, _, rfl⟩ := List.mem_map.1 hx
  have := u.toNat_lt
  omega
theorem of_ev (s : ByteArray) (set : Int) (h : s.size < 17592186044416) : Ev (fun k => cells_Of.f k s set) (ofRunes set (decode (bytesOf s))) := by
  have hb := bytesOf_Bytes s
  have hl := (decode_length _ hb).1
  rw [bytesOf_length] at hl
  unfold cells_Of.f
  refine ev_bind1 (a := bytesOf s) (by unfold conv_bytes.f; rw [if_pos (by omega)]) (Ev.bind (decode_ev hb (by rw [bytesOf_length]; omega)) ?_)
  generalize decode (bytesOf s) = l at hl
  refine ev_eq (loop_up (fun k o i => cells_Of.l0 k set o l (l.length : Int) i) l.length (fun o i => o ++ ofRunes set (l.drop i)) (fun o i => o.length = i) ?_ ?_ [] 0 (by omega) rfl) (by simp)
  · intro o _
    exact Ev.step (f := fun _ => some o) (fun k => by simp only [cells_Of.l0]; rw [if_neg (by omega)]) (ev_eq (Ev.now _) (by rw [List.drop_length, ofRunes_nil, List.append_nil]))
  · intro o i hi ho ih
    refine Ev.step (f := fun k => cells_Of.l0 k set (o ++ [⟨l[i], set⟩]) l (l.length : Int) ((i + 1 : Nat) : Int)) (fun k => ?_) (ev_eq (ih (o ++ [⟨l[i], set⟩]) (by simp [ho])) ?_)
    · simp only [cells_Of.l0]
      rw [if_pos (by omega), if_pos (by omega), if_pos (by omega), if_pos (by omega), rd_nat l i hi, wrap_up hi (by omega)]
    · rw [List.drop_eq_getElem_cons hi, ofRunes_cons, List.append_assoc]
      rfl
theorem text_ev (l : List Gl) (h : l.length < 8796093022208) : Ev (fun k => cells_Text.f k l) (strOfNums (encode (runesOf l))) := by
  unfold cells_Text.f
  refine ev_eq (loop_up (fun k o i => cells_Text.l0 k o l (l.length : Int) i) l.length (fun o i => strOfNums (encode (o ++ runesOf (l.drop i)))) (fun o i => o.length = i) ?_ ?_ [] 0 (by omega) rfl) (by simp)
  · intro o ho
    refine Ev.step (f := fun k => (runes_Encode.f k o).bind fun t => some (strOfNums t)) (fun k => by simp only [cells_Text.l0]; rw [if_neg (by omega)]) (Ev.bind (encode_ev o (by omega)) (ev_eq (Ev.now _) (by rw [List.drop_length, runesOf_nil, List.append_nil])))
  · intro o i hi ho ih
    refine Ev.step (f := fun k => cells_Text.l0 k (o ++ [l[i].f0]) l (l.length : Int) ((i + 1 : Nat) : Int)) (fun k => ?_) (ev_eq (ih (o ++ [l[i].f0]) (by simp [ho])) ?_)
    · simp only [cells_Text.l0]
      rw [if_pos (by omega), if_pos (by omega), if_pos (by omega), if_pos (by omega), rdG l i hi, wrap_up hi (by omega)]
    · rw [List.drop_eq_getElem_cons hi, runesOf_cons, List.append_assoc]
      rfl
end Go.Proofs.YtadejblahbebdaaDoor.Pure

/- The reference's text of glyphs; two rows, one behind the other; whether two rows are the same; what may be written. -/
namespace Go.Proofs.YtadejblahbebdaaDoor.Pure
open Go.RowKit Go.Proofs.YtadejblahbebdaaDoorW.PrintWords Go.Proofs.YtadejblahbebdaaDoorW.PrintLast Go.Proofs.YtadejblahbebdaaDoorW.PrintMore Go.Proofs.YtadejblahbebdaaDoor.X Go.Proofs.YtadejblahbebdaaDoor.Hand
set_option linter.unusedSimpArgs false
set_option linter.unusedVariables false
theorem rof_ev (s : ByteArray) (set : Int) (h : s.size ≤ 1000000000) : Ev (fun k => flongref03_Of.f k s set) (ofRunes set (decode (bytesOf s))) := by
  have hb := bytesOf_Bytes s
  have hl := (decode_length _ hb).1
  rw [bytesOf_length] at hl
  unfold flongref03_Of.f
  refine ev_bind1 (a := bytesOf s) (by unfold conv_bytes.f; rw [if_pos (by omega)]) (Ev.bind (rdecode_ev hb (by rw [bytesOf_length]; omega)) ?_)
  generalize decode (bytesOf s) = l at hl
  refine ev_eq (loop_up (fun k o i => flongref03_Of.l0 k set l o i) l.length (fun o i => o ++ ofRunes set (l.drop i)) (fun o i => o.length = i) ?_ ?_ [] 0 (by omega) rfl) (by simp)
  · intro o _
    exact Ev.step (f := fun _ => some o) (fun k => by simp only [flongref03_Of.l0]; rw [if_neg (by omega)]) (ev_eq (Ev.now _) (by rw [List.drop_length, ofRunes_nil, List.append_nil]))
  · intro o i hi ho ih
    refine Ev.step (f := fun k => flongref03_Of.l0 k set l (o ++ [⟨l[i], set⟩]) ((i + 1 : Nat) : Int)) (fun k => ?_) (ev_eq (ih (o ++ [⟨l[i], set⟩]) (by simp [ho])) ?_)
    · simp only [flongref03_Of.l0]
      rw [if_pos (by omega), if_pos (by omega), if_pos (by omega), rd_nat l i hi, wrap_up hi (by omega)]
    · rw [List.drop_eq_getElem_cons hi, ofRunes_cons, List.append_assoc]
      rfl
/-- One glyph, as it may be written. -/
def cleanG (g : Gl) : Gl := ⟨safe (if g.f0 = 160 then 32 else g.f0), Go.bits .and .u8 g.f1 3⟩
def clean (l : List Gl) : List Gl := (l.map cleanG).dropWhile (fun g => !decide (wid g.f0 > 0))
theorem clean_ev (l : List Gl) (h : l.length < 17592186044416) : Ev (fun k => cells_Clean.f k l) (clean l) := by
  unfold cells_Clean.f
  refine ev_eq (loop_up (fun k o i => cells_Clean.l0 k o l (l.length : Int) i) l.length (fun o i => if o = [] then clean (l.drop i) else o ++ (l.drop i).map cleanG) (fun o i => o.length ≤ i) ?_ ?_ [] 0 (by omega) (by simp)) (by simp)
  · intro o _
    refine Ev.step (f := fun _ => some o) (fun k => by simp only [cells_Clean.l0]; rw [if_neg (by omega)]) (ev_eq (Ev.now _) ?_)
    rw [List.drop_length]
    split
    · rename_i e
      rw [e]
      rfl
    · simp
  · intro o i hi ho ih
    have hj : ∀ x : Int, (if l[i].f0 = 160 then 32 else l[i].f0) = x → Ev (fun k => cells_Clean.j1 k o l (l.length : Int) (i : Int) x l[i].f1) (if o = [] then clean (l.drop i) else o ++ (l.drop i).map cleanG) := by
      intro x hx
      have hg : cleanG l[i] = ⟨safe x, Go.bits .and .u8 l[i].f1 3⟩ := by rw [cleanG, hx]
      refine Ev.step (f := fun k => (runes_Safe.f k x).bind fun t => (if (o.length : Int) > 0 then (cells_Clean.l0 k (o ++ [(⟨t, Go.bits .and .u8 l[i].f1 3⟩ : Gl)]) l (l.length : Int) ((i + 1 : Nat) : Int)) else (if wid t > 0 then (cells_Clean.l0 k (o ++ [(⟨t, Go.bits .and .u8 l[i].f1 3⟩ : Gl)]) l (l.length : Int) ((i + 1 : Nat) : Int)) else (cells_Clean.l0 k o l (l.length : Int) ((i + 1 : Nat) : Int))))) (fun k => ?_) ?_
      · simp only [cells_Clean.j1]
        rw [wrap_up hi (by omega)]
        congr 1
        funext t
        rw [show runes_Width.f t = some (wid t) from rfl, Option.bind_some, if_pos (show o.length < 17592186044416 by omega)]
      · refine Ev.bind (safe_ev x) ?_
        rw [← hg]
        have h1 : Ev (fun k => cells_Clean.l0 k (o ++ [cleanG l[i]]) l (l.length : Int) ((i + 1 : Nat) : Int)) (o ++ cleanG l[i] :: (l.drop (i + 1)).map cleanG) := by
          refine ev_eq (ih (o ++ [cleanG l[i]]) (by simp; omega)) ?_
          rw [if_neg (by simp), List.append_assoc]
          rfl
        refine ev_ite (fun hc => ev_eq h1 ?_) (fun hc => ?_)
        · rw [if_neg (by intro e; rw [e] at hc; simp at hc), List.drop_eq_getElem_cons hi, List.map_cons]
        · obtain rfl : o = [] := by
            rcases o with _ | ⟨_, _⟩
            · rfl
            · exfalso
              apply hc
              simp only [List.length_cons]
              omega
          rw [if_pos rfl]
          have hw : wid (safe x) = wid (cleanG l[i]).f0 := by rw [hg]
          rw [hw]
          refine ev_ite (fun hp => ev_eq h1 ?_) (fun hp => ev_eq (ih [] (by simp)) ?_)
          · rw [List.drop_eq_getElem_cons hi, clean, List.map_cons, List.dropWhile_cons, if_neg (by simp [hp])]
            rfl
          · rw [if_pos rfl, List.drop_eq_getElem_cons hi, clean, clean, List.map_cons, List.dropWhile_cons, if_pos (by simp [hp])]
    refine Ev.step (f := fun k => if l[i].f0 = 160 then cells_Clean.j1 k o l (l.length : Int) (i : Int) 32 l[i].f1 else cells_Clean.j1 k o l (l.length : Int) (i : Int) l[i].f0 l[i].f1) (fun k => ?_) ?_
    · simp only [cells_Clean.l0]
      rw [if_pos (by omega), if_pos (by omega), if_pos (by omega), rdG l i hi]
    · exact ev_ite (fun hc => hj 32 (if_pos hc)) (fun hc => hj _ (if_neg hc))
end Go.Proofs.YtadejblahbebdaaDoor.Pure

/- A row trimmed. -/
namespace Go.Proofs.YtadejblahbebdaaDoor.Pure
open Go.RowKit Go.Proofs.YtadejblahbebdaaDoorW.PrintWords Go.Proofs.YtadejblahbebdaaDoorW.PrintLast Go.Proofs.YtadejblahbebdaaDoorW.PrintMore Go.Proofs.YtadejblahbebdaaDoor.X Go.Proofs.YtadejblahbebdaaDoor.Hand
set_option linter.unusedSimpArgs false
set_option linter.unusedVariables false
theorem clone_eq {l : List Gl} (h : l.length < 17592186044416) : clone_G.f l = some l := by
  unfold clone_G.f
  rw [if_pos h]
/-- So many are left of a row trimmed. -/
structure IsTrim (l : List Gl) (m : Nat) : Prop where
  le : m ≤ l.length
  last : ∀ g : Gl, 0 < m → l[m - 1]? = some g → g.f0 ≠ 32
  rest : ∀ (i : Nat) (g : Gl), m ≤ i → l[i]? = some g → g.f0 = 32
theorem exists_trim (l : List Gl) : ∃ m, IsTrim l m := by
  have h : ∀ n, n ≤ l.length → ∃ m, m ≤ n ∧ (∀ g : Gl, 0 < m → l[m - 1]? = some g → g.f0 ≠ 32) ∧ ∀ (i : Nat) (g : Gl), m ≤ i → i < n → l[i]? = some g → g.f0 = 32 := by
    intro n
    induction n with
    | zero => exact fun _ => ⟨0, Nat.le_refl _, fun g h => absurd h (by omega), fun i g _ h => absurd h (by omega)⟩
    | succ n ih =>
      intro hn
      by_cases hc : (l[n]'(by omega)).f0 = 32
      · obtain ⟨m, h1, h2, h3⟩ := ih (by omega)
        refine ⟨m, by omega, h2, fun i g hi hlt hg => ?_⟩
        by_cases e : i = n
        · subst e
          rw [List.getElem?_eq_getElem (by omega)] at hg
          obtain rfl := Option.some.inj hg
          exact hc
        · exact h3 i g hi (by omega) hg
      · refine ⟨n + 1, Nat.le_refl _, fun g _ hg => ?_, fun i g hi hlt => by omega⟩
        rw [Nat.add_sub_cancel, List.getElem?_eq_getElem (by omega)] at hg
        obtain rfl := Option.some.inj hg
        exact hc
  obtain ⟨m, h1, h2, h3⟩ := h l.length (Nat.le_refl _)
  exact ⟨m, h1, h2, fun i g hi hg => h3 i g hi (List.getElem?_eq_some_iff.1 hg).1 hg⟩
theorem trim_ev {l : List Gl} {m : Nat} (hm : IsTrim l m) (h : l.length < 17592186044416) : Ev (fun k => cells_Trim.f k l) (l.take m) := by
  have hle := hm.le
  have hend : (if 0 ≤ (m : Int) then (if (m : Int) ≤ (l.length : Int) then ((clone_G.f (l.take (m : Int).toNat)).bind fun t286 => (some t286)) else (none)) else (none)) = some (l.take m) := by
    rw [if_pos (by omega), if_pos (by omega), Int.toNat_natCast, clone_eq (by rw [List.length_take]; omega), Option.bind_some]
  have key : ∀ d n, n - m = d → m ≤ n → n ≤ l.length → Ev (fun k => cells_Trim.l0 k l (n : Int)) (l.take m) := by
    intro d
    induction d with
    | zero =>
      intro n hd h1 h2
      obtain rfl : n = m := by omega
      refine Ev.step (f := fun _ => some (l.take n)) (fun k => ?_) (Ev.now _)
      simp only [cells_Trim.l0]
      by_cases hp : 0 < n
      · have hg := hm.last l[n - 1] hp (List.getElem?_eq_getElem (by omega))
        rw [if_pos (by omega), wrap_of (by omega) (by omega), show (n : Int) - 1 = ((n - 1 : Nat) : Int) by omega, if_pos (by omega), if_pos (by omega), rdG l (n - 1) (by omega), if_neg hg, hend]
      · rw [if_neg (by omega), hend]
    | succ d ih =>
      intro n hd h1 h2
      have hg := hm.rest (n - 1) (l[n - 1]'(by omega)) (by omega) (List.getElem?_eq_getElem (by omega))
      refine Ev.step (f := fun k => cells_Trim.l0 k l ((n - 1 : Nat) : Int)) (fun k => ?_) (ih (n - 1) (by omega) (by omega) (by omega))
      simp only [cells_Trim.l0]
      rw [if_pos (by omega), wrap_of (by omega) (by omega), show (n : Int) - 1 = ((n - 1 : Nat) : Int) by omega, if_pos (by omega), if_pos (by omega), rdG l (n - 1) (by omega), if_pos hg]
  unfold cells_Trim.f
  exact key (l.length - m) l.length rfl hle (Nat.le_refl _)
end Go.Proofs.YtadejblahbebdaaDoor.Pure

/- What may be written: plainly. -/
namespace Go.Proofs.YtadejblahbebdaaDoor.Pure
open Go.RowKit Go.Proofs.YtadejblahbebdaaDoorW.PrintWords Go.Proofs.YtadejblahbebdaaDoorW.PrintLast Go.Proofs.YtadejblahbebdaaDoorW.PrintMore Go.Proofs.YtadejblahbebdaaDoor.X Go.Proofs.YtadejblahbebdaaDoor.Hand
set_option linter.unusedSimpArgs false
set_option linter.unusedVariables false
theorem safe_160 {x : Int} (h : x ≠ 160) : safe x ≠ 160 := by
  unfold safe
  split
  · exact h
  · decide
theorem and3 {x : Int} (h : 0 ≤ x ∧ x ≤ 255) : 0 ≤ Go.bits .and .u8 x 3 ∧ Go.bits .and .u8 x 3 ≤ 3 ∧ Go.bits .and .u8 (Go.bits .and .u8 x 3) 3 = Go.bits .and .u8 x 3 := by
  have h1 : ∀ n : Nat, n < 256 → 0 ≤ Go.bits .and .u8 (n : Int) 3 ∧ Go.bits .and .u8 (n : Int) 3 ≤ 3 ∧ Go.bits .and .u8 (Go.bits .and .u8 (n : Int) 3) 3 = Go.bits .and .u8 (n : Int) 3 := by decide +kernel
  obtain ⟨n, rfl⟩ := Int.eq_ofNat_of_zero_le h.1
  exact h1 n (by omega)
/-- Cleaned: what it is. -/
def Cl (g : Gl) : Prop := safe g.f0 = g.f0 ∧ g.f0 ≠ 160 ∧ 0 ≤ g.f1 ∧ g.f1 ≤ 3 ∧ Go.bits .and .u8 g.f1 3 = g.f1
theorem cleanG_Cl (g : Gl) (h : 0 ≤ g.f1 ∧ g.f1 ≤ 255) : Cl (cleanG g) := by
  have h3 := and3 h
  refine ⟨safe_safe _, safe_160 ?_, h3.1, h3.2.1, h3.2.2⟩
  split
  · decide
  · assumption
theorem cleanG_self {g : Gl} (h : Cl g) : cleanG g = g := by
  unfold cleanG
  rw [if_neg h.2.1, h.1, h.2.2.2.2]
theorem map_self {l : List Gl} (h : ∀ g ∈ l, Cl g) : l.map cleanG = l := by
  induction l with
  | nil => rfl
  | cons g l ih => rw [List.map_cons, cleanG_self (h g (by simp)), ih (fun x hx => h x (by simp [hx]))]
theorem clean_Cl (l : List Gl) (h : ∀ g ∈ l, 0 ≤ g.f1 ∧ g.f1 ≤ 255) : ∀ g ∈ clean l, Cl g := by
  intro g hg
  have := (List.dropWhile_sublist _).subset hg
  obtain ⟨x, hx, rfl⟩ := List.mem_map.1 this
  exact cleanG_Cl x (h x hx)
theorem dropWhile_twice {α : Type} (p : α → Bool) : ∀ l : List α, (l.dropWhile p).dropWhile p = l.dropWhile p
  | [] => rfl
  | a :: l => by
    rw [List.dropWhile_cons]
    split
    · exact dropWhile_twice p l
    · rename_i h
      rw [List.dropWhile_cons, if_neg h]
theorem dropWhile_head {α : Type} (p : α → Bool) : ∀ l : List α, ∀ h : 0 < (l.dropWhile p).length, p (l.dropWhile p)[0] = false
  | [], h => by simp at h
  | a :: l, h => by
    by_cases hp : p a = true
    · have e : (a :: l).dropWhile p = l.dropWhile p := by rw [List.dropWhile_cons, if_pos hp]
      simp only [e] at h ⊢
      exact dropWhile_head p l h
    · have e : (a :: l).dropWhile p = a :: l := by rw [List.dropWhile_cons, if_neg hp]
      simp only [e]
      simpa using hp
theorem clean_clean (l : List Gl) (h : ∀ g ∈ l, 0 ≤ g.f1 ∧ g.f1 ≤ 255) : clean (clean l) = clean l := by
  show ((clean l).map cleanG).dropWhile (fun g => !decide (wid g.f0 > 0)) = clean l
  rw [map_self (clean_Cl l h)]
  unfold clean
  exact dropWhile_twice _ _
theorem clean_length (l : List Gl) : (clean l).length ≤ l.length := by
  have := (List.dropWhile_sublist (fun g : Gl => !decide (wid g.f0 > 0)) (l := l.map cleanG)).length_le
  simpa [clean] using this
theorem clean_head (l : List Gl) (h : 0 < (clean l).length) : wid ((clean l)[0]).f0 ≠ 0 := by
  have := dropWhile_head (fun g : Gl => !decide (wid g.f0 > 0)) (l.map cleanG) h
  simp at this
  have h2 : 0 < wid ((clean l)[0]).f0 := this
  omega
end Go.Proofs.YtadejblahbebdaaDoor.Pure

/- The reference's rows of glyphs: how wide, what text, what may be written, trimmed; rows of rows the same. -/
namespace Go.Proofs.YtadejblahbebdaaDoor.Pure
open Go.RowKit Go.Proofs.YtadejblahbebdaaDoorW.PrintWords Go.Proofs.YtadejblahbebdaaDoorW.PrintLast Go.Proofs.YtadejblahbebdaaDoorW.PrintMore Go.Proofs.YtadejblahbebdaaDoor.X Go.Proofs.YtadejblahbebdaaDoor.Hand
set_option linter.unusedSimpArgs false
set_option linter.unusedVariables false
theorem rdL (l : List (List Gl)) (i : Nat) (h : i < l.length) : rd_L6 l (i : Int) = l[i] := by
  simp [rd_L6, List.getD_eq_getElem?_getD, List.getElem?_eq_getElem h]
theorem rgwidth_ev (l : List Gl) (h : l.length ≤ 500) : Ev (fun k => flongref03_Width.f k l) (width l) := by
  unfold flongref03_Width.f
  refine ev_eq (loop_up (fun k n i => flongref03_Width.l0 k l n i) l.length (fun n i => n + width (l.drop i)) (fun n i => 0 ≤ n ∧ n ≤ 2 * i) ?_ ?_ 0 0 (by omega) ⟨by omega, by omega⟩) (by simp)
  · intro n _
    exact Ev.step (f := fun _ => some n) (fun k => by simp only [flongref03_Width.l0]; rw [if_neg (by omega)]) (ev_eq (Ev.now _) (by simp [width_nil]))
  · intro n i hi ⟨h0, h1⟩ ih
    have hw := wid_range l[i].f0
    refine Ev.step (f := fun k => (flongref02_Width.f k l[i].f0).bind fun t => flongref03_Width.l0 k l (wrap64 (n + t)) ((i + 1 : Nat) : Int)) (fun k => ?_) ?_
    · simp only [flongref03_Width.l0]
      rw [if_pos (by omega), if_pos (by omega), rdG l i hi, wrap_up hi (by omega)]
    · refine Ev.bind (rwidth_ev _) ?_
      rw [wrap_of (by omega) (by omega)]
      refine ev_eq (ih (n + wid l[i].f0) ⟨by omega, by omega⟩) ?_
      rw [List.drop_eq_getElem_cons hi, width_cons]
      omega
theorem one_len4 (r : Int) : (one r).length ≤ 4 := by
  have := encode_length [r]
  rw [encode_cons, encode_nil, List.append_nil] at this
  simpa using this
theorem rgtext_ev (l : List Gl) (h : l.length ≤ 500) : Ev (fun k => flongref03_Text.f k l) (strOfNums (encode (runesOf l))) := by
  unfold flongref03_Text.f
  refine ev_eq (loop_up (fun k o i => flongref03_Text.l0 k l o i) l.length (fun o i => strOfNums (o ++ encode (runesOf (l.drop i)))) (fun o i => o.length ≤ 4 * i) ?_ ?_ [] 0 (by omega) (by simp)) (by simp)
  · intro o _
    exact Ev.step (f := fun _ => some (strOfNums o)) (fun k => by simp only [flongref03_Text.l0]; rw [if_neg (by omega)]) (ev_eq (Ev.now _) (by rw [List.drop_length, runesOf_nil, encode_nil, List.append_nil]))
  · intro o i hi ho ih
    have hl := one_len4 l[i].f0
    refine Ev.step (f := fun k => (flongref02_One.f k l[i].f0).bind fun t => if o.length + t.length < 140737488355328 then flongref03_Text.l0 k l (o ++ t) ((i + 1 : Nat) : Int) else none) (fun k => ?_) ?_
    · simp only [flongref03_Text.l0]
      rw [if_pos (by omega), if_pos (by omega), rdG l i hi, wrap_up hi (by omega)]
    · refine Ev.bind (rone_ev _) (ev_pos (by omega) (ev_eq (ih (o ++ one l[i].f0) (by rw [List.length_append]; omega)) ?_))
      rw [List.drop_eq_getElem_cons hi, runesOf_cons, encode_cons, List.append_assoc]
theorem tmod4 {x : Int} (h : 0 ≤ x ∧ x ≤ 255) : Int.tmod x 4 = Go.bits .and .u8 x 3 := by
  have h1 : ∀ n : Nat, n < 256 → Int.tmod (n : Int) 4 = Go.bits .and .u8 (n : Int) 3 := by decide +kernel
  obtain ⟨n, rfl⟩ := Int.eq_ofNat_of_zero_le h.1
  exact h1 n (by omega)
theorem safe_32 : safe 32 = 32 := by decide +kernel
theorem rclean_ev (l : List Gl) (h : l.length ≤ 500) (h8 : ∀ g ∈ l, 0 ≤ g.f1 ∧ g.f1 ≤ 255) : Ev (fun k => flongref03_Clean.f k l) (clean l) := by
  unfold flongref03_Clean.f
  refine ev_eq (loop_up (fun k o i => flongref03_Clean.l0 k l o i) l.length (fun o i => if o = [] then clean (l.drop i) else o ++ (l.drop i).map cleanG) (fun o i => o.length ≤ i) ?_ ?_ [] 0 (by omega) (by simp)) (by simp)
  · intro o _
    refine Ev.step (f := fun _ => some o) (fun k => by simp only [flongref03_Clean.l0]; rw [if_neg (by omega)]) (ev_eq (Ev.now _) ?_)
    rw [List.drop_length]
    split
    · rename_i e
      rw [e]
      rfl
    · simp
  · intro o i hi ho ih
    have h1 : Ev (fun k => flongref03_Clean.l0 k l (o ++ [cleanG l[i]]) ((i + 1 : Nat) : Int)) (o ++ cleanG l[i] :: (l.drop (i + 1)).map cleanG) := by
      refine ev_eq (ih (o ++ [cleanG l[i]]) (by simp; omega)) ?_
      rw [if_neg (by simp), List.append_assoc]
      rfl
    have hst : Int.tmod l[i].f1 4 = Go.bits .and .u8 l[i].f1 3 := tmod4 (h8 l[i] (List.getElem_mem hi))
    have hj : ∀ x : Int, cleanG l[i] = ⟨x, Int.tmod l[i].f1 4⟩ → Ev (fun k => if (o.length : Int) > 0 then (if o.length < 17592186044416 then flongref03_Clean.l0 k l (o ++ [(⟨x, Int.tmod l[i].f1 4⟩ : Gl)]) ((i + 1 : Nat) : Int) else none) else ((flongref02_Width.f k x).bind fun t => if t > 0 then (if o.length < 17592186044416 then flongref03_Clean.l0 k l (o ++ [(⟨x, Int.tmod l[i].f1 4⟩ : Gl)]) ((i + 1 : Nat) : Int) else none) else flongref03_Clean.l0 k l o ((i + 1 : Nat) : Int))) (if o = [] then clean (l.drop i) else o ++ (l.drop i).map cleanG) := by
      intro x hx
      rw [← hx]
      refine ev_ite (fun hc => ev_pos (by omega) (ev_eq h1 ?_)) (fun hc => ?_)
      · rw [if_neg (by intro e; rw [e] at hc; simp at hc), List.drop_eq_getElem_cons hi, List.map_cons]
      · obtain rfl : o = [] := by
          rcases o with _ | ⟨_, _⟩
          · rfl
          · exfalso
            apply hc
            simp only [List.length_cons]
            omega
        rw [if_pos rfl]
        have hw : wid x = wid (cleanG l[i]).f0 := by rw [hx]
        refine Ev.bind (rwidth_ev x) ?_
        rw [hw]
        refine ev_ite (fun hp => ev_pos (by simp) (ev_eq h1 ?_)) (fun hp => ev_eq (ih [] (by simp)) ?_)
        · rw [List.drop_eq_getElem_cons hi, clean, List.map_cons, List.dropWhile_cons, if_neg (by simp [hp])]
          rfl
        · rw [if_pos rfl, List.drop_eq_getElem_cons hi, clean, clean, List.map_cons, List.dropWhile_cons, if_pos (by simp [hp])]
    by_cases hc : l[i].f0 = 160
    · refine Ev.step (f := fun k => if (o.length : Int) > 0 then (if o.length < 17592186044416 then flongref03_Clean.l0 k l (o ++ [(⟨32, Int.tmod l[i].f1 4⟩ : Gl)]) ((i + 1 : Nat) : Int) else none) else ((flongref02_Width.f k 32).bind fun t => if t > 0 then (if o.length < 17592186044416 then flongref03_Clean.l0 k l (o ++ [(⟨32, Int.tmod l[i].f1 4⟩ : Gl)]) ((i + 1 : Nat) : Int) else none) else flongref03_Clean.l0 k l o ((i + 1 : Nat) : Int))) (fun k => ?_) (hj 32 ?_)
      · simp only [flongref03_Clean.l0]
        rw [if_pos (by omega), if_pos (by omega), rdG l i hi, rsafe_eq, Option.bind_some, if_pos hc, wrap_up hi (by omega)]
      · rw [cleanG, if_pos hc, safe_32, hst]
    · refine Ev.step (f := fun k => if (o.length : Int) > 0 then (if o.length < 17592186044416 then flongref03_Clean.l0 k l (o ++ [(⟨safe l[i].f0, Int.tmod l[i].f1 4⟩ : Gl)]) ((i + 1 : Nat) : Int) else none) else ((flongref02_Width.f k (safe l[i].f0)).bind fun t => if t > 0 then (if o.length < 17592186044416 then flongref03_Clean.l0 k l (o ++ [(⟨safe l[i].f0, Int.tmod l[i].f1 4⟩ : Gl)]) ((i + 1 : Nat) : Int) else none) else flongref03_Clean.l0 k l o ((i + 1 : Nat) : Int))) (fun k => ?_) (hj (safe l[i].f0) ?_)
      · simp only [flongref03_Clean.l0]
        rw [if_pos (by omega), if_pos (by omega), rdG l i hi, rsafe_eq, Option.bind_some, if_neg hc, wrap_up hi (by omega)]
      · rw [cleanG, if_neg hc, hst]
theorem rtrim_ev {l : List Gl} {m : Nat} (hm : IsTrim l m) (h : l.length ≤ 500) : Ev (fun k => flongref03_Trim.f k l) (l.take m) := by
  have hle := hm.le
  have hend : (if 0 ≤ (m : Int) then (if (m : Int) ≤ (l.length : Int) then (some (l.take (m : Int).toNat)) else (none)) else (none)) = some (l.take m) := by
    rw [if_pos (by omega), if_pos (by omega), Int.toNat_natCast]
  have key : ∀ d n, n - m = d → m ≤ n → n ≤ l.length → Ev (fun k => flongref03_Trim.l0 k l (n : Int)) (l.take m) := by
    intro d
    induction d with
    | zero =>
      intro n hd h1 h2
      obtain rfl : n = m := by omega
      refine Ev.step (f := fun _ => some (l.take n)) (fun k => ?_) (Ev.now _)
      simp only [flongref03_Trim.l0]
      by_cases hp : 0 < n
      · have hg := hm.last l[n - 1] hp (List.getElem?_eq_getElem (by omega))
        rw [if_pos (by omega), wrap_of (by omega) (by omega), show (n : Int) - 1 = ((n - 1 : Nat) : Int) by omega, if_pos (by omega), if_pos (by omega), rdG l (n - 1) (by omega), if_neg hg, hend]
      · rw [if_neg (by omega), hend]
    | succ d ih =>
      intro n hd h1 h2
      have hg := hm.rest (n - 1) (l[n - 1]'(by omega)) (by omega) (List.getElem?_eq_getElem (by omega))
      refine Ev.step (f := fun k => flongref03_Trim.l0 k l ((n - 1 : Nat) : Int)) (fun k => ?_) (ih (n - 1) (by omega) (by omega) (by omega))
      simp only [flongref03_Trim.l0]
      rw [if_pos (by omega), wrap_of (by omega) (by omega), show (n : Int) - 1 = ((n - 1 : Nat) : Int) by omega, if_pos (by omega), if_pos (by omega), rdG l (n - 1) (by omega), if_pos hg]
  unfold flongref03_Trim.f
  exact key (l.length - m) l.length rfl hle (Nat.le_refl _)
theorem samerows_true (a : List (List Gl)) (h : a.length ≤ 1000) (h2 : ∀ r ∈ a, r.length ≤ 1000) : Ev (fun k => flongref03_SameRows.f k a a) true := by
  unfold flongref03_SameRows.f
  refine ev_pos rfl ?_
  refine loop_up (σ := Unit) (fun k _ i => flongref03_SameRows.l0 k a a i) a.length (fun _ _ => true) (fun _ _ => True) ?_ ?_ () 0 (by omega) trivial
  · intro _ _
    exact Ev.step (f := fun _ => some true) (fun k => by simp only [flongref03_SameRows.l0]; rw [if_neg (by omega)]) (Ev.now _)
  · intro _ i hi _ ih
    refine Ev.step (f := fun k => (flongref03_Same.f k a[i] a[i]).bind fun t => if t = true then flongref03_SameRows.l0 k a a ((i + 1 : Nat) : Int) else some false) (fun k => ?_) ?_
    · simp only [flongref03_SameRows.l0]
      rw [if_pos (by omega), if_pos (by omega), if_pos (by omega), rdL a i hi, wrap_up hi (by omega)]
    · have := h2 a[i] (List.getElem_mem hi)
      exact Ev.bind (gsame_true rfl (by omega)) (ev_pos rfl (ih () trivial))
end Go.Proofs.YtadejblahbebdaaDoor.Pure
