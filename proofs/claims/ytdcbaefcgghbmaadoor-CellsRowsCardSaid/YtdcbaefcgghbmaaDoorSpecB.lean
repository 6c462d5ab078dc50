/- SpecB: several of this session's texts in one. -/
import Derived.Test.YtdcbaefcgghbmaaDoorSpecA
import Derived.Test.YtdcbaefcgghbmaaDoorSpecU
import Derived.Test.YtdcbaefcgghbmaaDoorX2
import Derived.Test.YtdcbaefcgghbmaaDoorX3
import Derived.Test.YtdcbaefcgghbmaaDoorX15
import Derived.Test.YtdcbaefcgghbmaaDoorX17
import Derived.Test.YtdcbaefcgghbmaaDoorX4
import Derived.Test.YtdcbaefcgghbmaaDoorX5
/- Package cells, and the reference beside it: whether two rows are the same, how wide a row is, its text; a text's glyphs; a front. -/
namespace Go.Proofs.YtdcbaefcgghbmaaDoor.Pure
open Go.RowKit Go.Proofs.YtdcbaefcgghbmaaDoorW.PrintWords Go.Proofs.YtdcbaefcgghbmaaDoorW.PrintLast Go.Proofs.YtdcbaefcgghbmaaDoorW.PrintMore Go.Proofs.YtdcbaefcgghbmaaDoor.X Go.Proofs.YtdcbaefcgghbmaaDoor.Hand
set_option linter.unusedSimpArgs false
set_option linter.unusedVariables false

theorem gsame_ev (a b : List Gl) (h : a.length ≤ 9223372036854775807) : Ev (fun k => flongref03_Same.f k a b) (decide (a = b)) := by
  unfold flongref03_Same.f
  refine ev_ite (fun hl => ?_) (fun hl => ev_eq (Ev.now _) (by symm; rw [decide_eq_false_iff_not]; intro e; exact hl (by rw [e])))
  have hl' : a.length = b.length := by omega
  refine ev_eq (loop_up (σ := Unit) (fun k _ i => flongref03_Same.l0 k a b i) a.length (fun _ i => decide (a.drop i = b.drop i)) (fun _ _ => True) ?_ ?_ () 0 (by omega) trivial) (by simp)
  · intro _ _
    exact Ev.step (f := fun _ => some true) (fun k => by simp only [flongref03_Same.l0]; rw [if_neg (by omega)]) (ev_eq (Ev.now _) (by simp [hl']))
  · intro _ i hi _ ih
    refine Ev.step (f := fun k => if (!((a[i].f0) == (b[i].f0)) || (!((a[i].f1) == (b[i].f1)))) = true then some false else flongref03_Same.l0 k a b ((i + 1 : Nat) : Int)) (fun k => ?_) ?_
    · simp only [flongref03_Same.l0]
      rw [if_pos (by omega), if_pos (by omega), if_pos (by omega), rdG a i hi, rdG b i (by omega), wrap_up hi h]
    · refine ev_ite (fun hc => ev_eq (Ev.now _) ?_) (fun hc => ev_eq (ih () trivial) ?_)
      · symm
        rw [decide_eq_false_iff_not, drop_ne hi (by omega)]
        exact fun e => (gl_ne _ _).1 hc e.1
      · have e : a[i] = b[i] := Decidable.of_not_not fun e => hc ((gl_ne _ _).2 e)
        simp only [drop_ne hi (show i < b.length by omega), e, true_and]
theorem gsame_true {a b : List Gl} (e : a = b) (h : a.length ≤ 9223372036854775807) : Ev (fun k => flongref03_Same.f k a b) true := ev_eq (gsame_ev a b h) (by simp [e])
/-- How wide a row is. -/
def width (l : List Gl) : Int := sum (l.map (·.f0))
theorem width_nil : width [] = 0 := rfl
theorem width_cons (g : Gl) (l : List Gl) : width (g :: l) = wid g.f0 + width l := by simp [width, sum_cons]
theorem width_append (a b : List Gl) : width (a ++ b) = width a + width b := by simp [width, sum_append]
theorem width_range (l : List Gl) : 0 ≤ width l ∧ width l ≤ 2 * l.length := by
  have := sum_range (l.map (·.f0))
  simpa [width] using this
theorem width_ev (l : List Gl) (h : l.length ≤ 4611686018427387903) : Ev (fun k => cells_Width.f k l) (width l) := by
  unfold cells_Width.f
  refine ev_eq (loop_up (fun k n i => cells_Width.l0 k n l (l.length : Int) i) l.length (fun n i => n + width (l.drop i)) (fun n i => 0 ≤ n ∧ n ≤ 2 * i) ?_ ?_ 0 0 (by omega) ⟨by omega, by omega⟩) (by simp)
  · intro n _
    exact Ev.step (f := fun _ => some n) (fun k => by simp only [cells_Width.l0]; rw [if_neg (by omega)]) (ev_eq (Ev.now _) (by simp [width_nil]))
  · intro n i hi ⟨h0, h1⟩ ih
    have hw := wid_range l[i].f0
    refine Ev.step (f := fun k => cells_Width.l0 k (n + wid l[i].f0) l (l.length : Int) ((i + 1 : Nat) : Int)) (fun k => ?_) (ev_eq (ih (n + wid l[i].f0) ⟨by omega, by omega⟩) ?_)
    · simp only [cells_Width.l0]
      rw [if_pos (by omega), if_pos (by omega), if_pos (by omega), rdG l i hi, show runes_Width.f l[i].f0 = some (wid l[i].f0) from rfl, Option.bind_some, wrap_of (x := n + wid l[i].f0) (by omega) (by omega), wrap_up hi (by omega)]
    · rw [List.drop_eq_getElem_cons hi, width_cons]
      omega
/-- How many of a row fit. -/
def front (w : Int) : Int → List Gl → Nat
  | _, [] => 0
  | n, g :: t => if n + wid g.f0 > w then 0 else front w (n + wid g.f0) t + 1
theorem front_le (w : Int) : ∀ (l : List Gl) (n : Int), front w n l ≤ l.length
  | [], _ => by simp [front]
  | g :: t, n => by
    rw [front]
    split
    · omega
    · have := front_le w t (n + wid g.f0)
      simp only [List.length_cons]
      omega
theorem cut_ev {l : List Gl} {w : Int} (hw : 0 ≤ w) (h : l.length < 17592186044416) : Ev (fun k => cells_Cut.f k l w) (l.take (front w 0 l), l.drop (front w 0 l)) := by
  have hend : ∀ m : Nat, m ≤ l.length → (if 0 ≤ (m : Int) then (if (m : Int) ≤ (l.length : Int) then ((clone_G.f (l.take (m : Int).toNat)).bind fun a => ((clone_G.f (l.drop (m : Int).toNat)).bind fun b => (some (a, b)))) else (none)) else (none)) = some (l.take m, l.drop m) := by
    intro m hm
    rw [if_pos (by omega), if_pos (by omega)]
    simp only [Int.toNat_natCast]
    rw [show clone_G.f (l.take m) = some (l.take m) by unfold clone_G.f; rw [if_pos (by rw [List.length_take]; omega)], Option.bind_some, show clone_G.f (l.drop m) = some (l.drop m) by unfold clone_G.f; rw [if_pos (by rw [List.length_drop]; omega)], Option.bind_some]
  unfold cells_Cut.f
  refine ev_neg (by omega) ?_
  refine ev_eq (loop_up (fun k n i => cells_Cut.l0 k l w n i l (l.length : Int) i) l.length (fun n i => (l.take (i + front w n (l.drop i)), l.drop (i + front w n (l.drop i)))) (fun n i => 0 ≤ n ∧ n ≤ 2 * i) ?_ ?_ 0 0 (by omega) ⟨by omega, by omega⟩) (by simp)
  · intro n _
    refine Ev.step (f := fun _ => some (l.take l.length, l.drop l.length)) (fun k => ?_) (ev_eq (Ev.now _) (by simp [front]))
    simp only [cells_Cut.l0]
    rw [if_neg (by omega), hend l.length (Nat.le_refl _)]
  · intro n i hi ⟨h0, h1⟩ ih
    have hx := wid_range l[i].f0
    refine Ev.step (f := fun k => if n + wid l[i].f0 > w then some (l.take i, l.drop i) else cells_Cut.l0 k l w (n + wid l[i].f0) ((i + 1 : Nat) : Int) l (l.length : Int) ((i + 1 : Nat) : Int)) (fun k => ?_) ?_
    · simp only [cells_Cut.l0]
      rw [if_pos (by omega), if_pos (by omega), if_pos (by omega), rdG l i hi, show runes_Width.f l[i].f0 = some (wid l[i].f0) from rfl, Option.bind_some, wrap_of (x := n + wid l[i].f0) (by omega) (by omega), wrap_up hi (by omega), hend i (by omega)]
    · rw [List.drop_eq_getElem_cons hi, front]
      refine ev_ite (fun hc => ev_eq (Ev.now _) (by rw [if_pos hc]; simp)) (fun hc => ev_eq (ih _ ⟨by omega, by omega⟩) (by rw [if_neg hc, show i + 1 + front w (n + wid l[i].f0) (l.drop (i + 1)) = i + (front w (n + wid l[i].f0) (l.drop (i + 1)) + 1) from by omega]))
/-- The runes of a row. -/
def runesOf (l : List Gl) : List Int := l.map (·.f0)
def ofRunes (s : Int) (l : List Int) : List Gl := l.map (fun r => ⟨r, s⟩)
theorem ofRunes_nil (s : Int) : ofRunes s [] = [] := rfl
theorem ofRunes_cons (s r : Int) (l : List Int) : ofRunes s (r :: l) = ⟨r, s⟩ :: ofRunes s l := rfl
theorem ofRunes_append (s : Int) (a b : List Int) : ofRunes s (a ++ b) = ofRunes s a ++ ofRunes s b := by simp [ofRunes]
theorem ofRunes_length (s : Int) (l : List Int) : (ofRunes s l).length = l.length := by simp [ofRunes]
theorem runesOf_nil : runesOf [] = [] := rfl
theorem runesOf_cons (g : Gl) (l : List Gl) : runesOf (g :: l) = g.f0 :: runesOf l := rfl
theorem runesOf_append (a b : List Gl) : runesOf (a ++ b) = runesOf a ++ runesOf b := by simp [runesOf]
theorem runesOf_length (l : List Gl) : (runesOf l).length = l.length := by simp [runesOf]
theorem runesOf_ofRunes (s : Int) (l : List Int) : runesOf (ofRunes s l) = l := by
  unfold runesOf ofRunes
  rw [List.map_map]
  exact List.map_id _
theorem bytesOf_Bytes (s : ByteArray) : Bytes (bytesOf s) := fun x hx => by
  unfold bytesOf at hx
  obtain ⟨u, _, rfl⟩ := List.mem_map.1 hx
  have := u.toNat_lt
  omega
theorem of_ev (s : ByteArray) (set : Int) (h : s.size < 17592186044416) : Ev (fun k => cells_Of.f k s set) (ofRunes set (decode (bytesOf s))) := by
  have hb := bytesOf_Bytes s
  have hl := (decode_length _ hb).1
  rw [bytesOf_length] at hl
  unfold cells_Of.f
  refine ev_bind1 (a := bytesOf s) (by unfold conv_bytes.f; rw [if_pos (by omega)]) (Ev.bind (decode_ev hb (by rw [bytesOf_length]; omega)) ?_)
  generalize decode (bytesOf s) = l at hl
  refine ev_eq (loop_up (fun k o i => cells_Of.l0 k set o l (l.length : Int) i) l.length (fun o i => o ++ ofRunes set (l.drop i)) (fun o i => o.length = i) ?_ ?_ [] 0 (by omega) rfl) (by simp)
  · intro o _
    exact Ev.step (f := fun _ => some o) (fun k => by simp only [cells_Of.l0]; rw [if_neg (by omega)]) (ev_eq (Ev.now _) (by rw [List.drop_length, ofRunes_nil, List.append_nil]))
  · intro o i hi ho ih
    refine Ev.step (f := fun k => cells_Of.l0 k set (o ++ [⟨l[i], set⟩]) l (l.length : Int) ((i + 1 : Nat) : Int)) (fun k => ?_) (ev_eq (ih (o ++ [⟨l[i], set⟩]) (by simp [ho])) ?_)
    · simp only [cells_Of.l0]
      rw [if_pos (by omega), if_pos (by omega), if_pos (by omega), if_pos (by omega), rd_nat l i hi, wrap_up hi (by omega)]
    · rw [List.drop_eq_getElem_cons hi, ofRunes_cons, List.append_assoc]
      rfl
theorem text_ev (l : List Gl) (h : l.length < 8796093022208) : Ev (fun k => cells_Text.f k l) (strOfNums (encode (runesOf l))) := by
  unfold cells_Text.f
  refine ev_eq (loop_up (fun k o i => cells_Text.l0 k o l (l.length : Int) i) l.length (fun o i => strOfNums (encode (o ++ runesOf (l.drop i)))) (fun o i => o.length = i) ?_ ?_ [] 0 (by omega) rfl) (by simp)
  · intro o ho
    refine Ev.step (f := fun k => (runes_Encode.f k o).bind fun t => some (strOfNums t)) (fun k => by simp only [cells_Text.l0]; rw [if_neg (by omega)]) (Ev.bind (encode_ev o (by omega)) (ev_eq (Ev.now _) (by rw [List.drop_length, runesOf_nil, List.append_nil])))
  · intro o i hi ho ih
    refine Ev.step (f := fun k => cells_Text.l0 k (o ++ [l[i].f0]) l (l.length : Int) ((i + 1 : Nat) : Int)) (fun k => ?_) (ev_eq (ih (o ++ [l[i].f0]) (by simp [ho])) ?_)
    · simp only [cells_Text.l0]
      rw [if_pos (by omega), if_pos (by omega), if_pos (by omega), if_pos (by omega), rdG l i hi, wrap_up hi (by omega)]
    · rw [List.drop_eq_getElem_cons hi, runesOf_cons, List.append_assoc]
      rfl
end Go.Proofs.YtdcbaefcgghbmaaDoor.Pure

/- The reference's text of glyphs; two rows, one behind the other; whether two rows are the same; what may be written. -/
namespace Go.Proofs.YtdcbaefcgghbmaaDoor.Pure
open Go.RowKit Go.Proofs.YtdcbaefcgghbmaaDoorW.PrintWords Go.Proofs.YtdcbaefcgghbmaaDoorW.PrintLast Go.Proofs.YtdcbaefcgghbmaaDoorW.PrintMore Go.Proofs.YtdcbaefcgghbmaaDoor.X Go.Proofs.YtdcbaefcgghbmaaDoor.Hand
set_option linter.unusedSimpArgs false
set_option linter.unusedVariables false
theorem rof_ev (s : ByteArray) (set : Int) (h : s.size ≤ 1000000000) : Ev (fun k => flongref03_Of.f k s set) (ofRunes set (decode (bytesOf s))) := by
  have hb := bytesOf_Bytes s
  have hl := (decode_length _ hb).1
  rw [bytesOf_length] at hl
  unfold flongref03_Of.f
  refine ev_bind1 (a := bytesOf s) (by unfold conv_bytes.f; rw [if_pos (by omega)]) (Ev.bind (rdecode_ev hb (by rw [bytesOf_length]; omega)) ?_)
  generalize decode (bytesOf s) = l at hl
  refine ev_eq (loop_up (fun k o i => flongref03_Of.l0 k set l o i) l.length (fun o i => o ++ ofRunes set (l.drop i)) (fun o i => o.length = i) ?_ ?_ [] 0 (by omega) rfl) (by simp)
  · intro o _
    exact Ev.step (f := fun _ => some o) (fun k => by simp only [flongref03_Of.l0]; rw [if_neg (by omega)]) (ev_eq (Ev.now _) (by rw [List.drop_length, ofRunes_nil, List.append_nil]))
  · intro o i hi ho ih
    refine Ev.step (f := fun k => flongref03_Of.l0 k set l (o ++ [⟨l[i], set⟩]) ((i + 1 : Nat) : Int)) (fun k => ?_) (ev_eq (ih (o ++ [⟨l[i], set⟩]) (by simp [ho])) ?_)
    · simp only [flongref03_Of.l0]
      rw [if_pos (by omega), if_pos (by omega), if_pos (by omega), rd_nat l i hi, wrap_up hi (by omega)]
    · rw [List.drop_eq_getElem_cons hi, ofRunes_cons, List.append_assoc]
      rfl
theorem same39_ev (a b : List Gl) (h : a.length ≤ 9223372036854775807) : Ev (fun k => api_Glyph_39.f k a b) (decide (a = b)) := by
  unfold api_Glyph_39.f
  refine ev_ite (fun hl => ?_) (fun hl => ev_eq (Ev.now _) (by symm; rw [decide_eq_false_iff_not]; intro e; exact hl (by rw [e])))
  have hl' : a.length = b.length := by omega
  refine ev_eq (loop_up (σ := Unit) (fun k _ i => api_Glyph_39.l0 k a b (a.length : Int) i) a.length (fun _ i => decide (a.drop i = b.drop i)) (fun _ _ => True) ?_ ?_ () 0 (by omega) trivial) (by simp)
  · intro _ _
    exact Ev.step (f := fun _ => some true) (fun k => by simp only [api_Glyph_39.l0]; rw [if_neg (by omega)]) (ev_eq (Ev.now _) (by simp [hl']))
  · intro _ i hi _ ih
    refine Ev.step (f := fun k => if (!((a[i].f0) == (b[i].f0)) || (!((a[i].f1) == (b[i].f1)))) = true then some false else api_Glyph_39.l0 k a b (a.length : Int) ((i + 1 : Nat) : Int)) (fun k => ?_) ?_
    · simp only [api_Glyph_39.l0]
      rw [if_pos (by omega), if_pos (by omega), if_pos (by omega), if_pos (by omega), rdG a i hi, rdG b i (by omega), wrap_up hi h]
    · refine ev_ite (fun hc => ev_eq (Ev.now _) ?_) (fun hc => ev_eq (ih () trivial) ?_)
      · symm
        rw [decide_eq_false_iff_not, drop_ne hi (by omega)]
        exact fun e => (gl_ne _ _).1 hc e.1
      · have e : a[i] = b[i] := Decidable.of_not_not fun e => hc ((gl_ne _ _).2 e)
        simp only [drop_ne hi (show i < b.length by omega), e, true_and]
theorem csame_ev (a b : List Gl) (h : a.length ≤ 9223372036854775807) : Ev (fun k => cells_Same.f k a b) (decide (a = b)) := by
  unfold cells_Same.f
  exact Ev.bind (same39_ev a b h) (Ev.now _)
/-- One glyph, as it may be written. -/
def cleanG (g : Gl) : Gl := ⟨safe (if g.f0 = 160 then 32 else g.f0), Go.bits .and .u8 g.f1 3⟩
def clean (l : List Gl) : List Gl := (l.map cleanG).dropWhile (fun g => !decide (wid g.f0 > 0))
theorem clean_ev (l : List Gl) (h : l.length < 17592186044416) : Ev (fun k => cells_Clean.f k l) (clean l) := by
  unfold cells_Clean.f
  refine ev_eq (loop_up (fun k o i => cells_Clean.l0 k o l (l.length : Int) i) l.length (fun o i => if o = [] then clean (l.drop i) else o ++ (l.drop i).map cleanG) (fun o i => o.length ≤ i) ?_ ?_ [] 0 (by omega) (by simp)) (by simp)
  · intro o _
    refine Ev.step (f := fun _ => some o) (fun k => by simp only [cells_Clean.l0]; rw [if_neg (by omega)]) (ev_eq (Ev.now _) ?_)
    rw [List.drop_length]
    split
    · rename_i e
      rw [e]
      rfl
    · simp
  · intro o i hi ho ih
    have hj : ∀ x : Int, (if l[i].f0 = 160 then 32 else l[i].f0) = x → Ev (fun k => cells_Clean.j1 k o l (l.length : Int) (i : Int) x l[i].f1) (if o = [] then clean (l.drop i) else o ++ (l.drop i).map cleanG) := by
      intro x hx
      have hg : cleanG l[i] = ⟨safe x, Go.bits .and .u8 l[i].f1 3⟩ := by rw [cleanG, hx]
      refine Ev.step (f := fun k => (runes_Safe.f k x).bind fun t => (if (o.length : Int) > 0 then (cells_Clean.l0 k (o ++ [(⟨t, Go.bits .and .u8 l[i].f1 3⟩ : Gl)]) l (l.length : Int) ((i + 1 : Nat) : Int)) else (if wid t > 0 then (cells_Clean.l0 k (o ++ [(⟨t, Go.bits .and .u8 l[i].f1 3⟩ : Gl)]) l (l.length : Int) ((i + 1 : Nat) : Int)) else (cells_Clean.l0 k o l (l.length : Int) ((i + 1 : Nat) : Int))))) (fun k => ?_) ?_
      · simp only [cells_Clean.j1]
        rw [wrap_up hi (by omega)]
        congr 1
        funext t
        rw [show runes_Width.f t = some (wid t) from rfl, Option.bind_some, if_pos (show o.length < 17592186044416 by omega)]
      · refine Ev.bind (safe_ev x) ?_
        rw [← hg]
        have h1 : Ev (fun k => cells_Clean.l0 k (o ++ [cleanG l[i]]) l (l.length : Int) ((i + 1 : Nat) : Int)) (o ++ cleanG l[i] :: (l.drop (i + 1)).map cleanG) := by
          refine ev_eq (ih (o ++ [cleanG l[i]]) (by simp; omega)) ?_
          rw [if_neg (by simp), List.append_assoc]
          rfl
        refine ev_ite (fun hc => ev_eq h1 ?_) (fun hc => ?_)
        · rw [if_neg (by intro e; rw [e] at hc; simp at hc), List.drop_eq_getElem_cons hi, List.map_cons]
        · obtain rfl : o = [] := by
            rcases o with _ | ⟨_, _⟩
            · rfl
            · exfalso
              apply hc
              simp only [List.length_cons]
              omega
          rw [if_pos rfl]
          have hw : wid (safe x) = wid (cleanG l[i]).f0 := by rw [hg]
          rw [hw]
          refine ev_ite (fun hp => ev_eq h1 ?_) (fun hp => ev_eq (ih [] (by simp)) ?_)
          · rw [List.drop_eq_getElem_cons hi, clean, List.map_cons, List.dropWhile_cons, if_neg (by simp [hp])]
            rfl
          · rw [if_pos rfl, List.drop_eq_getElem_cons hi, clean, clean, List.map_cons, List.dropWhile_cons, if_pos (by simp [hp])]
    refine Ev.step (f := fun k => if l[i].f0 = 160 then cells_Clean.j1 k o l (l.length : Int) (i : Int) 32 l[i].f1 else cells_Clean.j1 k o l (l.length : Int) (i : Int) l[i].f0 l[i].f1) (fun k => ?_) ?_
    · simp only [cells_Clean.l0]
      rw [if_pos (by omega), if_pos (by omega), if_pos (by omega), rdG l i hi]
    · exact ev_ite (fun hc => hj 32 (if_pos hc)) (fun hc => hj _ (if_neg hc))
end Go.Proofs.YtdcbaefcgghbmaaDoor.Pure

/- What the chapter's example fixes: computed. -/
namespace Go.Proofs.YtdcbaefcgghbmaaDoor.Pure
open Go.RowKit Go.Proofs.YtdcbaefcgghbmaaDoorW.PrintWords Go.Proofs.YtdcbaefcgghbmaaDoorW.PrintLast Go.Proofs.YtdcbaefcgghbmaaDoor.X
theorem known_ev : Ev (fun k => flonglaw03_known.f k) true := Ev.of (k := 20) flonglaw03_known.mono (by kernel_rfl)
end Go.Proofs.YtdcbaefcgghbmaaDoor.Pure
