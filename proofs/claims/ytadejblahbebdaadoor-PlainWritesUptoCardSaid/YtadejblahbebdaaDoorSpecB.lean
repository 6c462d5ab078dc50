/- SpecB: several of this session's texts in one. -/
import Derived.Test.YtadejblahbebdaaDoorSpecN
import Derived.Test.YtadejblahbebdaaDoorSpecU
import Derived.Test.YtadejblahbebdaaDoorX6
import Derived.Test.YtadejblahbebdaaDoorX10
import Derived.Test.YtadejblahbebdaaDoorX12
import Derived.Test.YtadejblahbebdaaDoorX14
/- Package cells: a row's runes, its text; a text's glyphs. -/
namespace Go.Proofs.YtadejblahbebdaaDoor.Pure
open Go.RowKit Go.Proofs.YtadejblahbebdaaDoorW.PrintWords Go.Proofs.YtadejblahbebdaaDoorW.PrintLast Go.Proofs.YtadejblahbebdaaDoorW.PrintMore Go.Proofs.YtadejblahbebdaaDoor.X Go.Proofs.YtadejblahbebdaaDoor.Hand
set_option linter.unusedSimpArgs false
set_option linter.unusedVariables false

/-- The runes of a row. -/
def runesOf (l : List Gl) : List Int := l.map (·.f0)
def ofRunes (s : Int) (l : List Int) : List Gl := l.map (fun r => ⟨r, s⟩)
theorem ofRunes_nil (s : Int) : ofRunes s [] = [] := rfl
theorem ofRunes_cons (s r : Int) (l : List Int) : ofRunes s (r :: l) = ⟨r, s⟩ :: ofRunes s l := rfl
theorem ofRunes_append (s : Int) (a b : List Int) : ofRunes s (a ++ b) = ofRunes s a ++ ofRunes s b := by simp [ofRunes]
theorem ofRunes_length (s : Int) (l : List Int) : (ofRunes s l).length = l.length := by simp [ofRunes]
theorem runesOf_nil : runesOf [] = [] := rfl
theorem runesOf_cons (g : Gl) (l : List Gl) : runesOf (g :: l) = g.f0 :: runesOf l := rfl
theorem runesOf_append (a b : List Gl) : runesOf (a ++ b) = runesOf a ++ runesOf b := by simp [runesOf]
theorem runesOf_length (l : List Gl) : (runesOf l).length = l.length := by simp [runesOf]
theorem runesOf_ofRunes (s : Int) (l : List Int) : runesOf (ofRunes s l) = l := by
  unfold runesOf ofRunes
  rw [List.map_map]
  exact List.map_id _
theorem bytesOf_Bytes (s : ByteArray) : Bytes (bytesOf s) := fun x hx => by
  unfold bytesOf at hx
  obtain ⟨u, _, rfl⟩ := List.mem_map.1 hx
  have := u.toNat_lt
  omega
theorem text_ev (l : List Gl) (h : l.length < 8796093022208) : Ev (fun k => cells_Text.f k l) (strOfNums (encode (runesOf l))) := by
  unfold cells_Text.f
  refine ev_eq (loop_up (fun k o i => cells_Text.l0 k o l (l.length : Int) i) l.length (fun o i => strOfNums (encode (o ++ runesOf (l.drop i)))) (fun o i => o.length = i) ?_ ?_ [] 0 (by omega) rfl) (by simp)
  · intro o ho
    refine Ev.step (f := fun k => (runes_Encode.f k o).bind fun t => some (strOfNums t)) (fun k => by simp only [cells_Text.l0]; rw [if_neg (by omega)]) (Ev.bind (encode_ev o (by omega)) (ev_eq (Ev.now _) (by rw [List.drop_length, runesOf_nil, List.append_nil])))
  · intro o i hi ho ih
    refine Ev.step (f := fun k => cells_Text.l0 k (o ++ [l[i].f0]) l (l.length : Int) ((i + 1 : Nat) : Int)) (fun k => ?_) (ev_eq (ih (o ++ [l[i].f0]) (by simp [ho])) ?_)
    · simp only [cells_Text.l0]
      rw [if_pos (by omega), if_pos (by omega), if_pos (by omega), if_pos (by omega), rdG l i hi, wrap_up hi (by omega)]
    · rw [List.drop_eq_getElem_cons hi, runesOf_cons, List.append_assoc]
      rfl
end Go.Proofs.YtadejblahbebdaaDoor.Pure

/- The reference: what may be written of a row. -/
namespace Go.Proofs.YtadejblahbebdaaDoor.Pure
open Go.RowKit Go.Proofs.YtadejblahbebdaaDoorW.PrintWords Go.Proofs.YtadejblahbebdaaDoorW.PrintLast Go.Proofs.YtadejblahbebdaaDoorW.PrintMore Go.Proofs.YtadejblahbebdaaDoor.X Go.Proofs.YtadejblahbebdaaDoor.Hand
set_option linter.unusedSimpArgs false
set_option linter.unusedVariables false
theorem tmod4 {x : Int} (h : 0 ≤ x ∧ x ≤ 255) : Int.tmod x 4 = Go.bits .and .u8 x 3 := by
  have h1 : ∀ n : Nat, n < 256 → Int.tmod (n : Int) 4 = Go.bits .and .u8 (n : Int) 3 := by decide +kernel
  obtain ⟨n, rfl⟩ := Int.eq_ofNat_of_zero_le h.1
  exact h1 n (by omega)
theorem safe_32 : safe 32 = 32 := by decide +kernel
theorem rclean_ev (l : List Gl) (h : l.length ≤ 5000) (h8 : ∀ g ∈ l, 0 ≤ g.f1 ∧ g.f1 ≤ 255) : Ev (fun k => flongref03_Clean.f k l) (clean l) := by
  unfold flongref03_Clean.f
  refine ev_eq (loop_up (fun k o i => flongref03_Clean.l0 k l o i) l.length (fun o i => if o = [] then clean (l.drop i) else o ++ (l.drop i).map cleanG) (fun o i => o.length ≤ i) ?_ ?_ [] 0 (by omega) (by simp)) (by simp)
  · intro o _
    refine Ev.step (f := fun _ => some o) (fun k => by simp only [flongref03_Clean.l0]; rw [if_neg (by omega)]) (ev_eq (Ev.now _) ?_)
    rw [List.drop_length]
    split
    · rename_i e
      rw [e]
      rfl
    · simp
  · intro o i hi ho ih
    have h1 : Ev (fun k => flongref03_Clean.l0 k l (o ++ [cleanG l[i]]) ((i + 1 : Nat) : Int)) (o ++ cleanG l[i] :: (l.drop (i + 1)).map cleanG) := by
      refine ev_eq (ih (o ++ [cleanG l[i]]) (by simp; omega)) ?_
      rw [if_neg (by simp), List.append_assoc]
      rfl
    have hst : Int.tmod l[i].f1 4 = Go.bits .and .u8 l[i].f1 3 := tmod4 (h8 l[i] (List.getElem_mem hi))
    have hj : ∀ x : Int, cleanG l[i] = ⟨x, Int.tmod l[i].f1 4⟩ → Ev (fun k => if (o.length : Int) > 0 then (if o.length < 17592186044416 then flongref03_Clean.l0 k l (o ++ [(⟨x, Int.tmod l[i].f1 4⟩ : Gl)]) ((i + 1 : Nat) : Int) else none) else ((flongref02_Width.f k x).bind fun t => if t > 0 then (if o.length < 17592186044416 then flongref03_Clean.l0 k l (o ++ [(⟨x, Int.tmod l[i].f1 4⟩ : Gl)]) ((i + 1 : Nat) : Int) else none) else flongref03_Clean.l0 k l o ((i + 1 : Nat) : Int))) (if o = [] then clean (l.drop i) else o ++ (l.drop i).map cleanG) := by
      intro x hx
      rw [← hx]
      refine ev_ite (fun hc => ev_pos (by omega) (ev_eq h1 ?_)) (fun hc => ?_)
      · rw [if_neg (by intro e; rw [e] at hc; simp at hc), List.drop_eq_getElem_cons hi, List.map_cons]
      · obtain rfl : o = [] := by
          rcases o with _ | ⟨_, _⟩
          · rfl
          · exfalso
            apply hc
            simp only [List.length_cons]
            omega
        rw [if_pos rfl]
        have hw : wid x = wid (cleanG l[i]).f0 := by rw [hx]
        refine Ev.bind (rwidth_ev x) ?_
        rw [hw]
        refine ev_ite (fun hp => ev_pos (by simp) (ev_eq h1 ?_)) (fun hp => ev_eq (ih [] (by simp)) ?_)
        · rw [List.drop_eq_getElem_cons hi, clean, List.map_cons, List.dropWhile_cons, if_neg (by simp [hp])]
          rfl
        · rw [if_pos rfl, List.drop_eq_getElem_cons hi, clean, clean, List.map_cons, List.dropWhile_cons, if_pos (by simp [hp])]
    by_cases hc : l[i].f0 = 160
    · refine Ev.step (f := fun k => if (o.length : Int) > 0 then (if o.length < 17592186044416 then flongref03_Clean.l0 k l (o ++ [(⟨32, Int.tmod l[i].f1 4⟩ : Gl)]) ((i + 1 : Nat) : Int) else none) else ((flongref02_Width.f k 32).bind fun t => if t > 0 then (if o.length < 17592186044416 then flongref03_Clean.l0 k l (o ++ [(⟨32, Int.tmod l[i].f1 4⟩ : Gl)]) ((i + 1 : Nat) : Int) else none) else flongref03_Clean.l0 k l o ((i + 1 : Nat) : Int))) (fun k => ?_) (hj 32 ?_)
      · simp only [flongref03_Clean.l0]
        rw [if_pos (by omega), if_pos (by omega), rdG l i hi, rsafe_eq, Option.bind_some, if_pos hc, wrap_up hi (by omega)]
      · rw [cleanG, if_pos hc, safe_32, hst]
    · refine Ev.step (f := fun k => if (o.length : Int) > 0 then (if o.length < 17592186044416 then flongref03_Clean.l0 k l (o ++ [(⟨safe l[i].f0, Int.tmod l[i].f1 4⟩ : Gl)]) ((i + 1 : Nat) : Int) else none) else ((flongref02_Width.f k (safe l[i].f0)).bind fun t => if t > 0 then (if o.length < 17592186044416 then flongref03_Clean.l0 k l (o ++ [(⟨safe l[i].f0, Int.tmod l[i].f1 4⟩ : Gl)]) ((i + 1 : Nat) : Int) else none) else flongref03_Clean.l0 k l o ((i + 1 : Nat) : Int))) (fun k => ?_) (hj (safe l[i].f0) ?_)
      · simp only [flongref03_Clean.l0]
        rw [if_pos (by omega), if_pos (by omega), rdG l i hi, rsafe_eq, Option.bind_some, if_neg hc, wrap_up hi (by omega)]
      · rw [cleanG, if_neg hc, hst]
end Go.Proofs.YtadejblahbebdaaDoor.Pure

/- The reference: a row trimmed. -/
namespace Go.Proofs.YtadejblahbebdaaDoor.Pure
open Go.RowKit Go.Proofs.YtadejblahbebdaaDoorW.PrintWords Go.Proofs.YtadejblahbebdaaDoorW.PrintLast Go.Proofs.YtadejblahbebdaaDoorW.PrintMore Go.Proofs.YtadejblahbebdaaDoor.X Go.Proofs.YtadejblahbebdaaDoor.Hand
set_option linter.unusedSimpArgs false
set_option linter.unusedVariables false
theorem rtrim_ev {l : List Gl} {m : Nat} (hm : IsTrim l m) (h : l.length ≤ 5000) : Ev (fun k => flongref03_Trim.f k l) (l.take m) := by
  have hle := hm.le
  have hend : (if 0 ≤ (m : Int) then (if (m : Int) ≤ (l.length : Int) then (some (l.take (m : Int).toNat)) else (none)) else (none)) = some (l.take m) := by
    rw [if_pos (by omega), if_pos (by omega), Int.toNat_natCast]
  have key : ∀ d n, n - m = d → m ≤ n → n ≤ l.length → Ev (fun k => flongref03_Trim.l0 k l (n : Int)) (l.take m) := by
    intro d
    induction d with
    | zero =>
      intro n hd h1 h2
      obtain rfl : n = m := by omega
      refine Ev.step (f := fun _ => some (l.take n)) (fun k => ?_) (Ev.now _)
      simp only [flongref03_Trim.l0]
      by_cases hp : 0 < n
      · have hg := hm.last l[n - 1] hp (List.getElem?_eq_getElem (by omega))
        rw [if_pos (by omega), wrap_of (by omega) (by omega), show (n : Int) - 1 = ((n - 1 : Nat) : Int) by omega, if_pos (by omega), if_pos (by omega), rdG l (n - 1) (by omega), if_neg hg, hend]
      · rw [if_neg (by omega), hend]
    | succ d ih =>
      intro n hd h1 h2
      have hg := hm.rest (n - 1) (l[n - 1]'(by omega)) (by omega) (List.getElem?_eq_getElem (by omega))
      refine Ev.step (f := fun k => flongref03_Trim.l0 k l ((n - 1 : Nat) : Int)) (fun k => ?_) (ih (n - 1) (by omega) (by omega) (by omega))
      simp only [flongref03_Trim.l0]
      rw [if_pos (by omega), wrap_of (by omega) (by omega), show (n : Int) - 1 = ((n - 1 : Nat) : Int) by omega, if_pos (by omega), if_pos (by omega), rdG l (n - 1) (by omega), if_pos hg]
  unfold flongref03_Trim.f
  exact key (l.length - m) l.length rfl hle (Nat.le_refl _)
end Go.Proofs.YtadejblahbebdaaDoor.Pure

/- The reference's rows of glyphs: what text; rows of rows the same. -/
namespace Go.Proofs.YtadejblahbebdaaDoor.Pure
open Go.RowKit Go.Proofs.YtadejblahbebdaaDoorW.PrintWords Go.Proofs.YtadejblahbebdaaDoorW.PrintLast Go.Proofs.YtadejblahbebdaaDoorW.PrintMore Go.Proofs.YtadejblahbebdaaDoor.X Go.Proofs.YtadejblahbebdaaDoor.Hand
set_option linter.unusedSimpArgs false
set_option linter.unusedVariables false
theorem rdL (l : List (List Gl)) (i : Nat) (h : i < l.length) : rd_L6 l (i : Int) = l[i] := by
  simp [rd_L6, List.getD_eq_getElem?_getD, List.getElem?_eq_getElem h]
theorem one_len4 (r : Int) : (one r).length ≤ 4 := by
  have := encode_length [r]
  rw [encode_cons, encode_nil, List.append_nil] at this
  simpa using this
theorem rgtext_ev (l : List Gl) (h : l.length ≤ 5000) : Ev (fun k => flongref03_Text.f k l) (strOfNums (encode (runesOf l))) := by
  unfold flongref03_Text.f
  refine ev_eq (loop_up (fun k o i => flongref03_Text.l0 k l o i) l.length (fun o i => strOfNums (o ++ encode (runesOf (l.drop i)))) (fun o i => o.length ≤ 4 * i) ?_ ?_ [] 0 (by omega) (by simp)) (by simp)
  · intro o _
    exact Ev.step (f := fun _ => some (strOfNums o)) (fun k => by simp only [flongref03_Text.l0]; rw [if_neg (by omega)]) (ev_eq (Ev.now _) (by rw [List.drop_length, runesOf_nil, encode_nil, List.append_nil]))
  · intro o i hi ho ih
    have hl := one_len4 l[i].f0
    refine Ev.step (f := fun k => (flongref02_One.f k l[i].f0).bind fun t => if o.length + t.length < 140737488355328 then flongref03_Text.l0 k l (o ++ t) ((i + 1 : Nat) : Int) else none) (fun k => ?_) ?_
    · simp only [flongref03_Text.l0]
      rw [if_pos (by omega), if_pos (by omega), rdG l i hi, wrap_up hi (by omega)]
    · refine Ev.bind (rone_ev _) (ev_pos (by omega) (ev_eq (ih (o ++ one l[i].f0) (by rw [List.length_append]; omega)) ?_))
      rw [List.drop_eq_getElem_cons hi, runesOf_cons, encode_cons, List.append_assoc]
theorem samerows_true (a : List (List Gl)) (h : a.length ≤ 5000) (h2 : ∀ r ∈ a, r.length ≤ 5000) : Ev (fun k => flongref03_SameRows.f k a a) true := by
  unfold flongref03_SameRows.f
  refine ev_pos rfl ?_
  refine loop_up (σ := Unit) (fun k _ i => flongref03_SameRows.l0 k a a i) a.length (fun _ _ => true) (fun _ _ => True) ?_ ?_ () 0 (by omega) trivial
  · intro _ _
    exact Ev.step (f := fun _ => some true) (fun k => by simp only [flongref03_SameRows.l0]; rw [if_neg (by omega)]) (Ev.now _)
  · intro _ i hi _ ih
    refine Ev.step (f := fun k => (flongref03_Same.f k a[i] a[i]).bind fun t => if t = true then flongref03_SameRows.l0 k a a ((i + 1 : Nat) : Int) else some false) (fun k => ?_) ?_
    · simp only [flongref03_SameRows.l0]
      rw [if_pos (by omega), if_pos (by omega), if_pos (by omega), rdL a i hi, wrap_up hi (by omega)]
    · have := h2 a[i] (List.getElem_mem hi)
      exact Ev.bind (gsame_true rfl (by omega)) (ev_pos rfl (ih () trivial))
end Go.Proofs.YtadejblahbebdaaDoor.Pure
