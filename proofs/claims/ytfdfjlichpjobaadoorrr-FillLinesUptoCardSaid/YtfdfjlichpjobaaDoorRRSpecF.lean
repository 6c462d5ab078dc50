/- SpecF: several of this session's texts in one. -/
import Derived.Test.YtfdfjlichpjobaaDoorRRHandL
import Derived.Test.YtfdfjlichpjobaaDoorRRSpecN
import Derived.Test.YtfdfjlichpjobaaDoorRRHandI
import Derived.Test.YtfdfjlichpjobaaDoorRRX4
import Derived.Test.YtfdfjlichpjobaaDoorRRX10
import Derived.Test.YtfdfjlichpjobaaDoorRRX5
import Derived.Test.YtfdfjlichpjobaaDoorRRX12
import Derived.Test.YtfdfjlichpjobaaDoorRRX14
import Derived.Test.YtfdfjlichpjobaaDoorRRX15
/- Package fill, and the reference beside it: a text's words. -/
namespace Go.Proofs.YtfdfjlichpjobaaDoorRR.Pure
open Go.RowKit Go.Proofs.YtfdfjlichpjobaaDoorRRW.PrintWords Go.Proofs.YtfdfjlichpjobaaDoorRRW.PrintLast Go.Proofs.YtfdfjlichpjobaaDoorRRW.PrintMore Go.Proofs.YtfdfjlichpjobaaDoorRR.X Go.Proofs.YtfdfjlichpjobaaDoorRR.Hand
set_option linter.unusedSimpArgs false
set_option linter.unusedVariables false
/-- A word, if it has a width. -/
def emit (a : List Gl) : List (List Gl) := if width (clean a) > 0 then [clean a] else []
theorem emit_nil : emit [] = [] := by
  unfold emit
  rw [if_neg]
  show ¬ (width [] > 0)
  rw [width_nil]
  decide
def wordsGo : List Gl → List Gl → List (List Gl)
  | acc, [] => emit acc
  | acc, g :: t => if g.f0 = 32 then emit acc ++ wordsGo [] t else wordsGo (acc ++ [g]) t
def words (l : List Gl) : List (List Gl) := wordsGo [] l
theorem words_nil : words [] = [] := emit_nil
theorem wordsGo_noblank : ∀ (l acc : List Gl), (∀ g ∈ l, g.f0 ≠ 32) → wordsGo acc l = emit (acc ++ l)
  | [], acc, _ => by rw [List.append_nil]; rfl
  | g :: t, acc, h => by
    rw [wordsGo, if_neg (h g (by simp)), wordsGo_noblank t _ (fun x hx => h x (by simp [hx])), List.append_assoc]
    rfl
theorem wordsGo_split : ∀ (l acc : List Gl) (i : Nat) (hi : i < l.length), l[i].f0 = 32 → (∀ j (hj : j < i), (l[j]'(by omega)).f0 ≠ 32) → wordsGo acc l = emit (acc ++ l.take i) ++ words (l.drop (i + 1))
  | [], _, _, hi, _, _ => by simp at hi
  | g :: t, acc, 0, _, h, _ => by
    rw [wordsGo, if_pos (by simpa using h)]
    simp [words]
  | g :: t, acc, i + 1, hi, h, hj => by
    rw [wordsGo, if_neg (by simpa using hj 0 (by omega))]
    rw [wordsGo_split t (acc ++ [g]) i (by simpa using hi) (by simpa using h) (fun j hlt => by simpa using hj (j + 1) (by omega)), List.append_assoc]
    rfl
/-- Where the first word ends. -/
def wordEnd (l : List Gl) : Nat := (l.findIdx? (fun x => x.f0 == 32)).getD l.length
theorem wordEnd_le (l : List Gl) : wordEnd l ≤ l.length := by
  unfold wordEnd
  cases h : l.findIdx? (fun x => x.f0 == 32) with
  | none => exact Nat.le_refl _
  | some i =>
    have := (List.findIdx?_eq_some_iff_getElem.1 h).1
    simp only [Option.getD_some]
    omega
theorem words_end (l : List Gl) : words l = emit (l.take (wordEnd l)) ++ words (l.drop (wordEnd l + 1)) := by
  unfold wordEnd
  cases h : l.findIdx? (fun x => x.f0 == 32) with
  | none =>
    have h2 := List.findIdx?_eq_none_iff.1 h
    rw [Option.getD_none, List.take_length, List.drop_eq_nil_of_le (by omega), words_nil, List.append_nil]
    exact wordsGo_noblank l [] (fun g hg => by simpa using h2 g hg)
  | some i =>
    obtain ⟨h1, h2, h3⟩ := List.findIdx?_eq_some_iff_getElem.1 h
    rw [Option.getD_some]
    exact wordsGo_split l [] i h1 (by simpa using h2) (fun j hj => by simpa using h3 j hj)
theorem place_end (l : List Gl) : (placeOf (fun x => x.f0 == 32) l < 0 ∧ wordEnd l = l.length) ∨ placeOf (fun x => x.f0 == 32) l = (wordEnd l : Int) := by
  unfold placeOf wordEnd
  cases h : l.findIdx? (fun x => x.f0 == 32) with
  | none => exact .inl ⟨by decide, rfl⟩
  | some i => exact .inr rfl
theorem words_l : ∀ (n : Nat) (l : List Gl) (o : List (List Gl)), l.length ≤ n → l.length ≤ 1000000 → o.length + l.length ≤ 2000000 → Ev (fun k => fill_Words.l0 k l o) (o ++ words l) := by
  intro n
  induction n with
  | zero =>
    intro l o hn _ _
    obtain rfl : l = [] := List.eq_nil_of_length_eq_zero (by omega)
    refine Ev.step (f := fun _ => some o) (fun k => ?_) (ev_eq (Ev.now _) (by rw [words_nil, List.append_nil]))
    simp only [fill_Words.l0]
    rw [if_neg (by simp)]
  | succ n ih =>
    intro l o hn hl ho
    by_cases h0 : l.length = 0
    · obtain rfl : l = [] := List.eq_nil_of_length_eq_zero h0
      refine Ev.step (f := fun _ => some o) (fun k => ?_) (ev_eq (Ev.now _) (by rw [words_nil, List.append_nil]))
      simp only [fill_Words.l0]
      rw [if_neg (by simp)]
    · have he := wordEnd_le l
      have hj : Ev (fun k => fill_Words.j1 k l o (wordEnd l : Int)) (o ++ words l) := by
        have hmn : mn (wrap64 ((wordEnd l : Int) + 1)) (l.length : Int) = ((min (wordEnd l + 1) l.length : Nat) : Int) := by
          rw [wrap_of (by omega) (by omega)]
          unfold mn
          split <;> omega
        have hdr : l.drop (min (wordEnd l + 1) l.length) = l.drop (wordEnd l + 1) := by
          rcases Nat.le_total (wordEnd l + 1) l.length with h | h
          · rw [Nat.min_eq_left h]
          · rw [Nat.min_eq_right h, List.drop_length, List.drop_eq_nil_of_le h]
        refine Ev.step (f := fun k => (cells_Clean.f k (l.take (wordEnd l))).bind fun t => (cells_Width.f k t).bind fun t2 => if t2 > 0 then (if o.length < 5864062014805 then fill_Words.l0 k (l.drop (wordEnd l + 1)) (o ++ [t]) else none) else fill_Words.l0 k (l.drop (wordEnd l + 1)) o) (fun k => ?_) ?_
        · simp only [fill_Words.j1]
          have e1 : (0 : Int) ≤ ((min (wordEnd l + 1) l.length : Nat) : Int) := by omega
          have e2 : ((min (wordEnd l + 1) l.length : Nat) : Int) ≤ (l.length : Int) := by omega
          rw [if_pos (by omega), if_pos (by omega), hmn]
          simp only [e1, e2, if_true, Int.toNat_natCast, hdr]
        · have hcl := clean_length (l.take (wordEnd l))
          rw [List.length_take] at hcl
          refine Ev.bind (clean_ev _ (by rw [List.length_take]; omega)) (Ev.bind (width_ev _ (by omega)) ?_)
          have hd : (l.drop (wordEnd l + 1)).length ≤ n := by rw [List.length_drop]; omega
          have hd2 : (l.drop (wordEnd l + 1)).length + 1 ≤ l.length := by rw [List.length_drop]; omega
          rw [words_end l]
          refine ev_ite (fun hw => ev_pos (by omega) (ev_eq (ih _ _ hd (by omega) (by rw [List.length_append, List.length_singleton]; omega)) ?_)) (fun hw => ev_eq (ih _ _ hd (by omega) (by omega)) ?_)
          · rw [emit, if_pos hw, List.append_assoc]
          · rw [emit, if_neg hw, List.nil_append]
      refine Ev.step (f := fun k => if placeOf (fun x => x.f0 == 32) l < 0 then fill_Words.j1 k l o (l.length : Int) else fill_Words.j1 k l o (placeOf (fun x => x.f0 == 32) l)) (fun k => ?_) ?_
      · simp only [fill_Words.l0]
        rw [if_pos (by omega)]
        rfl
      · rcases place_end l with ⟨h1, h2⟩ | h1
        · rw [h2] at hj
          exact ev_pos h1 hj
        · rw [h1]
          exact ev_neg (by omega) hj
theorem words_ev (l : List Gl) (h : l.length ≤ 1000000) : Ev (fun k => fill_Words.f k l) (words l) := by
  unfold fill_Words.f
  exact ev_eq (words_l l.length l [] (Nat.le_refl _) h (by simp; omega)) (by simp)
/-! how many, how long -/
theorem emit_tot (a : List Gl) : tot (emit a) ≤ a.length + 1 := by
  unfold emit
  split
  · rw [tot_cons, tot_nil]
    have := clean_length a
    omega
  · rw [tot_nil]
    omega
theorem wordsGo_tot : ∀ (l acc : List Gl), tot (wordsGo acc l) ≤ acc.length + l.length + 1
  | [], acc => by
    have := emit_tot acc
    rw [wordsGo]
    simp only [List.length_nil]
    omega
  | g :: t, acc => by
    rw [wordsGo]
    split
    · have h1 := emit_tot acc
      have h2 := wordsGo_tot t []
      rw [tot_append, List.length_cons]
      simp only [List.length_nil] at h2
      omega
    · have h2 := wordsGo_tot t (acc ++ [g])
      rw [List.length_append, List.length_singleton] at h2
      rw [List.length_cons]
      omega
theorem words_tot (l : List Gl) : tot (words l) ≤ l.length + 1 := by
  have := wordsGo_tot l []
  unfold words
  simpa using this
theorem emit_pos {a w : List Gl} (h : w ∈ emit a) : 0 < width w ∧ w = clean a := by
  unfold emit at h
  split at h
  · rename_i hw
    rw [List.mem_singleton.1 h]
    exact ⟨hw, rfl⟩
  · cases h
theorem wordsGo_mem : ∀ (l acc w : List Gl), w ∈ wordsGo acc l → 0 < width w ∧ ∃ a : List Gl, (∀ g ∈ a, g ∈ acc ∨ g ∈ l ∧ g.f0 ≠ 32) ∧ w = clean a
  | [], acc, w, h => by
    obtain ⟨h1, h2⟩ := emit_pos h
    exact ⟨h1, acc, fun g hg => .inl hg, h2⟩
  | g :: t, acc, w, h => by
    rw [wordsGo] at h
    split at h
    · rcases List.mem_append.1 h with h | h
      · obtain ⟨h1, h2⟩ := emit_pos h
        exact ⟨h1, acc, fun g hg => .inl hg, h2⟩
      · obtain ⟨h1, a, h2, h3⟩ := wordsGo_mem t [] w h
        exact ⟨h1, a, fun x hx => .inr (by
          rcases h2 x hx with h4 | h4
          · cases h4
          · exact ⟨by simp [h4.1], h4.2⟩), h3⟩
    · rename_i hg
      obtain ⟨h1, a, h2, h3⟩ := wordsGo_mem t (acc ++ [g]) w h
      refine ⟨h1, a, fun x hx => ?_, h3⟩
      rcases h2 x hx with h4 | h4
      · rcases List.mem_append.1 h4 with h5 | h5
        · exact .inl h5
        · rw [List.mem_singleton.1 h5]
          exact .inr ⟨by simp, hg⟩
      · exact .inr ⟨by simp [h4.1], h4.2⟩
theorem words_mem {l w : List Gl} (h : w ∈ words l) : 0 < width w ∧ ∃ a : List Gl, (∀ g ∈ a, g ∈ l ∧ g.f0 ≠ 32) ∧ w = clean a := by
  obtain ⟨h1, a, h2, h3⟩ := wordsGo_mem l [] w h
  exact ⟨h1, a, fun g hg => (h2 g hg).elim (fun h => by cases h) id, h3⟩
theorem words_pos {l w : List Gl} (h : w ∈ words l) : 0 < width w ∧ 0 < w.length := by
  have h1 := (words_mem h).1
  refine ⟨h1, Nat.pos_of_ne_zero (fun e => ?_)⟩
  rw [List.eq_nil_of_length_eq_zero e, width_nil] at h1
  omega
end Go.Proofs.YtfdfjlichpjobaaDoorRR.Pure

/- Words laid in lines: the program's way, the reference's way. -/
namespace Go.Proofs.YtfdfjlichpjobaaDoorRR.Pure
open Go.RowKit Go.Proofs.YtfdfjlichpjobaaDoorRRW.PrintWords Go.Proofs.YtfdfjlichpjobaaDoorRRW.PrintLast Go.Proofs.YtfdfjlichpjobaaDoorRRW.PrintMore Go.Proofs.YtfdfjlichpjobaaDoorRR.X Go.Proofs.YtfdfjlichpjobaaDoorRR.Hand
set_option linter.unusedSimpArgs false
set_option linter.unusedVariables false
theorem wid_fsp : wid fsp.f0 = 1 := by decide +kernel
/-- Words behind a word. -/
def tailJ (ws : List (List Gl)) : List Gl := ws.flatMap (fun w => fsp :: w)
theorem tailJ_nil : tailJ [] = [] := rfl
theorem tailJ_cons (w : List Gl) (ws : List (List Gl)) : tailJ (w :: ws) = fsp :: w ++ tailJ ws := by simp [tailJ]
theorem tailJ_append (a b : List (List Gl)) : tailJ (a ++ b) = tailJ a ++ tailJ b := by simp [tailJ]
def joined : List (List Gl) → List Gl
  | [] => []
  | w :: t => w ++ tailJ t
theorem joined_snoc (a : List (List Gl)) (w : List Gl) (h : a ≠ []) : joined (a ++ [w]) = joined a ++ [fsp] ++ w := by
  rcases a with _ | ⟨x, t⟩
  · exact absurd rfl h
  · show x ++ tailJ (t ++ [w]) = x ++ tailJ t ++ [fsp] ++ w
    rw [tailJ_append, tailJ_cons, tailJ_nil]
    simp
theorem tailJ_length : ∀ ws : List (List Gl), (tailJ ws).length = tot ws
  | [] => rfl
  | w :: ws => by
    rw [tailJ_cons, tot_cons, List.length_append, tailJ_length ws, List.length_cons]
theorem joined_length (ws : List (List Gl)) : (joined ws).length ≤ tot ws := by
  rcases ws with _ | ⟨w, t⟩
  · exact Nat.zero_le _
  · show (w ++ tailJ t).length ≤ _
    rw [List.length_append, tailJ_length, tot_cons]
    omega
theorem tot_take_drop (ws : List (List Gl)) (n : Nat) : tot (ws.take n) + tot (ws.drop n) = tot ws := by rw [← tot_append, List.take_append_drop]
theorem joined_ev {ws : List (List Gl)} (h : tot ws ≤ 1000000) : Ev (fun k => flongref12_joined.f k ws) (joined ws) := by
  have hl := tot_length ws
  unfold flongref12_joined.f
  refine ev_eq (loop_up (fun k o i => flongref12_joined.l0 k ws o i) ws.length (fun o i => if i = 0 then o ++ joined ws else o ++ tailJ (ws.drop i)) (fun o i => o.length + tot (ws.drop i) ≤ tot ws) ?_ ?_ [] 0 (by omega) (by simp)) (by simp)
  · intro o _
    refine Ev.step (f := fun _ => some o) (fun k => by simp only [flongref12_joined.l0]; rw [if_neg (by omega)]) (ev_eq (Ev.now _) ?_)
    split
    · rename_i e
      rw [List.eq_nil_of_length_eq_zero e]
      simp [joined]
    · simp [tailJ]
  · intro o i hi ho ih
    rw [List.drop_eq_getElem_cons hi, tot_cons] at ho
    by_cases h0 : i = 0
    · subst h0
      refine Ev.step (f := fun k => flongref12_joined.l0 k ws (o ++ ws[0]) ((0 + 1 : Nat) : Int)) (fun k => ?_) (ev_eq (ih (o ++ ws[0]) (by rw [List.length_append]; omega)) ?_)
      · simp only [flongref12_joined.l0]
        rw [if_pos (by omega), if_neg (by omega), if_pos (by omega), rdL ws 0 hi, if_pos (by omega), wrap_up hi (by omega)]
      · rw [if_neg (by omega), if_pos rfl, List.append_assoc]
        congr 1
        rcases ws with _ | ⟨w, t⟩
        · simp at hi
        · rfl
    · refine Ev.step (f := fun k => flongref12_joined.l0 k ws (o ++ [fsp] ++ ws[i]) ((i + 1 : Nat) : Int)) (fun k => ?_) (ev_eq (ih (o ++ [fsp] ++ ws[i]) (by rw [List.length_append, List.length_append, List.length_singleton]; omega)) ?_)
      · simp only [flongref12_joined.l0]
        rw [if_pos (by omega), if_pos (by omega), if_pos (by omega), Option.bind_some, if_pos (by omega), rdL ws i hi, if_pos (by rw [List.length_append, List.length_singleton]; omega), wrap_up hi (by omega)]
        rfl
      · rw [if_neg (by omega), if_neg h0, List.drop_eq_getElem_cons hi, tailJ_cons]
        simp
/-- Lines, greedily. -/
def fillG (W : Int) : List Gl → List (List Gl) → List (List Gl)
  | cur, [] => [cur]
  | cur, w :: t => if width cur + 1 + width w ≤ W then fillG W (cur ++ [fsp] ++ w) t else cur :: fillG W w t
def fillN (W : Int) : List (List Gl) → List (List Gl)
  | [] => []
  | w :: t => fillG W w t
def some_ (ws : List (List Gl)) : List (List Gl) := ws.filter (fun w => decide (0 < w.length))
theorem some_cons_pos {w : List Gl} {t : List (List Gl)} (h : 0 < w.length) : some_ (w :: t) = w :: some_ t := by
  unfold some_
  rw [List.filter_cons, if_pos (by simpa using h)]
theorem some_cons_neg {w : List Gl} {t : List (List Gl)} (h : ¬ 0 < w.length) : some_ (w :: t) = some_ t := by
  unfold some_
  rw [List.filter_cons, if_neg (by simpa using h)]
def fillL (W : Int) (ws : List (List Gl)) : List (List Gl) := fillN W (some_ ws)
theorem width_join (cur w : List Gl) : width (cur ++ [fsp] ++ w) = width cur + 1 + width w := by
  rw [width_append, width_append, width_cons, width_nil, wid_fsp]
  omega
theorem layAll_fillG (W : Int) : ∀ (ws o : List (List Gl)) (cur : List Gl), (layAll W (o ++ [cur], width cur) ws).1 = o ++ fillG W cur (some_ ws)
  | [], o, cur => rfl
  | w :: t, o, cur => by
    rw [layAll_cons]
    by_cases h0 : w.length = 0
    · rw [show layW W (o ++ [cur], width cur) w = (o ++ [cur], width cur) from if_pos h0, layAll_fillG W t o cur]
      rw [show some_ (w :: t) = some_ t from by simp [some_, h0]]
    · rw [show layW W (o ++ [cur], width cur) w = lay W (o ++ [cur], width cur) w from if_neg h0]
      rw [show some_ (w :: t) = w :: some_ t from by simp [some_, Nat.pos_of_ne_zero h0], fillG]
      by_cases hf : width cur + 1 + width w ≤ W
      · rw [if_pos hf, show lay W (o ++ [cur], width cur) w = (o ++ [cur ++ [fsp] ++ w], width (cur ++ [fsp] ++ w)) from ?_, layAll_fillG W t o _]
        unfold lay layB
        rw [if_pos (by simp [hf]), addLast_snoc, width_join]
        simp
        omega
      · rw [if_neg hf, show lay W (o ++ [cur], width cur) w = (o ++ [cur] ++ [w], width w) from ?_, layAll_fillG W t (o ++ [cur]) w, List.append_assoc]
        · rfl
        · unfold lay layB
          rw [if_neg (by simp; omega)]
theorem layAll_fillL (W : Int) : ∀ ws : List (List Gl), (layAll W ([], 0) ws).1 = fillL W ws
  | [] => rfl
  | w :: t => by
    rw [layAll_cons]
    by_cases h0 : w.length = 0
    · rw [show layW W ([], 0) w = ([], 0) from if_pos h0, layAll_fillL W t]
      unfold fillL
      rw [show some_ (w :: t) = some_ t from by simp [some_, h0]]
    · rw [show layW W ([], 0) w = ([] ++ [w], width w) from ?_, layAll_fillG W t [] w]
      · unfold fillL
        rw [show some_ (w :: t) = w :: some_ t from by simp [some_, Nat.pos_of_ne_zero h0]]
        rfl
      · rw [show layW W ([], 0) w = lay W ([], 0) w from if_neg h0]
        rfl
theorem lines_eq {W : Int} {ws : List (List Gl)} (h : tot ws ≤ 1000000000) : fill_Lines.f W ws = some (fillL W ws) := by
  unfold fill_Lines.f
  rw [if_pos h, layAll_fillL]
theorem forced_ev (W : Int) (l : List Gl) (h : l.length ≤ 1000000) : Ev (fun k => fill_Forced.f k W l) (decide (width l > W)) := by
  unfold fill_Forced.f
  exact Ev.bind (width_ev l (by omega)) (Ev.now _)
/-! the reference's way -/
theorem rlines_12 (W : Int) : ∀ (d : Nat) (ws : List (List Gl)), ws.length ≤ d → tot ws ≤ 5000 → ∀ o : List (List Gl), o.length + ws.length ≤ 1000000 →
    Ev (fun k => flongref12_Lines.l1 k W ws o) (o ++ fillN W ws) ∧ ∀ n, 1 ≤ n → n ≤ ws.length → Ev (fun k => flongref12_Lines.l2 k W ws o (n : Int)) (o ++ fillG W (joined (ws.take n)) (ws.drop n)) := by
  intro d
  induction d with
  | zero =>
    intro ws hd ht o ho
    obtain rfl : ws = [] := List.eq_nil_of_length_eq_zero (by omega)
    refine ⟨Ev.step (f := fun _ => some o) (fun k => ?_) (ev_eq (Ev.now _) (by simp [fillN])), fun n h1 h2 => by simp at h2; omega⟩
    simp only [flongref12_Lines.l1]
    rw [if_neg (by simp)]
  | succ d ih =>
    intro ws hd ht o ho
    have hl2 : ∀ m n, ws.length - n = m → 1 ≤ n → n ≤ ws.length → Ev (fun k => flongref12_Lines.l2 k W ws o (n : Int)) (o ++ fillG W (joined (ws.take n)) (ws.drop n)) := by
      intro m
      have hlen := tot_length ws
      have htk : ∀ n, tot (ws.take n) ≤ tot ws := fun n => by have := tot_take_drop ws n; omega
      have hout : ∀ n, 1 ≤ n → n ≤ ws.length → Ev (fun k => (flongref12_joined.f k (ws.take n)).bind fun t => if o.length < 5864062014805 then flongref12_Lines.l1 k W (ws.drop n) (o ++ [t]) else none) (o ++ joined (ws.take n) :: fillN W (ws.drop n)) := by
        intro n h1 h2
        refine Ev.bind (joined_ev (by have := htk n; omega)) (ev_pos (by omega) (ev_eq (ih (ws.drop n) (by rw [List.length_drop]; omega) (by have := tot_take_drop ws n; omega) (o ++ [joined (ws.take n)]) (by rw [List.length_append, List.length_singleton, List.length_drop]; omega)).1 ?_))
        simp
      induction m with
      | zero =>
        intro n hm h1 h2
        obtain rfl : n = ws.length := by omega
        refine Ev.step (fun k => ?_) (ev_eq (hout ws.length h1 h2) ?_)
        · simp only [flongref12_Lines.l2]
          rw [if_neg (by omega), if_pos (by omega), if_pos (by omega), Int.toNat_natCast]
        · rw [List.drop_length]
          rfl
      | succ m ih2 =>
        intro n hm h1 h2
        have hn : n < ws.length := by omega
        have e1 : (0 : Int) ≤ ((n + 1 : Nat) : Int) := by omega
        have e2 : ((n + 1 : Nat) : Int) ≤ (ws.length : Int) := by omega
        have hj : joined (ws.take (n + 1)) = joined (ws.take n) ++ [fsp] ++ ws[n] := by
          rw [List.take_succ_eq_append_getElem hn, joined_snoc _ _ (by intro e; have h3 := congrArg List.length e; rw [List.length_take, List.length_nil] at h3; omega)]
        have hjl := joined_length (ws.take (n + 1))
        have hjt := htk (n + 1)
        refine Ev.step (f := fun k => (flongref12_joined.f k (ws.take (n + 1))).bind fun t => (flongref03_Width.f k t).bind fun t2 => if t2 ≤ W then flongref12_Lines.l2 k W ws o ((n + 1 : Nat) : Int) else ((flongref12_joined.f k (ws.take n)).bind fun t3 => if o.length < 5864062014805 then flongref12_Lines.l1 k W (ws.drop n) (o ++ [t3]) else none)) (fun k => ?_) ?_
        · have e3 : (0 : Int) ≤ (n : Int) := by omega
          have e4 : (n : Int) ≤ (ws.length : Int) := by omega
          simp only [flongref12_Lines.l2]
          rw [if_pos (by omega), wrap_up hn (by omega), if_pos e1, if_pos e2]
          simp only [e3, e4, if_true, Int.toNat_natCast]
        · refine Ev.bind (joined_ev (ws := ws.take (n + 1)) (by omega)) (Ev.bind (rgwidth_ev (joined (ws.take (n + 1))) (by omega)) ?_)
          rw [hj, width_join, List.drop_eq_getElem_cons hn, fillG]
          refine ev_ite (fun hf => ev_eq (ih2 (n + 1) (by omega) (by omega) (by omega)) ?_) (fun hf => ev_eq (by have := hout n h1 h2; rw [List.drop_eq_getElem_cons hn] at this; exact this) ?_)
          · rw [if_pos hf, hj]
          · rw [if_neg hf]
            rfl
    refine ⟨?_, fun n h1 h2 => hl2 (ws.length - n) n rfl h1 h2⟩
    by_cases h0 : ws.length = 0
    · obtain rfl : ws = [] := List.eq_nil_of_length_eq_zero h0
      refine Ev.step (f := fun _ => some o) (fun k => ?_) (ev_eq (Ev.now _) (by simp [fillN]))
      simp only [flongref12_Lines.l1]
      rw [if_neg (by simp)]
    · refine Ev.step (fun k => ?_) (ev_eq (hl2 (ws.length - 1) 1 rfl (by omega) (by omega)) ?_)
      · simp only [flongref12_Lines.l1]
        rw [if_pos (by omega)]
        rfl
      · rcases ws with _ | ⟨w, t⟩
        · simp at h0
        · simp [fillN, joined, tailJ]
theorem some_tot : ∀ ws : List (List Gl), tot (some_ ws) ≤ tot ws
  | [] => Nat.le_refl _
  | w :: t => by
    have := some_tot t
    unfold some_ at this ⊢
    rw [List.filter_cons]
    split
    · rw [tot_cons, tot_cons]
      omega
    · rw [tot_cons]
      omega
theorem rlines_ev {W : Int} {ws : List (List Gl)} (h : tot ws ≤ 5000) : Ev (fun k => flongref12_Lines.f k W ws) (fillL W ws) := by
  have hl := tot_length ws
  unfold flongref12_Lines.f
  refine ev_eq (loop_up (fun k o i => flongref12_Lines.l0 k W ws o i) ws.length (fun o i => fillN W (o ++ some_ (ws.drop i))) (fun o i => tot o + tot (ws.drop i) ≤ tot ws) ?_ ?_ [] 0 (by omega) (by simp [tot_nil])) (by simp [fillL])
  · intro o ho
    have hol := tot_length o
    refine Ev.step (f := fun k => flongref12_Lines.l1 k W o []) (fun k => by simp only [flongref12_Lines.l0]; rw [if_neg (by omega)]) (ev_eq ((rlines_12 W o.length o (Nat.le_refl _) (by omega) [] (by simp; omega)).1) ?_)
    simp [some_]
  · intro o i hi ho ih
    rw [List.drop_eq_getElem_cons hi, tot_cons] at ho
    have hol := tot_length o
    rw [List.drop_eq_getElem_cons hi]
    by_cases h0 : 0 < ws[i].length
    · refine Ev.step (f := fun k => flongref12_Lines.l0 k W ws (o ++ [ws[i]]) ((i + 1 : Nat) : Int)) (fun k => ?_) (ev_eq (ih (o ++ [ws[i]]) (by rw [tot_append, tot_cons, tot_nil]; omega)) ?_)
      · simp only [flongref12_Lines.l0]
        rw [if_pos (by omega), if_pos (by omega), rdL ws i hi, if_pos (by omega), if_pos (by omega), wrap_up hi (by omega)]
      · rw [some_cons_pos h0, List.append_assoc]
        rfl
    · refine Ev.step (f := fun k => flongref12_Lines.l0 k W ws o ((i + 1 : Nat) : Int)) (fun k => ?_) (ev_eq (ih _ (by omega)) ?_)
      · simp only [flongref12_Lines.l0]
        rw [if_pos (by omega), if_pos (by omega), rdL ws i hi, if_neg (by omega), wrap_up hi (by omega)]
      · rw [some_cons_neg h0]
end Go.Proofs.YtfdfjlichpjobaaDoorRR.Pure

/- The reference's words; whole texts; least and most. -/
namespace Go.Proofs.YtfdfjlichpjobaaDoorRR.Pure
open Go.RowKit Go.Proofs.YtfdfjlichpjobaaDoorRRW.PrintWords Go.Proofs.YtfdfjlichpjobaaDoorRRW.PrintLast Go.Proofs.YtfdfjlichpjobaaDoorRRW.PrintMore Go.Proofs.YtfdfjlichpjobaaDoorRR.X Go.Proofs.YtfdfjlichpjobaaDoorRR.Hand
set_option linter.unusedSimpArgs false
set_option linter.unusedVariables false
theorem emit_length (a : List Gl) : (emit a).length ≤ 1 := by
  unfold emit
  split <;> simp
theorem rwords_ev (l : List Gl) (h : l.length ≤ 4000) (h8 : ∀ g ∈ l, 0 ≤ g.f1 ∧ g.f1 ≤ 255) : Ev (fun k => flongref12_Words.f k l) (words l) := by
  unfold flongref12_Words.f
  refine ev_eq (loop_up (σ := List (List Gl) × List Gl) (fun k s i => flongref12_Words.l0 k l s.1 s.2 i) (l.length + 1) (fun s i => if i ≤ l.length then s.1 ++ wordsGo s.2 (l.drop i) else s.1) (fun s i => s.1.length ≤ i ∧ s.2.length ≤ i ∧ ∀ g ∈ s.2, g ∈ l) ?_ ?_ ([], []) 0 (by omega) ⟨by simp, by simp, by simp⟩) (by simp [words])
  · rintro ⟨o, a⟩ _
    refine Ev.step (f := fun _ => some o) (fun k => by simp only [flongref12_Words.l0]; rw [if_neg (by omega)]) (ev_eq (Ev.now _) ?_)
    rw [if_neg (by omega)]
  · rintro ⟨o, a⟩ i hi ⟨ho, ha, hm⟩ ih
    simp only at ho ha hm
    have hcl := clean_length a
    have hw := wrap_up (i := i) (n := l.length + 1) hi (by omega)
    have hfin : Ev (fun k => flongref12_Words.j1 k l o a (i : Int) false) (if i + 1 ≤ l.length then o ++ emit a ++ wordsGo [] (l.drop (i + 1)) else o ++ emit a) := by
      refine Ev.step (f := fun k => (flongref03_Clean.f k a).bind fun t => (flongref03_Width.f k t).bind fun t2 => if t2 > 0 then (if o.length < 5864062014805 then flongref12_Words.l0 k l (o ++ [t]) [] ((i + 1 : Nat) : Int) else none) else flongref12_Words.l0 k l o [] ((i + 1 : Nat) : Int)) (fun k => ?_) ?_
      · simp only [flongref12_Words.j1]
        rw [if_neg (by simp), hw]
      · refine Ev.bind (rclean_ev a (by omega) (fun g hg => h8 g (hm g hg))) (Ev.bind (rgwidth_ev (clean a) (by omega)) ?_)
        refine ev_ite (fun hc => ev_pos (by omega) (ev_eq (ih (o ++ [clean a], []) ⟨by simp; omega, by simp, by simp⟩) ?_)) (fun hc => ev_eq (ih (o, []) ⟨by simp; omega, by simp, by simp⟩) ?_)
        · rw [emit, if_pos hc]
        · rw [emit, if_neg hc, List.append_nil]
    by_cases h0 : i < l.length
    · have hg : ∀ b : Bool, b = (l[i].f0 != 32) → Ev (fun k => flongref12_Words.j1 k l o a (i : Int) b) (o ++ wordsGo a (l.drop i)) := by
        intro b hb
        rw [List.drop_eq_getElem_cons h0, wordsGo]
        by_cases h32 : l[i].f0 = 32
        · obtain rfl : b = false := by rw [hb]; simp [h32]
          rw [if_pos h32, ← List.append_assoc]
          refine ev_eq hfin ?_
          rw [if_pos (by omega)]
        · obtain rfl : b = true := by rw [hb]; simp [h32]
          rw [if_neg h32]
          refine Ev.step (f := fun k => flongref12_Words.l0 k l o (a ++ [l[i]]) ((i + 1 : Nat) : Int)) (fun k => ?_) (ev_eq (ih (o, a ++ [l[i]]) ⟨by simp; omega, by simp; omega, fun g hg => ?_⟩) ?_)
          · simp only [flongref12_Words.j1]
            rw [if_pos trivial, if_pos (by omega), if_pos (by omega), if_pos (by omega), rdG l i h0, hw]
          · rcases List.mem_append.1 hg with hg | hg
            · exact hm g hg
            · rw [List.mem_singleton.1 hg]
              exact List.getElem_mem h0
          · rw [if_pos (by omega)]
      rw [if_pos (by omega)]
      refine Ev.step (fun k => ?_) (hg _ rfl)
      simp only [flongref12_Words.l0]
      rw [if_pos (by omega), if_pos (by omega), if_pos (by omega), rdG l i h0]
    · have hil : i = l.length := by omega
      subst hil
      rw [if_pos (by omega), List.drop_length, wordsGo]
      refine Ev.step (f := fun k => flongref12_Words.j1 k l o a (l.length : Int) false) (fun k => ?_) (ev_eq hfin ?_)
      · simp only [flongref12_Words.l0]
        rw [if_pos (by omega), if_neg (by omega)]
      · rw [if_neg (by omega)]
theorem text_ev12 (W : Int) (l : List Gl) (h : l.length ≤ 1000000) : Ev (fun k => fill_Text.f k W l) (fillL W (words l)) := by
  have := words_tot l
  unfold fill_Text.f
  exact Ev.bind (words_ev l h) (ev_bind1 (lines_eq (by omega)) (Ev.now _))
theorem rtext_ev12 (W : Int) (l : List Gl) (h : l.length ≤ 4000) (h8 : ∀ g ∈ l, 0 ≤ g.f1 ∧ g.f1 ≤ 255) : Ev (fun k => flongref12_Text.f k W l) (fillL W (words l)) := by
  have := words_tot l
  unfold flongref12_Text.f
  exact Ev.bind (rwords_ev l h h8) (Ev.bind (rlines_ev (by omega)) (Ev.now _))
/-- The widest. -/
def widest (n : Int) (ws : List (List Gl)) : Int := ws.foldl (fun n w => mx n (width w)) n
theorem widest_cons (n : Int) (w : List Gl) (ws : List (List Gl)) : widest n (w :: ws) = widest (mx n (width w)) ws := rfl
theorem least_l (ws : List (List Gl)) (h : tot ws ≤ 1000000) (n : Int) : Ev (fun k => fill_Least.l0 k n ws (ws.length : Int) 0) (widest n ws) := by
  have hl := tot_length ws
  refine ev_eq (loop_up (fun k n i => fill_Least.l0 k n ws (ws.length : Int) i) ws.length (fun n i => widest n (ws.drop i)) (fun _ _ => True) ?_ ?_ n 0 (by omega) trivial) (by simp)
  · intro n _
    exact Ev.step (f := fun _ => some n) (fun k => by simp only [fill_Least.l0]; rw [if_neg (by omega)]) (ev_eq (Ev.now _) (by rw [List.drop_length]; rfl))
  · intro n i hi _ ih
    have hm := tot_mem (List.getElem_mem hi)
    refine Ev.step (f := fun k => (cells_Width.f k ws[i]).bind fun t => fill_Least.l0 k (mx n t) ws (ws.length : Int) ((i + 1 : Nat) : Int)) (fun k => ?_) (Ev.bind (width_ev ws[i] (by omega)) (ev_eq (ih _ trivial) ?_))
    · simp only [fill_Least.l0]
      rw [if_pos (by omega), if_pos (by omega), if_pos (by omega), rdL ws i hi, wrap_up hi (by omega)]
    · rw [List.drop_eq_getElem_cons hi, widest_cons]
theorem least_ev (l : List Gl) (h : l.length ≤ 100000) : Ev (fun k => fill_Least.f k l) (widest 0 (words l)) := by
  have := words_tot l
  unfold fill_Least.f
  exact Ev.bind (words_ev l (by omega)) (least_l _ (by omega) 0)
theorem rleast_ev (l : List Gl) (h : l.length ≤ 4000) (h8 : ∀ g ∈ l, 0 ≤ g.f1 ∧ g.f1 ≤ 255) : Ev (fun k => flongref12_Least.f k l) (widest 0 (words l)) := by
  have ht := words_tot l
  unfold flongref12_Least.f
  refine Ev.bind (rwords_ev l h h8) ?_
  generalize words l = ws at ht
  have hl := tot_length ws
  refine ev_eq (loop_up (fun k n i => flongref12_Least.l0 k ws n i) ws.length (fun n i => widest n (ws.drop i)) (fun _ _ => True) ?_ ?_ 0 0 (by omega) trivial) (by simp)
  · intro n _
    exact Ev.step (f := fun _ => some n) (fun k => by simp only [flongref12_Least.l0]; rw [if_neg (by omega)]) (ev_eq (Ev.now _) (by rw [List.drop_length]; rfl))
  · intro n i hi _ ih
    have hm := tot_mem (List.getElem_mem hi)
    refine Ev.step (f := fun k => (flongref03_Width.f k ws[i]).bind fun t => flongref12_Least.l0 k ws (mx n t) ((i + 1 : Nat) : Int)) (fun k => ?_) (Ev.bind (rgwidth_ev ws[i] (by omega)) (ev_eq (ih _ trivial) ?_))
    · simp only [flongref12_Least.l0]
      rw [if_pos (by omega), if_pos (by omega), rdL ws i hi, wrap_up hi (by omega)]
    · rw [List.drop_eq_getElem_cons hi, widest_cons]
theorem whole_l (ws : List (List Gl)) (h : tot ws ≤ 1000000) (hp : ∀ w ∈ ws, 0 < w.length) : Ev (fun k => fill_whole.l0 k [] ws (ws.length : Int) 0) (joined ws) := by
  have hl := tot_length ws
  refine ev_eq (loop_up (fun k o i => fill_whole.l0 k o ws (ws.length : Int) i) ws.length (fun o i => if i = 0 then o ++ joined ws else o ++ tailJ (ws.drop i)) (fun o i => o.length + tot (ws.drop i) ≤ tot ws ∧ (0 < o.length ↔ 0 < i)) ?_ ?_ [] 0 (by omega) (by simp)) (by simp)
  · intro o _
    refine Ev.step (f := fun _ => some o) (fun k => by simp only [fill_whole.l0]; rw [if_neg (by omega)]) (ev_eq (Ev.now _) ?_)
    split
    · rename_i e
      rw [List.eq_nil_of_length_eq_zero e]
      simp [joined]
    · simp [tailJ]
  · intro o i hi ⟨ho, h1⟩ ih
    have hwp := hp ws[i] (List.getElem_mem hi)
    rw [List.drop_eq_getElem_cons hi, tot_cons] at ho
    by_cases h0 : i = 0
    · subst h0
      refine Ev.step (f := fun k => fill_whole.l0 k (o ++ ws[0]) ws (ws.length : Int) ((0 + 1 : Nat) : Int)) (fun k => ?_) (ev_eq (ih (o ++ ws[0]) ⟨by rw [List.length_append]; omega, by rw [List.length_append]; omega⟩) ?_)
      · simp only [fill_whole.l0]
        rw [if_pos (by omega), if_pos (by omega), if_pos (by omega), if_neg (by omega), rdL ws 0 hi, if_pos (by omega), wrap_up hi (by omega)]
      · rw [if_neg (by omega), if_pos rfl, List.append_assoc]
        congr 1
        rcases ws with _ | ⟨w, t⟩
        · simp at hi
        · rfl
    · refine Ev.step (f := fun k => fill_whole.l0 k (o ++ [fsp] ++ ws[i]) ws (ws.length : Int) ((i + 1 : Nat) : Int)) (fun k => ?_) (ev_eq (ih (o ++ [fsp] ++ ws[i]) ⟨by rw [List.length_append, List.length_append, List.length_singleton]; omega, by rw [List.length_append, List.length_append, List.length_singleton]; omega⟩) ?_)
      · simp only [fill_whole.l0]
        rw [if_pos (by omega), if_pos (by omega), if_pos (by omega), if_pos (by omega), if_pos (by omega), Option.bind_some, rdL ws i hi, if_pos (by rw [List.length_append, List.length_singleton]; omega), wrap_up hi (by omega)]
        rfl
      · rw [if_neg (by omega), if_neg h0, List.drop_eq_getElem_cons hi, tailJ_cons]
        simp
theorem whole_ev (l : List Gl) (h : l.length ≤ 100000) : Ev (fun k => fill_whole.f k l) (joined (words l)) := by
  have := words_tot l
  unfold fill_whole.f
  exact Ev.bind (words_ev l (by omega)) (whole_l _ (by omega) (fun w hw => (words_pos hw).2))
theorem most_ev (l : List Gl) (h : l.length ≤ 100000) : Ev (fun k => fill_Most.f k l) (width (joined (words l))) := by
  have h1 := words_tot l
  have h2 := joined_length (words l)
  unfold fill_Most.f
  exact Ev.bind (whole_ev l h) (Ev.bind (width_ev _ (by omega)) (Ev.now _))
theorem rmost_ev (l : List Gl) (h : l.length ≤ 4000) (h8 : ∀ g ∈ l, 0 ≤ g.f1 ∧ g.f1 ≤ 255) : Ev (fun k => flongref12_Most.f k l) (width (joined (words l))) := by
  have h1 := words_tot l
  have h2 := joined_length (words l)
  unfold flongref12_Most.f flongref12_Whole.f
  exact Ev.bind (Ev.bind (rwords_ev l h h8) (Ev.bind (joined_ev (by omega)) (Ev.now _))) (Ev.bind (rgwidth_ev _ (by omega)) (Ev.now _))
end Go.Proofs.YtfdfjlichpjobaaDoorRR.Pure
