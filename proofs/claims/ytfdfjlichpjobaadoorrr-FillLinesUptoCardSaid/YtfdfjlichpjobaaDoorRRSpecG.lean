/- SpecG: several of this session's texts in one. -/
import Derived.Test.YtfdfjlichpjobaaDoorRRSpecA
import Derived.Test.YtfdfjlichpjobaaDoorRRX7
import Derived.Test.YtfdfjlichpjobaaDoorRRSpecF
/- What the chapter's example fixes: computed. -/
namespace Go.Proofs.YtfdfjlichpjobaaDoorRR.Pure
open Go.RowKit Go.Proofs.YtfdfjlichpjobaaDoorRRW.PrintWords Go.Proofs.YtfdfjlichpjobaaDoorRRW.PrintLast Go.Proofs.YtfdfjlichpjobaaDoorRR.X
theorem known_ev : Ev (fun k => flonglaw12_known.f k) true := Ev.of (k := 40) flonglaw12_known.mono (by kernel_rfl)
end Go.Proofs.YtfdfjlichpjobaaDoorRR.Pure

/- Two rows, one behind the other. -/
namespace Go.Proofs.YtfdfjlichpjobaaDoorRR.Pure
open Go.RowKit Go.Proofs.YtfdfjlichpjobaaDoorRRW.PrintWords Go.Proofs.YtfdfjlichpjobaaDoorRRW.PrintLast Go.Proofs.YtfdfjlichpjobaaDoorRRW.PrintMore Go.Proofs.YtfdfjlichpjobaaDoorRR.X Go.Proofs.YtfdfjlichpjobaaDoorRR.Hand
theorem join_eq {a b : List Gl} (h : a.length + b.length < 17592186044416) : flongref03_Join.f a b = some (a ++ b) := by
  unfold flongref03_Join.f
  rw [if_pos (by simp; omega), Option.bind_some, if_pos (by simp; omega), List.nil_append]
end Go.Proofs.YtfdfjlichpjobaaDoorRR.Pure

/- Lines, greedily filled: what they keep. -/
namespace Go.Proofs.YtfdfjlichpjobaaDoorRR.Pure
open Go.RowKit Go.Proofs.YtfdfjlichpjobaaDoorRRW.PrintWords Go.Proofs.YtfdfjlichpjobaaDoorRRW.PrintLast Go.Proofs.YtfdfjlichpjobaaDoorRRW.PrintMore Go.Proofs.YtfdfjlichpjobaaDoorRR.X Go.Proofs.YtfdfjlichpjobaaDoorRR.Hand
set_option linter.unusedSimpArgs false
set_option linter.unusedVariables false
theorem layAll_tot (W : Int) : ∀ (ws : List (List Gl)) (s : List (List Gl) × Int), tot (layAll W s ws).1 ≤ tot s.1 + tot ws
  | [], s => by
    rw [layAll_nil, tot_nil]
    omega
  | w :: t, s => by
    have h1 := layW_tot W s w
    have h2 := layAll_tot W t (layW W s w)
    rw [layAll_cons, tot_cons]
    omega
theorem fillL_tot (W : Int) (ws : List (List Gl)) : tot (fillL W ws) ≤ tot ws := by
  rw [← layAll_fillL]
  have := layAll_tot W ws ([], 0)
  simpa [tot_nil] using this
theorem same_tot {a : List (List Gl)} (h : tot a ≤ 4000) : Ev (fun k => flongref03_SameRows.f k a a) true := by
  have := tot_length a
  exact samerows_true a (by omega) (fun r hr => by have := tot_mem hr; omega)
/-- Groups of words: a line each. -/
def grp (W : Int) : List (List Gl) → List (List Gl) → List (List (List Gl))
  | cur, [] => [cur]
  | cur, w :: t => if width (joined cur) + 1 + width w ≤ W then grp W (cur ++ [w]) t else cur :: grp W [w] t
theorem joined_one (w : List Gl) : joined [w] = w := by simp [joined, tailJ]
theorem grp_lines (W : Int) : ∀ (ws cur : List (List Gl)), cur ≠ [] → fillG W (joined cur) ws = (grp W cur ws).map joined
  | [], cur, _ => rfl
  | w :: t, cur, h => by
    rw [fillG, grp]
    split
    · rw [← joined_snoc cur w h, grp_lines W t (cur ++ [w]) (by simp)]
    · rw [List.map_cons, ← grp_lines W t [w] (by simp), joined_one]
theorem grp_flat (W : Int) : ∀ (ws cur : List (List Gl)), (grp W cur ws).flatten = cur ++ ws
  | [], cur => by simp [grp]
  | w :: t, cur => by
    rw [grp]
    split
    · rw [grp_flat W t]
      simp
    · rw [List.flatten_cons, grp_flat W t]
      simp
theorem grp_ne (W : Int) : ∀ (ws cur : List (List Gl)), cur ≠ [] → ∀ g ∈ grp W cur ws, g ≠ []
  | [], cur, h, g, hg => by
    rw [grp, List.mem_singleton] at hg
    rw [hg]
    exact h
  | w :: t, cur, h, g, hg => by
    rw [grp] at hg
    split at hg
    · exact grp_ne W t (cur ++ [w]) (by simp) g hg
    · rcases List.mem_cons.1 hg with rfl | hg
      · exact h
      · exact grp_ne W t [w] (by simp) g hg
theorem grp_room (W : Int) : ∀ (ws cur : List (List Gl)), cur ≠ [] → (1 < cur.length → width (joined cur) ≤ W) → ∀ g ∈ grp W cur ws, 1 < g.length → width (joined g) ≤ W
  | [], cur, _, h, g, hg, h1 => by
    rw [grp, List.mem_singleton] at hg
    rw [hg] at h1 ⊢
    exact h h1
  | w :: t, cur, hc, h, g, hg, h1 => by
    rw [grp] at hg
    split at hg
    · rename_i hf
      exact grp_room W t (cur ++ [w]) (by simp) (fun _ => by rw [joined_snoc cur w hc, width_join]; exact hf) g hg h1
    · rcases List.mem_cons.1 hg with rfl | hg
      · exact h h1
      · exact grp_room W t [w] (by simp) (fun h2 => by simp at h2) g hg h1
theorem grp_head (W : Int) : ∀ (ws cur : List (List Gl)), cur ≠ [] → ∃ g t, grp W cur ws = g :: t ∧ g.head? = cur.head?
  | [], cur, _ => ⟨cur, [], rfl, rfl⟩
  | w :: t, cur, h => by
    rw [grp]
    split
    · obtain ⟨g, r, h1, h2⟩ := grp_head W t (cur ++ [w]) (by simp)
      refine ⟨g, r, h1, ?_⟩
      rw [h2]
      rcases cur with _ | ⟨x, y⟩
      · exact absurd rfl h
      · rfl
    · exact ⟨cur, _, rfl, rfl⟩
theorem grp_next (W : Int) : ∀ (ws cur : List (List Gl)), cur ≠ [] → ∀ (i : Nat) (a b : List (List Gl)) (x : List Gl), (grp W cur ws)[i]? = some a → (grp W cur ws)[i + 1]? = some b → b.head? = some x → ¬ (width (joined a) + 1 + width x ≤ W)
  | [], cur, _, i, a, b, x, ha, hb, _ => by
    rw [grp] at hb
    simp at hb
  | w :: t, cur, h, i, a, b, x, ha, hb, hx => by
    rw [grp] at ha hb
    split at ha
    · rename_i hf
      rw [if_pos hf] at hb
      exact grp_next W t (cur ++ [w]) (by simp) i a b x ha hb hx
    · rename_i hf
      rw [if_neg hf] at hb
      rcases i with _ | i
      · simp only [List.getElem?_cons_zero, Option.some.injEq] at ha
        subst ha
        obtain ⟨g, r, h1, h2⟩ := grp_head W t [w] (by simp)
        rw [List.getElem?_cons_succ, h1, List.getElem?_cons_zero, Option.some.injEq] at hb
        subst hb
        rw [h2] at hx
        simp only [List.head?_cons, Option.some.injEq] at hx
        subst hx
        exact hf
      · rw [List.getElem?_cons_succ] at ha hb
        exact grp_next W t [w] (by simp) i a b x ha hb hx
/-- A word that is read again as it is. -/
def Good (w : List Gl) : Prop := 0 < width w ∧ clean w = w ∧ ∀ g ∈ w, g.f0 ≠ 32
theorem emit_good {w : List Gl} (h : Good w) : emit w = [w] := by
  unfold emit
  rw [h.2.1, if_pos h.1]
theorem wordsGo_word : ∀ (w acc t : List Gl), (∀ g ∈ w, g.f0 ≠ 32) → wordsGo acc (w ++ fsp :: t) = emit (acc ++ w) ++ words t
  | [], acc, t, _ => by
    rw [List.nil_append, List.append_nil, wordsGo, if_pos (show fsp.f0 = 32 from rfl)]
    rfl
  | g :: w, acc, t, h => by
    rw [List.cons_append, wordsGo, if_neg (h g (by simp)), wordsGo_word w (acc ++ [g]) t (fun x hx => h x (by simp [hx])), List.append_assoc]
    rfl
theorem words_joined : ∀ (t : List (List Gl)) (w : List Gl), Good w → (∀ x ∈ t, Good x) → words (joined (w :: t)) = w :: t
  | [], w, h, _ => by
    rw [joined_one]
    unfold words
    rw [wordsGo_noblank w [] h.2.2, List.nil_append, emit_good h]
  | x :: t, w, h, ht => by
    have e : joined (w :: x :: t) = w ++ fsp :: joined (x :: t) := by
      show w ++ tailJ (x :: t) = _
      rw [tailJ_cons]
      rfl
    rw [e]
    unfold words
    rw [wordsGo_word w [] _ h.2.2, List.nil_append, emit_good h, words_joined t x (ht x (by simp)) (fun y hy => ht y (by simp [hy]))]
    rfl
theorem words_joined' {g : List (List Gl)} (hn : g ≠ []) (h : ∀ x ∈ g, Good x) : words (joined g) = g := by
  rcases g with _ | ⟨w, t⟩
  · exact absurd rfl hn
  · exact words_joined t w (h w (by simp)) (fun x hx => h x (by simp [hx]))
theorem safe_32' {x : Int} (h : safe x = 32) : x = 32 := by
  unfold safe at h
  split at h
  · exact h
  · cases h
theorem words_good {l : List Gl} (h8 : ∀ g ∈ l, 0 ≤ g.f1 ∧ g.f1 ≤ 255) (h160 : ∀ g ∈ l, g.f0 ≠ 160) : ∀ w ∈ words l, Good w := by
  intro w hw
  obtain ⟨h1, a, h2, h3⟩ := words_mem hw
  refine ⟨h1, ?_, fun g hg => ?_⟩
  · rw [h3]
    exact clean_clean a (fun g hg => h8 g (h2 g hg).1)
  · rw [h3] at hg
    have := (List.dropWhile_sublist _).subset hg
    obtain ⟨x, hx, rfl⟩ := List.mem_map.1 this
    intro e
    have e2 := safe_32' (show safe (if x.f0 = 160 then 32 else x.f0) = 32 from e)
    rw [if_neg (h160 x (h2 x hx).1)] at e2
    exact (h2 x hx).2 e2
theorem some_all {ws : List (List Gl)} (h : ∀ w ∈ ws, 0 < w.length) : some_ ws = ws := by
  unfold some_
  exact List.filter_eq_self.2 (fun w hw => by simpa using h w hw)
/-! more room -/
theorem fillG_more {W W' : Int} (hW : W ≤ W') : ∀ (ws : List (List Gl)) (c c' : List Gl), (width c' ≤ width c → (fillG W' c' ws).length ≤ (fillG W c ws).length) ∧ (fillG W' c' ws).length ≤ (fillG W c ws).length + 1
  | [], c, c' => ⟨fun _ => Nat.le_refl _, by simp [fillG]⟩
  | w :: t, c, c' => by
    have hc := width_range c
    have hw := width_range w
    have i1 := fillG_more hW t (c ++ [fsp] ++ w) (c' ++ [fsp] ++ w)
    have i2 := fillG_more hW t (c ++ [fsp] ++ w) w
    have i3 := fillG_more hW t w (c' ++ [fsp] ++ w)
    have i4 := fillG_more hW t w w
    rw [width_join, width_join] at i1
    rw [width_join] at i2 i3
    rw [fillG, fillG]
    refine ⟨fun h => ?_, ?_⟩
    · by_cases h1 : width c + 1 + width w ≤ W
      · rw [if_pos h1, if_pos (by omega)]
        exact i1.1 (by omega)
      · rw [if_neg h1, List.length_cons]
        by_cases h2 : width c' + 1 + width w ≤ W'
        · rw [if_pos h2]
          exact i3.2
        · rw [if_neg h2, List.length_cons]
          have := i4.1 (by omega)
          omega
    · by_cases h1 : width c + 1 + width w ≤ W
      · rw [if_pos h1]
        by_cases h2 : width c' + 1 + width w ≤ W'
        · rw [if_pos h2]
          exact i1.2
        · rw [if_neg h2, List.length_cons]
          have := i2.1 (by omega)
          omega
      · rw [if_neg h1, List.length_cons]
        by_cases h2 : width c' + 1 + width w ≤ W'
        · rw [if_pos h2]
          have := i3.2
          omega
        · rw [if_neg h2, List.length_cons]
          have := i4.1 (by omega)
          omega
theorem fillL_more {W W' : Int} (hW : W ≤ W') (ws : List (List Gl)) : (fillL W' ws).length ≤ (fillL W ws).length := by
  unfold fillL fillN
  cases some_ ws with
  | nil => exact Nat.le_refl _
  | cons w t => exact (fillG_more hW t w w).1 (Int.le_refl _)
theorem width_tailJ (w : List Gl) (t : List (List Gl)) : width (tailJ (w :: t)) = 1 + width w + width (tailJ t) := by
  rw [tailJ_cons, width_append, width_cons, wid_fsp]
theorem fillG_one {W : Int} : ∀ (ws : List (List Gl)) (c : List Gl), width c + width (tailJ ws) ≤ W → (fillG W c ws).length = 1
  | [], c, _ => rfl
  | w :: t, c, h => by
    have ht := (width_range (tailJ t)).1
    rw [width_tailJ] at h
    rw [fillG, if_pos (by omega)]
    exact fillG_one t _ (by rw [width_join]; omega)
theorem fillL_most {ws : List (List Gl)} (h : ∀ w ∈ ws, 0 < w.length) : (fillL (width (joined ws)) ws).length ≤ 1 := by
  unfold fillL
  rw [some_all h]
  rcases ws with _ | ⟨w, t⟩
  · exact Nat.zero_le _
  · refine Nat.le_of_eq (fillG_one t w ?_)
    rw [← width_append]
    exact Int.le_refl _
theorem mx_le {a b c : Int} : mx a b ≤ c ↔ a ≤ c ∧ b ≤ c := by
  unfold mx
  split <;> omega
theorem widest_le {B : Int} : ∀ (ws : List (List Gl)) (n : Int), widest n ws ≤ B ↔ n ≤ B ∧ ∀ w ∈ ws, width w ≤ B
  | [], n => by simp [widest]
  | w :: t, n => by
    rw [widest_cons, widest_le t, mx_le, and_assoc]
    simp
theorem widest_ge {ws : List (List Gl)} {w : List Gl} (h : w ∈ ws) (n : Int) : width w ≤ widest n ws := ((widest_le ws n).1 (Int.le_refl _)).2 w h
theorem fillG_room {W : Int} : ∀ (ws : List (List Gl)) (c : List Gl), width c ≤ W → (∀ w ∈ ws, width w ≤ W) → ∀ x ∈ fillG W c ws, width x ≤ W
  | [], c, hc, _, x, hx => by
    rw [fillG, List.mem_singleton] at hx
    rw [hx]
    exact hc
  | w :: t, c, hc, hw, x, hx => by
    rw [fillG] at hx
    split at hx
    · rename_i hf
      exact fillG_room t _ (by rw [width_join]; exact hf) (fun y hy => hw y (by simp [hy])) x hx
    · rcases List.mem_cons.1 hx with rfl | hx
      · exact hc
      · exact fillG_room t w (hw w (by simp)) (fun y hy => hw y (by simp [hy])) x hx
theorem fillL_least {ws : List (List Gl)} (h : ∀ w ∈ ws, 0 < w.length) : ∀ x ∈ fillL (widest 0 ws) ws, width x ≤ widest 0 ws := by
  unfold fillL
  rw [some_all h]
  rcases ws with _ | ⟨w, t⟩
  · intro x hx
    cases hx
  · exact fillG_room t w (widest_ge (by simp) 0) (fun y hy => widest_ge (by simp [hy]) 0)
theorem tailJ_ge : ∀ {ws : List (List Gl)} {w : List Gl}, w ∈ ws → width w ≤ width (tailJ ws)
  | x :: t, w, h => by
    have h1 := (width_range (tailJ t)).1
    have h2 := (width_range x).1
    rw [width_tailJ]
    rcases List.mem_cons.1 h with rfl | h
    · omega
    · have := tailJ_ge h
      omega
theorem least_most (ws : List (List Gl)) : widest 0 ws ≤ width (joined ws) := by
  refine (widest_le ws 0).2 ⟨(width_range _).1, fun w hw => ?_⟩
  rcases ws with _ | ⟨x, t⟩
  · cases hw
  · have e : width (joined (x :: t)) = width x + width (tailJ t) := width_append _ _
    have h1 := (width_range (tailJ t)).1
    have h2 := (width_range x).1
    rw [e]
    rcases List.mem_cons.1 hw with rfl | hw
    · omega
    · have := tailJ_ge hw
      omega
end Go.Proofs.YtfdfjlichpjobaaDoorRR.Pure
