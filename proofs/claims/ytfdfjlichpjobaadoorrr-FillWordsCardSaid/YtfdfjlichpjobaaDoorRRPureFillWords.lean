/- FillWords: no word has a control, or no width; words of two texts, a blank between, are those of both. The plain law. -/
import Derived.Test.YtfdfjlichpjobaaDoorRRSpecG
import Derived.Test.YtfdfjlichpjobaaDoorRRSaidFillWords
import Derived.Test.YtfdfjlichpjobaaDoorRRX7
namespace Go.Proofs.YtfdfjlichpjobaaDoorRR.Pure
open Go.RowKit Go.Proofs.YtfdfjlichpjobaaDoorRRW.PrintWords Go.Proofs.YtfdfjlichpjobaaDoorRRW.PrintLast Go.Proofs.YtfdfjlichpjobaaDoorRRW.PrintMore Go.Proofs.YtfdfjlichpjobaaDoorRR.X Go.Proofs.YtfdfjlichpjobaaDoorRR.Hand
set_option linter.unusedVariables false
set_option linter.unusedSimpArgs false
theorem blank12_ev (m : Nat) (h : m ≤ 65535) : Ev (fun k => flongref03_Blank.f k (m : Int)) (List.replicate m fsp) := by
  unfold flongref03_Blank.f
  refine loop_up (fun k o i => flongref03_Blank.l0 k (m : Int) o i) m (fun _ _ => List.replicate m fsp) (fun o i => o = List.replicate i fsp) ?_ ?_ [] 0 (by omega) rfl
  · rintro o rfl
    refine Ev.step (f := fun _ => some _) (fun k => ?_) (Ev.now _)
    simp only [flongref03_Blank.l0]
    rw [if_neg (by omega)]
  · rintro o i hi rfl ih
    refine Ev.step (f := fun k => flongref03_Blank.l0 k (m : Int) (List.replicate i fsp ++ [fsp]) ((i + 1 : Nat) : Int)) (fun k => ?_) (ih _ (by rw [List.replicate_succ']))
    simp only [flongref03_Blank.l0]
    rw [if_pos (by omega), if_pos (by omega), if_pos (by rw [List.length_replicate]; omega), wrap_up hi (by omega)]
    rfl
theorem wordsGo_sp : ∀ (a acc t : List Gl), wordsGo acc (a ++ fsp :: t) = wordsGo acc a ++ words t
  | [], acc, t => by
    have e : wordsGo acc (fsp :: t) = emit acc ++ wordsGo [] t := by rw [wordsGo, if_pos (show fsp.f0 = 32 from rfl)]
    rw [List.nil_append, e]
    rfl
  | g :: a, acc, t => by
    rw [List.cons_append, wordsGo, wordsGo, wordsGo_sp a, wordsGo_sp a]
    split
    · rw [List.append_assoc]
    · rfl
theorem words_blanks (b : List Gl) : ∀ m : Nat, words (List.replicate m fsp ++ b) = words b
  | 0 => by simp
  | m + 1 => by
    rw [List.replicate_succ, List.cons_append]
    unfold words
    rw [wordsGo, if_pos (show fsp.f0 = 32 from rfl), emit_nil, List.nil_append]
    exact words_blanks b m
theorem words_two (a b : List Gl) (m : Nat) (h : 0 < m) : words (a ++ (List.replicate m fsp ++ b)) = words a ++ words b := by
  obtain ⟨n, rfl⟩ : ∃ n, m = n + 1 := ⟨m - 1, by omega⟩
  rw [List.replicate_succ, List.cons_append]
  unfold words
  rw [wordsGo_sp, words_blanks]
  rfl
theorem FillWords : flonglaw12_FillWords.PureSaid := by
  intro a b n ha hfa hb hfb hn
  have hn := wf_u8 hn
  have h8a : ∀ g ∈ a, 0 ≤ g.f1 ∧ g.f1 ≤ 255 := fun g hg => wf_u8 (hfa g hg).2
  have h8b : ∀ g ∈ b, 0 ≤ g.f1 ∧ g.f1 ≤ 255 := fun g hg => wf_u8 (hfb g hg).2
  refine Ev.rounds (g := fun k => flonglaw12_FillWords.f k a b n) ?_
  unfold flonglaw12_FillWords.f
  rw [wrap_of (x := (a.length : Int) + (b.length : Int)) (by omega) (by omega)]
  refine ev_ite (fun _ => Ev.bind known_ev (Ev.now _)) (fun h => ?_)
  obtain ⟨m, hm⟩ : ∃ m : Nat, 1 + Int.tmod n 4 = (m : Int) ∧ 0 < m ∧ m ≤ 4 := by
    have e : Int.tmod n 4 = n % 4 := Int.tmod_eq_emod_of_nonneg hn.1
    exact ⟨(1 + n % 4).toNat, by omega, by omega, by omega⟩
  have e : Int.tmod n 4 = (m : Int) - 1 := by omega
  rw [e, wrap_of (x := (m : Int) - 1) (by omega) (by omega), wrap_of (x := 1 + ((m : Int) - 1)) (by omega) (by omega), show (1 : Int) + ((m : Int) - 1) = (m : Int) by omega]
  have hta := words_tot a
  have htb := words_tot b
  have hla := tot_length (words a)
  have hlb := tot_length (words b)
  refine Ev.bind (blank12_ev m (by omega)) (ev_bind1 (join_eq (by rw [List.length_replicate]; omega)) (ev_bind1 (join_eq (by rw [List.length_append, List.length_replicate]; omega)) ?_))
  refine Ev.bind (words_ev _ (by rw [List.length_append, List.length_append, List.length_replicate]; omega)) (Ev.bind (words_ev a (by omega)) (ev_pos (by simp only [List.length_nil]; omega) (ev_bind1 rfl (Ev.bind (words_ev b (by omega)) (ev_pos (by rw [List.nil_append]; omega) ?_)))))
  rw [words_two a b m hm.2.1, List.nil_append]
  have hmem : ∀ w ∈ words a ++ words b, 0 < width w ∧ w.length ≤ 302 ∧ clean w = w ∧ ∀ g ∈ w, 0 ≤ g.f1 ∧ g.f1 ≤ 255 := by
    have h1 : ∀ l : List Gl, l.length ≤ 300 → (∀ g ∈ l, 0 ≤ g.f1 ∧ g.f1 ≤ 255) → ∀ w ∈ words l, 0 < width w ∧ w.length ≤ 302 ∧ clean w = w ∧ ∀ g ∈ w, 0 ≤ g.f1 ∧ g.f1 ≤ 255 := by
      intro l hl h8 w hw
      obtain ⟨h2, x, h3, h4⟩ := words_mem hw
      have hx : ∀ g ∈ x, 0 ≤ g.f1 ∧ g.f1 ≤ 255 := fun g hg => h8 g (h3 g hg).1
      have h5 := tot_mem hw
      have h6 := words_tot l
      refine ⟨h2, by omega, by rw [h4]; exact clean_clean x hx, fun g hg => ?_⟩
      rw [h4] at hg
      have := clean_Cl x hx g hg
      exact ⟨this.2.2.1, by have := this.2.2.2.1; omega⟩
    intro w hw
    rcases List.mem_append.1 hw with hw | hw
    · exact h1 a (by omega) h8a w hw
    · exact h1 b (by omega) h8b w hw
  have htt : tot (words a ++ words b) ≤ 302 := by rw [tot_append]; omega
  have hlen := tot_length (words a ++ words b)
  revert hmem htt hlen
  generalize words a ++ words b = ws
  intro hmem htt hlen
  refine loop_up (σ := Unit) (fun k _ i => flonglaw12_FillWords.l0 k ws ws i) ws.length (fun _ _ => true) (fun _ _ => True) ?_ ?_ () 0 (by omega) trivial
  · intro _ _
    refine Ev.step (f := fun k => (flongref03_SameRows.f k ws ws).bind fun t => if t = true then ((flonglaw12_known.f k).bind fun t3 => some t3) else some false) (fun k => ?_) (Ev.bind (same_tot (by omega)) (ev_pos rfl (Ev.bind known_ev (Ev.now _))))
    simp only [flonglaw12_FillWords.l0]
    rw [if_neg (by omega)]
  · intro _ i hi _ ih
    obtain ⟨g1, g2, g3, g4⟩ := hmem ws[i] (List.getElem_mem hi)
    refine Ev.step (f := fun k => (flongref03_Width.f k ws[i]).bind fun t => if t < 1 then some false else (flongref03_Clean.f k ws[i]).bind fun t2 => (flongref03_Same.f k t2 ws[i]).bind fun t3 => if t3 = true then flonglaw12_FillWords.l0 k ws ws ((i + 1 : Nat) : Int) else some false) (fun k => ?_) ?_
    · simp only [flonglaw12_FillWords.l0]
      rw [if_pos (by omega), if_pos (by omega), rdL ws i hi, wrap_up hi (by omega)]
    · refine Ev.bind (rgwidth_ev ws[i] (by omega)) (ev_neg (by omega) (Ev.bind (rclean_ev ws[i] (by omega) g4) ?_))
      rw [g3]
      exact Ev.bind (gsame_true rfl (by omega)) (ev_pos rfl (ih () trivial))
end Go.Proofs.YtfdfjlichpjobaaDoorRR.Pure
