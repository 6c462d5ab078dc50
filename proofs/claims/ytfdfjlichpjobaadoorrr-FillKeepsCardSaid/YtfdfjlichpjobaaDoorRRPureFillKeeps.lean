/- FillKeeps: no word is lost, nor is their order another one; each line is no wider than its room, or one word. The plain law. -/
import Derived.Test.YtfdfjlichpjobaaDoorRRSpecG
import Derived.Test.YtfdfjlichpjobaaDoorRRSaidFillKeeps
namespace Go.Proofs.YtfdfjlichpjobaaDoorRR.Pure
open Go.RowKit Go.Proofs.YtfdfjlichpjobaaDoorRRW.PrintWords Go.Proofs.YtfdfjlichpjobaaDoorRRW.PrintLast Go.Proofs.YtfdfjlichpjobaaDoorRRW.PrintMore Go.Proofs.YtfdfjlichpjobaaDoorRR.X Go.Proofs.YtfdfjlichpjobaaDoorRR.Hand
set_option linter.unusedVariables false
set_option linter.unusedSimpArgs false
theorem keeps_groups (W : Int) (ws : List (List Gl)) (h : ∀ w ∈ ws, Good w) : ∃ gs : List (List (List Gl)), fillL W ws = gs.map joined ∧ gs.flatten = ws ∧ (∀ g ∈ gs, g ≠ [] ∧ (1 < g.length → width (joined g) ≤ W)) ∧ ∀ (i : Nat) (a b : List (List Gl)) (x : List Gl), gs[i]? = some a → gs[i + 1]? = some b → b.head? = some x → ¬ (width (joined a) + 1 + width x ≤ W) := by
  have hp : ∀ w ∈ ws, 0 < w.length := by
    intro w hw
    refine Nat.pos_of_ne_zero (fun e => ?_)
    have := (h w hw).1
    rw [List.eq_nil_of_length_eq_zero e, width_nil] at this
    omega
  unfold fillL
  rw [some_all hp]
  rcases ws with _ | ⟨w, t⟩
  · exact ⟨[], rfl, rfl, (fun g hg => by cases hg), (fun i a b x ha => by rw [List.getElem?_nil] at ha; cases ha)⟩
  · refine ⟨grp W [w] t, ?_, grp_flat W t [w], fun g hg => ⟨grp_ne W t [w] (by simp) g hg, grp_room W t [w] (by simp) (fun h2 => by simp at h2) g hg⟩, grp_next W t [w] (by simp)⟩
    have := grp_lines W t [w] (by simp)
    rw [joined_one] at this
    exact this
theorem flat_split {gs : List (List (List Gl))} {i : Nat} (h : i < gs.length) : (gs.drop i).flatten = gs[i] ++ (gs.drop (i + 1)).flatten := by
  rw [List.drop_eq_getElem_cons h, List.flatten_cons]
theorem FillKeeps : flonglaw12_FillKeeps.PureSaid := by
  intro l a _ hf ha
  have ha := wf_u16 ha
  have h8 : ∀ g ∈ l, 0 ≤ g.f1 ∧ g.f1 ≤ 255 := fun g hg => wf_u8 (hf g hg).2
  refine Ev.rounds (g := fun k => flonglaw12_FillKeeps.f k l a) ?_
  unfold flonglaw12_FillKeeps.f
  refine ev_ite (fun _ => Ev.bind known_ev (Ev.now _)) (fun h => ?_)
  have ht := words_tot l
  refine loop_up (σ := Unit) (fun k _ i => flonglaw12_FillKeeps.l0 k l a i) l.length (fun _ _ => true) (fun _ i => ∀ g ∈ l.take i, g.f0 ≠ 160) ?_ ?_ () 0 (by omega) (by simp)
  · intro _ h160
    rw [List.take_length] at h160
    have hgood := words_good h8 h160
    refine Ev.step (f := fun k => (fill_Text.f k (1 + a) l).bind fun t => flonglaw12_FillKeeps.l1 k l (1 + a) t [] 0) (fun k => ?_) (Ev.bind (text_ev12 _ l (by omega)) ?_)
    · simp only [flonglaw12_FillKeeps.l0]
      rw [if_neg (by omega), wrap_of (x := a) (by omega) (by omega), wrap_of (x := 1 + a) (by omega) (by omega)]
    obtain ⟨gs, h1, h2, h3, h4⟩ := keeps_groups (1 + a) (words l) hgood
    have hlt := fillL_tot (1 + a) (words l)
    rw [h1] at hlt ⊢
    have hll := tot_length (gs.map joined)
    rw [List.length_map] at hll
    have hgg : ∀ g ∈ gs, ∀ x ∈ g, Good x := fun g hg x hx => hgood x (by rw [← h2]; exact List.mem_flatten.2 ⟨g, hg, hx⟩)
    have hset : ∀ g ∈ gs, ∀ y ∈ joined g, 0 ≤ y.f1 ∧ y.f1 ≤ 255 := by
      have hw8 : ∀ w ∈ words l, ∀ y ∈ w, 0 ≤ y.f1 ∧ y.f1 ≤ 255 := by
        intro w hw y hy
        obtain ⟨_, x, h5, h6⟩ := words_mem hw
        rw [h6] at hy
        have := clean_Cl x (fun g hg => h8 g (h5 g hg).1) y hy
        exact ⟨this.2.2.1, by have := this.2.2.2.1; omega⟩
      intro g hg y hy
      have hgw : ∀ w ∈ g, w ∈ words l := fun w hw => by rw [← h2]; exact List.mem_flatten.2 ⟨g, hg, hw⟩
      rcases g with _ | ⟨w, t⟩
      · cases hy
      · rcases List.mem_append.1 (show y ∈ w ++ tailJ t from hy) with hy | hy
        · exact hw8 w (hgw w (by simp)) y hy
        · obtain ⟨x, hx, hxy⟩ := List.mem_flatMap.1 hy
          rcases List.mem_cons.1 hxy with rfl | hxy
          · decide
          · exact hw8 x (hgw x (by simp [hx])) y hxy
    have hwl := tot_length (words l)
    refine loop_up (fun k o i => flonglaw12_FillKeeps.l1 k l (1 + a) (gs.map joined) o i) gs.length (fun _ _ => true) (fun o i => o ++ (gs.drop i).flatten = words l) ?_ ?_ [] 0 (by omega) (by simpa using h2)
    · intro o ho
      rw [List.drop_length, List.flatten_nil, List.append_nil] at ho
      subst ho
      refine Ev.step (f := fun k => (flongref12_Words.f k l).bind fun t => (flongref03_SameRows.f k (words l) t).bind fun t2 => if t2 = true then ((flonglaw12_known.f k).bind fun t3 => some t3) else some false) (fun k => ?_) (Ev.bind (rwords_ev l (by omega) h8) (Ev.bind (same_tot (by omega)) (ev_pos rfl (Ev.bind known_ev (Ev.now _)))))
      simp only [flonglaw12_FillKeeps.l1]
      rw [if_neg (by rw [List.length_map]; omega)]
    · intro o i hi ho ih
      have hg := List.getElem_mem hi
      have hgr : rd_L3 (gs.map joined) (i : Int) = joined gs[i] := by
        rw [rdL _ i (by rw [List.length_map]; exact hi), List.getElem_map]
      have hjl : (joined gs[i]).length ≤ 301 := by
        have := tot_mem (List.mem_map_of_mem (f := joined) hg)
        omega
      have hwj : words (joined gs[i]) = gs[i] := words_joined' (h3 _ hg).1 (hgg _ hg)
      have hgl : 0 < gs[i].length := List.length_pos_iff.2 (h3 _ hg).1
      have hol : o.length + gs[i].length ≤ 302 := by
        have := congrArg List.length ho
        rw [flat_split hi, List.length_append, List.length_append] at this
        omega
      have hnext : Ev (fun k => flonglaw12_FillKeeps.l1 k l (1 + a) (gs.map joined) (o ++ gs[i]) ((i + 1 : Nat) : Int)) true := ih _ (by rw [← ho, flat_split hi, List.append_assoc])
      have hj : Ev (fun k => flonglaw12_FillKeeps.j2 k l (1 + a) (gs.map joined) o (i : Int) gs[i] false) true := by
        by_cases h0 : 0 < i
        · have hi1 : i - 1 < gs.length := by omega
          have hgr1 : rd_L3 (gs.map joined) ((i - 1 : Nat) : Int) = joined gs[i - 1] := by
            rw [rdL _ (i - 1) (by rw [List.length_map]; exact hi1), List.getElem_map]
          have hjl1 : (joined gs[i - 1]).length ≤ 301 := by
            have := tot_mem (List.mem_map_of_mem (f := joined) (List.getElem_mem hi1))
            omega
          have hx0 : rd_L3 gs[i] 0 = gs[i][0] := rdL gs[i] 0 hgl
          have hxl : (gs[i][0]).length ≤ 301 := by
            have := tot_mem (show gs[i][0] ∈ words l from by rw [← h2]; exact List.mem_flatten.2 ⟨gs[i], hg, List.getElem_mem hgl⟩)
            omega
          have hno := h4 (i - 1) gs[i - 1] gs[i] gs[i][0] (List.getElem?_eq_getElem hi1) (by rw [show i - 1 + 1 = i by omega]; exact List.getElem?_eq_getElem hi) (by rw [List.head?_eq_getElem?]; exact List.getElem?_eq_getElem hgl)
          have r1 := width_range (joined gs[i - 1])
          have r2 := width_range gs[i][0]
          refine Ev.step (f := fun k => (flongref03_Width.f k (joined gs[i - 1])).bind fun t => (flongref03_Width.f k gs[i][0]).bind fun t2 => if (wrap64 (wrap64 (t + 1) + t2)) ≤ 1 + a then some false else flonglaw12_FillKeeps.l1 k l (1 + a) (gs.map joined) (o ++ gs[i]) ((i + 1 : Nat) : Int)) (fun k => ?_) (Ev.bind (rgwidth_ev (joined gs[i - 1]) (by omega)) (Ev.bind (rgwidth_ev gs[i][0] (by omega)) (ev_neg ?_ hnext)))
          · have e1 : (0 : Int) < (gs[i].length : Int) := by omega
            have e2 : o.length + gs[i].length < 5864062014805 := by omega
            simp only [flonglaw12_FillKeeps.j2]
            rw [if_neg (by simp), if_pos (by omega), wrap_of (x := (i : Int) - 1) (by omega) (by omega), show (i : Int) - 1 = ((i - 1 : Nat) : Int) by omega, if_pos (by omega), if_pos (by rw [List.length_map]; omega), hgr1, hx0, wrap_up hi (by omega)]
            simp only [e1, e2, if_true]
          · rw [wrap_of (x := width (joined gs[i - 1]) + 1) (by omega) (by omega), wrap_of (x := width (joined gs[i - 1]) + 1 + _) (by omega) (by omega)]
            exact hno
        · refine Ev.step (fun k => ?_) hnext
          simp only [flonglaw12_FillKeeps.j2]
          rw [if_neg (by simp), if_neg (by omega), if_pos (by omega), wrap_up hi (by omega)]
      refine Ev.step (f := fun k => (flongref12_Words.f k (joined gs[i])).bind fun t => if (t.length : Int) = 0 then flonglaw12_FillKeeps.j2 k l (1 + a) (gs.map joined) o (i : Int) t true else if (t.length : Int) > 1 then (flongref03_Width.f k (joined gs[i])).bind fun t2 => if t2 > 1 + a then flonglaw12_FillKeeps.j2 k l (1 + a) (gs.map joined) o (i : Int) t true else (fill_Forced.f k (1 + a) (joined gs[i])).bind fun t3 => (flongref03_Width.f k (joined gs[i])).bind fun t4 => flonglaw12_FillKeeps.j2 k l (1 + a) (gs.map joined) o (i : Int) t (t3 != (decide (t4 > 1 + a))) else (fill_Forced.f k (1 + a) (joined gs[i])).bind fun t3 => (flongref03_Width.f k (joined gs[i])).bind fun t4 => flonglaw12_FillKeeps.j2 k l (1 + a) (gs.map joined) o (i : Int) t (t3 != (decide (t4 > 1 + a)))) (fun k => ?_) ?_
      · simp only [flonglaw12_FillKeeps.l1]
        rw [if_pos (by rw [List.length_map]; omega), if_pos (by omega), hgr]
      · refine Ev.bind (rwords_ev (joined gs[i]) (by omega) (hset _ hg)) ?_
        rw [hwj]
        have hend : Ev (fun k => (fill_Forced.f k (1 + a) (joined gs[i])).bind fun t3 => (flongref03_Width.f k (joined gs[i])).bind fun t4 => flonglaw12_FillKeeps.j2 k l (1 + a) (gs.map joined) o (i : Int) gs[i] (t3 != (decide (t4 > 1 + a)))) true := by
          refine Ev.bind (forced_ev _ (joined gs[i]) (by omega)) (Ev.bind (rgwidth_ev (joined gs[i]) (by omega)) ?_)
          rw [bne_self_eq_false]
          exact hj
        refine ev_neg (by omega) (ev_ite (fun h5 => Ev.bind (rgwidth_ev (joined gs[i]) (by omega)) (ev_neg ?_ hend)) (fun _ => hend))
        have := (h3 _ hg).2 (by omega)
        omega
  · intro _ i hi h160 ih
    refine Ev.step (f := fun k => if l[i].f0 = 160 then ((flonglaw12_known.f k).bind fun t => some t) else flonglaw12_FillKeeps.l0 k l a ((i + 1 : Nat) : Int)) (fun k => ?_) (ev_ite (fun _ => Ev.bind known_ev (Ev.now _)) (fun hne => ih () ?_))
    · simp only [flonglaw12_FillKeeps.l0]
      rw [if_pos (by omega), if_pos (by omega), rdG l i hi, wrap_up hi (by omega)]
    · intro g hg
      rw [List.take_succ_eq_append_getElem hi] at hg
      rcases List.mem_append.1 hg with hg | hg
      · exact h160 g hg
      · rw [List.mem_singleton.1 hg]
        exact hne
end Go.Proofs.YtfdfjlichpjobaaDoorRR.Pure
