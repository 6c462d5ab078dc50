/- OverPlain: no control comes out but those that go back, and line feeds; a row that is set plain is written plain. The plain law. -/
import Derived.Test.YtmeinakeiefcdaaDoorSpecQ
import Derived.Test.YtmeinakeiefcdaaDoorSaidOverPlain
namespace Go.Proofs.YtmeinakeiefcdaaDoor.Pure
open Go Go.RowKit Go.Proofs.YtmeinakeiefcdaaDoorW.PrintWords Go.Proofs.YtmeinakeiefcdaaDoorW.PrintLast Go.Proofs.YtmeinakeiefcdaaDoorW.PrintMore Go.Proofs.YtmeinakeiefcdaaDoor.X Go.Proofs.YtmeinakeiefcdaaDoor.Hand
set_option linter.unusedVariables false
set_option linter.unusedSimpArgs false
theorem oneV_shown {g : Gl} (hc : Cl g) (hg : validB g.f0 = true ∧ controlB g.f0 = false) : ∀ x ∈ oneV g, (32 ≤ x ∨ x = 8) ∧ x ≠ 127 := by
  intro x hx
  have ho : ∀ x ∈ one g.f0, (32 ≤ x ∨ x = 8) ∧ x ≠ 127 := fun x hx => by
    have := shown_byte hg.1 hg.2 x hx
    exact ⟨.inl this.1, this.2⟩
  have hr : ∀ (n : Nat), (∀ x ∈ List.replicate n (95 : Int), (32 ≤ x ∨ x = 8) ∧ x ≠ 127) ∧ (∀ x ∈ List.replicate n (8 : Int), (32 ≤ x ∨ x = 8) ∧ x ≠ 127) := fun n =>
    ⟨fun x hx => by rw [List.eq_of_mem_replicate hx]; decide, fun x hx => by rw [List.eq_of_mem_replicate hx]; decide⟩
  unfold oneV at hx
  rw [cleanG_self hc] at hx
  split at hx
  · exact ho x hx
  · rcases List.mem_append.1 hx with hx | hx
    · rcases List.mem_append.1 hx with hx | hx
      · split at hx
        · simp at hx
        · rcases List.mem_append.1 hx with hx | hx
          · exact (hr _).1 x hx
          · exact (hr _).2 x hx
      · split at hx
        · simp at hx
        · rcases List.mem_append.1 hx with hx | hx
          · exact ho x hx
          · exact (hr _).2 x hx
    · exact ho x hx
theorem wO_shown : ∀ rs : List (List Gl), (∀ r ∈ rs, GoodR r ∧ Nrml r) → ∀ x ∈ wO rs, (32 ≤ x ∨ x = 8 ∨ x = 10) ∧ x ≠ 127
  | [], _, x, hx => by simp [wO] at hx
  | r :: t, h, x, hx => by
    obtain ⟨hg, hn⟩ := h r (by simp)
    rw [wO_cons, hn.self] at hx
    rcases List.mem_append.1 hx with hx | hx
    · obtain ⟨g, hgr, hx⟩ := List.mem_flatMap.1 hx
      have := oneV_shown (hn.cl g hgr) (hg g hgr) x hx
      exact ⟨by omega, this.2⟩
    · rcases List.mem_cons.1 hx with rfl | hx
      · decide
      · exact wO_shown t (fun y hy => h y (by simp [hy])) x hx
theorem rowO_zero : ∀ c : List Gl, (∀ g ∈ c, Cl g ∧ g.f1 = 0) → rowO c = encode (runesOf c)
  | [], _ => rfl
  | g :: t, h => by
    obtain ⟨hc, h0⟩ := h g (by simp)
    have e : oneV g = one g.f0 := by
      unfold oneV
      rw [cleanG_self hc]
      split
      · rfl
      · rw [if_pos (by omega), if_pos (by omega)]
        rfl
    rw [rowO_cons, e, rowO_zero t (fun x hx => h x (by simp [hx]))]
    rfl
theorem OverPlain : flonglaw18_OverPlain.PureSaid := by
  intro l _ hf hs
  refine Ev.rounds (g := fun k => flonglaw18_OverPlain.f k l) ?_
  unfold flonglaw18_OverPlain.f
  refine Ev.bind (long_ev (l := l) hs) (ev_ite (fun _ => Ev.bind known_ev (Ev.now _)) (fun h => ?_))
  obtain ⟨h1, h2⟩ := longB_false l 0 (by omega) (by simpa using h)
  have hll := lsum_length l
  have hsm : ∀ x ∈ l, Small x := fun x hx => ⟨(h2 x hx).1, by have := (h2 x hx).2; omega, fun g hg => wf_u8 ((hf x hx).2 g hg).2⟩
  have hrl := prows_length l
  have hr3 := prows_small hsm
  have hN := prows_nrml hsm
  have hG : ∀ r ∈ prows l, GoodR r := fun r hr => by
    obtain ⟨x, hx, rfl⟩ := List.mem_map.1 hr
    exact nrm_good _
  refine Ev.bind (owrite_ev (by omega) hsm) ?_
  revert hrl hr3 hN hG
  generalize prows l = rs
  intro hrl hr3 hN hG
  have hsh := wO_shown rs (fun r hr => ⟨hG r hr, hN r hr⟩)
  have hbl := wO_length rs hr3
  revert hsh hbl
  generalize wO rs = b
  intro hsh hbl
  have hl1 : Ev (fun k => flonglaw18_OverPlain.l1 k l 0) true := by
    refine loop_up (σ := Unit) (fun k _ i => flonglaw18_OverPlain.l1 k l i) l.length (fun _ _ => true) (fun _ _ => True) ?_ ?_ () 0 (by omega) trivial
    · intro _ _
      exact Ev.step (f := fun k => (flonglaw18_known.f k).bind fun t => some t) (fun k => by simp only [flonglaw18_OverPlain.l1]; rw [if_neg (by omega)]) (Ev.bind known_ev (Ev.now _))
    · intro _ i hi _ ih
      have hx := hsm l[i] (List.getElem_mem hi)
      have hel := erase_length l[i].f1
      have hz := erase_zero l[i].f1
      have h8 : ∀ g ∈ erase l[i].f1, 0 ≤ g.f1 ∧ g.f1 ≤ 255 := fun g hg => by rw [hz g hg]; decide
      have hnz := nrm_zero hz
      have hni := nrm_is h8
      have hle := nrm_length (erase l[i].f1)
      have hx1 := hx.2.1
      have hrow := row18_ev (l := erase l[i].f1) (by omega) h8
      have hnl := rnormal_ev (erase l[i].f1) (exists_trim (clean (erase l[i].f1))).choose_spec (by omega) h8
      change Ev _ (nrm (erase l[i].f1)) at hnl
      rw [rowO_zero _ (fun g hg => ⟨hni.cl g hg, hnz g hg⟩)] at hrow
      refine Ev.step (f := fun k => (flongref17_Erase.f k l[i].f1).bind fun t332 => ((over_Row.f k t332).bind fun t335 => ((flongref17_Normal.f k t332).bind fun t338 => ((flongref03_Text.f k t338).bind fun t341 => (if (strOfNums t335).toList = t341.toList then (flonglaw18_OverPlain.l1 k l ((i + 1 : Nat) : Int)) else (some false)))))) (fun k => ?_) ?_
      · simp only [flonglaw18_OverPlain.l1]
        rw [if_pos (by omega), if_pos (by omega), rdN l i hi, wrap_up hi (by omega)]
      · exact Ev.bind (rerase_ev _ (by omega)) (Ev.bind hrow (Ev.bind hnl (Ev.bind (rgtext_ev _ (by omega)) (ev_pos rfl (ih () trivial)))))
  refine loop_up (σ := Unit) (fun k _ i => flonglaw18_OverPlain.l0 k l b i) b.length (fun _ _ => true) (fun _ _ => True) ?_ ?_ () 0 (by omega) trivial
  · intro _ _
    exact Ev.step (f := fun k => flonglaw18_OverPlain.l1 k l 0) (fun k => by simp only [flonglaw18_OverPlain.l0]; rw [if_neg (by omega)]) hl1
  · intro _ i hi _ ih
    have hx := hsh b[i] (List.getElem_mem hi)
    refine Ev.step (f := fun k => flonglaw18_OverPlain.l0 k l b ((i + 1 : Nat) : Int)) (fun k => ?_) (ih () trivial)
    simp only [flonglaw18_OverPlain.l0]
    rw [if_pos (by omega), if_pos (by omega), rd_nat b i hi, wrap_up hi (by omega)]
    by_cases h32 : b[i] < 32
    · rw [if_pos h32]
      by_cases h8 : b[i] = 8
      · rw [if_pos h8, if_neg (by omega)]
      · rw [if_neg h8, if_pos (by omega), if_neg (by omega)]
    · rw [if_neg h32, if_neg (by omega)]
end Go.Proofs.YtmeinakeiefcdaaDoor.Pure
