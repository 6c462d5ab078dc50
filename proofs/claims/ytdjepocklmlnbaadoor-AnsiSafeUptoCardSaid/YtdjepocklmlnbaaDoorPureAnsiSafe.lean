/- AnsiSafe: no control comes out but line feeds, and those that begin a sign, of which there is one for each run that is set, and one behind. The plain law. -/
import Derived.Test.YtdjepocklmlnbaaDoorSpecQ
import Derived.Test.YtdjepocklmlnbaaDoorSaidAnsiSafe
namespace Go.Proofs.YtdjepocklmlnbaaDoor.Pure
open Go Go.RowKit Go.Proofs.YtdjepocklmlnbaaDoorW.PrintWords Go.Proofs.YtdjepocklmlnbaaDoorW.PrintLast Go.Proofs.YtdjepocklmlnbaaDoorW.PrintMore Go.Proofs.YtdjepocklmlnbaaDoor.X Go.Proofs.YtdjepocklmlnbaaDoor.Hand
set_option linter.unusedVariables false
theorem AnsiSafe : flonglaw19_AnsiSafe.PureSaid := by
  intro l _ hf hs
  refine Ev.rounds (g := fun k => flonglaw19_AnsiSafe.f k l) ?_
  unfold flonglaw19_AnsiSafe.f
  refine Ev.bind (long_ev (l := l) hs) (ev_ite (fun _ => Ev.bind known_ev (Ev.now _)) (fun h => ?_))
  obtain ⟨h1, h2⟩ := longB_false l 0 (by omega) (by simpa using h)
  have hll := lsum_length l
  have hsm : ∀ x ∈ l, Small x := fun x hx => ⟨(h2 x hx).1, by have := (h2 x hx).2; omega, fun g hg => wf_u8 ((hf x hx).2 g hg).2⟩
  have hrl := prows_length l
  have hr3 := prows_small hsm
  have hN := prows_Nrml hsm
  have hrw := rrows_ev (by omega) hsm
  refine Ev.bind (awrite_ev (by omega) hsm) ?_
  revert hrl hr3 hN hrw
  generalize prows l = rs
  intro hrl hr3 hN hrw
  obtain ⟨hsf, hct⟩ := wB_sf rs hN
  have hbl := wB_length rs hr3
  have hb := wB_Bytes rs
  revert hsf hct hbl hb
  generalize wB rs = b
  intro hsf hct hbl hb
  -- the runs
  have hnzr : ∀ i (hi : i < rs.length), nz (runs rs[i]) ≤ 3000 := fun i hi => by
    have h3 := runs_length rs[i].length rs[i] (Nat.le_refl _)
    have h4 : nz (runs rs[i]) ≤ (runs rs[i]).length := List.countP_le_length
    have h5 := hr3 rs[i] (List.getElem_mem hi)
    omega
  have hl1 : ∀ n i, i ≤ rs.length → n = 2 * (nzs (rs.drop i) : Int) ∧ n ≤ 100000000000 → Ev (fun k => flonglaw19_AnsiSafe.l1 k n rs (i : Int)) true := by
    refine loop_up (fun k n i => flonglaw19_AnsiSafe.l1 k n rs i) rs.length (fun _ _ => true) (fun n i => n = 2 * (nzs (rs.drop i) : Int) ∧ n ≤ 100000000000) ?_ ?_
    · rintro n ⟨hn, _⟩
      rw [List.drop_length, show nzs [] = 0 from rfl] at hn
      exact Ev.step (f := fun k => (flonglaw19_known.f k).bind fun t => some t) (fun k => by simp only [flonglaw19_AnsiSafe.l1]; rw [if_neg (by omega), if_pos (by omega)]) (Ev.bind known_ev (Ev.now _))
    · rintro n i hi ⟨hn, hnb⟩ ih
      rw [nzs_drop rs i hi] at hn
      have hr := hr3 rs[i] (List.getElem_mem hi)
      refine Ev.step (f := fun k => (flongref03_Runs.f k rs[i]).bind fun t => flonglaw19_AnsiSafe.l2 k n rs (i : Int) t 0) (fun k => ?_) (Ev.bind (rruns_ev rs[i] (by omega)) ?_)
      · simp only [flonglaw19_AnsiSafe.l1]
        rw [if_pos (by omega), if_pos (by omega), rdL rs i hi]
      have hri := runs_IsRuns rs[i]
      have hrl2 := runs_length rs[i].length rs[i] (Nat.le_refl _)
      revert hn hri hrl2
      generalize runs rs[i] = p
      intro hn hri hrl2
      refine loop_up (fun k n j => flonglaw19_AnsiSafe.l2 k n rs (i : Int) p j) p.length (fun _ _ => true) (fun n j => n = 2 * ((nz (p.drop j) : Int) + (nzs (rs.drop (i + 1)) : Int)) ∧ n ≤ 100000000000) ?_ ?_ n 0 (by omega) ⟨by rw [List.drop_zero]; omega, hnb⟩
      · rintro m ⟨hm, hmb⟩
        rw [List.drop_length, show nz [] = 0 from rfl] at hm
        refine Ev.step (f := fun k => flonglaw19_AnsiSafe.l1 k m rs ((i + 1 : Nat) : Int)) (fun k => ?_) (ih m ⟨by omega, hmb⟩)
        simp only [flonglaw19_AnsiSafe.l2]
        rw [if_neg (by omega), wrap_up hi (by omega)]
      · rintro m j hj ⟨hm, hmb⟩ ih2
        have hpos := hri.pos p[j] (List.getElem_mem hj)
        rw [List.drop_eq_getElem_cons hj, nz_cons] at hm
        have hhd : hd p[j] = rd_T44 p[j] 0 := rfl
        rw [hhd] at hm
        by_cases h0 : (rd_T44 p[j] 0).f1 = 0
        · rw [if_pos h0] at hm
          refine Ev.step (f := fun k => flonglaw19_AnsiSafe.l2 k m rs (i : Int) p ((j + 1 : Nat) : Int)) (fun k => ?_) (ih2 m ⟨by omega, hmb⟩)
          simp only [flonglaw19_AnsiSafe.l2]
          rw [if_pos (by omega), if_pos (by omega), rdL p j hj, if_pos (by omega), if_pos h0, wrap_up hj (by omega)]
        · rw [if_neg h0] at hm
          refine Ev.step (f := fun k => flonglaw19_AnsiSafe.l2 k (m - 2) rs (i : Int) p ((j + 1 : Nat) : Int)) (fun k => ?_) (ih2 (m - 2) ⟨by omega, by omega⟩)
          simp only [flonglaw19_AnsiSafe.l2]
          rw [if_pos (by omega), if_pos (by omega), rdL p j hj, if_pos (by omega), if_neg h0, wrap_up hj (by omega), wrap_of (x := m - 2) (by omega) (by omega)]
  -- the bytes
  have hcb : ∀ c : List Int, c27 c ≤ c.length := fun c => List.countP_le_length
  refine loop_up (σ := Int) (fun k n i => flonglaw19_AnsiSafe.l0 k l b n i) b.length (fun _ _ => true) (fun n i => n + (c27 (b.drop i) : Int) = 2 * (nzs rs : Int) ∧ 0 ≤ n ∧ sf (b.drop i) = true) ?_ ?_ 0 0 (by omega) ⟨by rw [List.drop_zero]; omega, by omega, by rw [List.drop_zero]; exact hsf⟩
  · rintro n ⟨hn, hn0, _⟩
    rw [List.drop_length, show c27 [] = 0 from rfl] at hn
    have h3 := hcb b
    refine Ev.step (f := fun k => (flongref17_Rows.f k l).bind fun t => flonglaw19_AnsiSafe.l1 k n t 0) (fun k => ?_) (Ev.bind hrw (hl1 n 0 (by omega) ⟨by rw [List.drop_zero]; omega, by omega⟩))
    simp only [flonglaw19_AnsiSafe.l0]
    rw [if_neg (by omega)]
  · rintro n i hi ⟨hn, hn0, hsi⟩ ih
    have h3 := hcb b
    rw [List.drop_eq_getElem_cons hi] at hn hsi
    obtain ⟨g1, g2, g3⟩ := sf_cons hsi
    by_cases h27 : b[i] = 27
    · obtain ⟨⟨s, m⟩, hsg⟩ := Option.isSome_iff_exists.1 (g1 h27)
      rw [← List.drop_eq_getElem_cons hi] at hsg
      have hsv : ansi_Signs.f (b.drop i) = some (s, (m : Int), true) := by
        rw [signs_eq (bytes_drop hb i), sgnV, hsg]
      have hc : c27 (b[i] :: b.drop (i + 1)) = c27 (b.drop (i + 1)) + 1 := by
        unfold c27
        rw [List.countP_cons, if_pos (by simpa using h27)]
      rw [hc] at hn
      refine Ev.step (f := fun k => flonglaw19_AnsiSafe.l0 k l b (n + 1) ((i + 1 : Nat) : Int)) (fun k => ?_) (ih (n + 1) ⟨by omega, by omega, g3⟩)
      simp only [flonglaw19_AnsiSafe.l0]
      rw [if_pos (by omega), if_pos (by omega), rd_nat b i hi, if_pos h27, if_pos (by omega), Int.toNat_natCast, hsv, Option.bind_some, if_pos rfl, wrap_up hi (by omega), wrap_of (x := n + 1) (by omega) (by omega)]
    · have hp := g2 h27
      have hc : c27 (b[i] :: b.drop (i + 1)) = c27 (b.drop (i + 1)) := by
        unfold c27
        rw [List.countP_cons, if_neg (by simpa using h27)]
        rfl
      rw [hc] at hn
      have hp2 : (32 ≤ b[i] ∧ b[i] ≠ 127) ∨ b[i] = 10 := by simpa [plainB] using hp
      refine Ev.step (f := fun k => flonglaw19_AnsiSafe.l0 k l b n ((i + 1 : Nat) : Int)) (fun k => ?_) (ih n ⟨hn, hn0, g3⟩)
      simp only [flonglaw19_AnsiSafe.l0]
      rw [if_pos (by omega), if_pos (by omega), rd_nat b i hi, if_neg h27, wrap_up hi (by omega)]
      by_cases h10 : b[i] = 10
      · rw [if_pos (by omega), if_pos h10, if_neg (by omega)]
      · rw [if_neg (by omega), if_neg (by omega)]
end Go.Proofs.YtdjepocklmlnbaaDoor.Pure
