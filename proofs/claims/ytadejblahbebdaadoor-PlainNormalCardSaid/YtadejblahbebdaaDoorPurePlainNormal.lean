/- PlainNormal: a row that is normal stays; it has no control, no blank at its end, none that is set, and no mark that is set otherwise than what it marks. The plain law. -/
import Derived.Test.YtadejblahbebdaaDoorSpec17n
import Derived.Test.YtadejblahbebdaaDoorSpec03s
import Derived.Test.YtadejblahbebdaaDoorRef02s
import Derived.Test.YtadejblahbebdaaDoorKnown17
import Derived.Test.YtadejblahbebdaaDoorSaidPlainNormal
namespace Go.Proofs.YtadejblahbebdaaDoor.Pure
open Go.RowKit Go.Proofs.YtadejblahbebdaaDoorW.PrintWords Go.Proofs.YtadejblahbebdaaDoorW.PrintLast Go.Proofs.YtadejblahbebdaaDoor.X Go.Proofs.YtadejblahbebdaaDoor.Hand
/-- Normal: how each is set, behind p. -/
def IsNorm : Option Int → List Gl → Prop
  | _, [] => True
  | p, g :: t => g.f1 = setOf p g ∧ IsNorm (some g.f1) t
theorem setOf_same (p : Option Int) (g : Gl) (s : Int) (h : s = setOf p g) : setOf p ⟨g.f0, s⟩ = s := by
  unfold setOf at h ⊢
  split at h
  · rename_i h0
    rw [if_pos h0, h]
  · rename_i h0
    rw [if_neg h0]
    cases p with
    | none => rfl
    | some q =>
      simp only at h ⊢
      split at h
      · rename_i hw
        rw [if_pos hw, h]
      · rename_i hw
        rw [if_neg hw]
theorem normGo_IsNorm : ∀ (l : List Gl) (p : Option Int), IsNorm p (normGo p l)
  | [], _ => trivial
  | g :: t, p => ⟨(setOf_same p g _ rfl).symm, normGo_IsNorm t _⟩
theorem normGo_self : ∀ (l : List Gl) (p : Option Int), IsNorm p l → normGo p l = l
  | [], _, _ => rfl
  | g :: t, p, h => by
    rw [normGo, ← h.1, normGo_self t _ h.2]
theorem IsNorm.at' : ∀ (l : List Gl) (p : Option Int), IsNorm p l → ∀ (i : Nat) (g : Gl), l[i]? = some g → g.f1 = setOf (match i with | 0 => p | j + 1 => l[j]?.map (·.f1)) g
  | [], _, _, i, g, h => by simp at h
  | x :: t, p, hn, 0, g, h => by
    simp at h
    subst h
    exact hn.1
  | x :: t, p, hn, i + 1, g, h => by
    rw [List.getElem?_cons_succ] at h
    have h1 := IsNorm.at' t _ hn.2 i g h
    cases i with
    | zero => exact h1
    | succ j => exact h1
theorem setOf_range {p : Option Int} {g : Gl} (hp : ∀ s, p = some s → 0 ≤ s ∧ s ≤ 3) (hg : 0 ≤ g.f1 ∧ g.f1 ≤ 3) : 0 ≤ setOf p g ∧ setOf p g ≤ 3 := by
  unfold setOf
  split
  · omega
  · cases p with
    | none => exact hg
    | some s =>
      simp only
      split
      · exact hp s rfl
      · exact hg
theorem normGo_range : ∀ (l : List Gl) (p : Option Int), (∀ s, p = some s → 0 ≤ s ∧ s ≤ 3) → (∀ g ∈ l, 0 ≤ g.f1 ∧ g.f1 ≤ 3) → ∀ g ∈ normGo p l, 0 ≤ g.f1 ∧ g.f1 ≤ 3
  | [], _, _, _, g, h => by simp [normGo] at h
  | x :: t, p, hp, hl, g, h => by
    have hx := setOf_range hp (hl x (by simp))
    rw [normGo] at h
    rcases List.mem_cons.1 h with rfl | h
    · exact hx
    · exact normGo_range t _ (fun s e => by injection e with e; rw [← e]; exact hx) (fun y hy => hl y (by simp [hy])) g h
theorem and3_self {x : Int} (h : 0 ≤ x ∧ x ≤ 3) : Go.bits .and .u8 x 3 = x := by
  have h1 : ∀ n : Nat, n < 4 → Go.bits .and .u8 (n : Int) 3 = (n : Int) := by decide +kernel
  obtain ⟨n, rfl⟩ := Int.eq_ofNat_of_zero_le h.1
  exact h1 n (by omega)
theorem wid_32 : wid 32 = 1 := by decide +kernel
theorem PlainNormal : flonglaw17_PlainNormal.PureSaid := by
  intro l _ hf
  refine Ev.rounds (g := fun k => flonglaw17_PlainNormal.f k l) ?_
  unfold flonglaw17_PlainNormal.f
  refine ev_ite (fun _ => Ev.bind known_ev (Ev.now _)) (fun h => ?_)
  have h8 : ∀ g ∈ l, 0 ≤ g.f1 ∧ g.f1 ≤ 255 := fun g hg => wf_u8 (hf g hg).2
  have hcl := clean_length l
  obtain ⟨m, hm⟩ := exists_trim (clean l)
  have hmle := hm.le
  have hC := clean_Cl l h8
  -- the row, normal
  obtain ⟨c, hc⟩ : ∃ c, c = normGo none ((clean l).take m) := ⟨_, rfl⟩
  have hcn : IsNorm none c := by rw [hc]; exact normGo_IsNorm _ _
  have hclen : c.length = m := by rw [hc, normGo_length, List.length_take]; omega
  have hcl3 : c.length ≤ 300 := by omega
  have hrunes : c.map (·.f0) = ((clean l).take m).map (·.f0) := by rw [hc, normGo_runes]
  have hf0 : ∀ (i : Nat) (g : Gl), c[i]? = some g → ∃ x, (clean l)[i]? = some x ∧ g.f0 = x.f0 := by
    intro i g hg
    have h1 := congrArg (fun z : List Int => z[i]?) hrunes
    simp only [List.getElem?_map, hg, Option.map_some] at h1
    have hi : i < m := by rw [← hclen]; exact (List.getElem?_eq_some_iff.1 hg).1
    rw [List.getElem?_take_of_lt hi, List.getElem?_eq_getElem (by omega)] at h1
    exact ⟨_, List.getElem?_eq_getElem (by omega), Option.some.inj h1⟩
  have hCl : ∀ (i : Nat) (g : Gl), c[i]? = some g → Cl g := by
    intro i g hg
    obtain ⟨x, hx, e⟩ := hf0 i g hg
    have hxC := hC x (List.mem_of_getElem? hx)
    have hr : 0 ≤ g.f1 ∧ g.f1 ≤ 3 := by
      refine normGo_range ((clean l).take m) none (fun s e => by cases e) (fun y hy => ?_) g (by rw [← hc]; exact List.mem_of_getElem? hg)
      have := hC y (List.mem_of_mem_take hy)
      exact ⟨this.2.2.1, this.2.2.2.1⟩
    exact ⟨by rw [e]; exact hxC.1, by rw [e]; exact hxC.2.1, hr.1, hr.2, and3_self hr⟩
  have hCm : ∀ g ∈ c, Cl g := fun g hg => by
    obtain ⟨i, hi, rfl⟩ := List.getElem_of_mem hg
    exact hCl i _ (List.getElem?_eq_getElem hi)
  have hhead : ∀ h0 : 0 < c.length, wid (c[0]).f0 ≠ 0 := by
    intro h0
    obtain ⟨x, hx, e⟩ := hf0 0 c[0] (List.getElem?_eq_getElem h0)
    obtain ⟨h1, h2⟩ := List.getElem?_eq_some_iff.1 hx
    rw [e, ← h2]
    exact clean_head l h1
  have hcc : clean c = c := by
    unfold clean
    rw [map_self hCm]
    cases hcc : c with
    | nil => rfl
    | cons g t =>
      rw [List.dropWhile_cons, if_neg]
      have := hhead (by rw [hcc]; simp)
      simp only [hcc, List.getElem_cons_zero] at this
      have hr := wid_range g.f0
      simp
      omega
  have hlast : ∀ g : Gl, 0 < c.length → c[c.length - 1]? = some g → g.f0 ≠ 32 := by
    intro g h0 hg
    obtain ⟨x, hx, e⟩ := hf0 _ g hg
    rw [hclen] at hx h0
    rw [e]
    exact hm.last x h0 hx
  have hct : IsTrim (clean c) c.length := by
    rw [hcc]
    refine ⟨Nat.le_refl _, fun g h0 hg => hlast g h0 hg, fun i g hi hg => ?_⟩
    have := (List.getElem?_eq_some_iff.1 hg).1
    omega
  have hnn : normGo none ((clean c).take c.length) = c := by rw [hcc, List.take_length]; exact normGo_self c none hcn
  have h1 : Ev (fun k => plain_Normal.f k l) c := by
    rw [hc]
    exact normal_ev l hm (by omega)
  have h2 : Ev (fun k => plain_Normal.f k c) c := ev_eq (normal_ev c hct (by omega)) hnn
  refine Ev.bind h1 (Ev.bind h2 (Ev.bind (gsame_true rfl (by omega)) (ev_pos rfl ?_)))
  have hel : (erase c).length ≤ 300 := by unfold erase; rw [List.length_map]; exact hcl3
  have hee : erase (erase c) = erase c := by
    unfold erase
    rw [List.map_map]
    rfl
  have hj : Ev (fun k => flonglaw17_PlainNormal.j0 k c false) true := by
    refine Ev.step (f := fun k => flonglaw17_PlainNormal.l0 k c 0) (fun k => by simp only [flonglaw17_PlainNormal.j0]; rw [if_neg (by simp)]) ?_
    refine loop_up (σ := Unit) (fun k _ i => flonglaw17_PlainNormal.l0 k c i) c.length (fun _ _ => true) (fun _ _ => True) ?_ ?_ () 0 (by omega) trivial
    · intro _ _
      refine Ev.step (f := fun k => ((plain_Erase.f k c).bind fun t407 => ((plain_Erase.f k t407).bind fun t410 => ((plain_Erase.f k c).bind fun t413 => ((flongref03_Same.f k t410 t413).bind fun t416 => (if t416 = true then ((flonglaw17_known.f k).bind fun t417 => (some t417)) else (some false))))))) (fun k => by simp only [flonglaw17_PlainNormal.l0]; rw [if_neg (by omega)]) ?_
      exact Ev.bind (erase_ev c (by omega)) (Ev.bind (erase_ev _ (by omega)) (Ev.bind (erase_ev c (by omega)) (Ev.bind (gsame_true hee (by rw [hee]; omega)) (ev_pos rfl (Ev.bind known_ev (Ev.now _))))))
    · intro _ i hi _ ih
      have hg := hCl i c[i] (List.getElem?_eq_getElem hi)
      have hs := IsNorm.at' c none hcn i c[i] (List.getElem?_eq_getElem hi)
      have hj2 : Ev (fun k => flonglaw17_PlainNormal.j2 k c (i : Int) false) true := by
        refine Ev.step (f := fun k => (flongref02_Width.f k c[i].f0).bind fun t404 => (if t404 = 0 then (if (i : Int) = 0 then (some false) else (if 0 ≤ (wrap64 ((i : Int) - 1)) then (if (wrap64 ((i : Int) - 1)) < (c.length : Int) then (if c[i].f1 = ((rd_T37 c (wrap64 ((i : Int) - 1))).f1) then (flonglaw17_PlainNormal.l0 k c ((i + 1 : Nat) : Int)) else (some false)) else (none)) else (none))) else (flonglaw17_PlainNormal.l0 k c ((i + 1 : Nat) : Int)))) (fun k => by simp only [flonglaw17_PlainNormal.j2]; rw [if_neg (by simp), if_pos (by omega), if_pos (by omega), rdG c i hi, wrap_up hi (by omega)]) ?_
        refine Ev.bind (rwidth_ev _) (ev_ite (fun hw => ?_) (fun _ => ih () trivial))
        have h0 : 0 < i := by
          rcases Nat.eq_zero_or_pos i with e | e
          · subst e
            exact absurd hw (hhead hi)
          · exact e
        have h32 : c[i].f0 ≠ 32 := fun e => by rw [e, wid_32] at hw; omega
        have hp : c[i].f1 = (c[i - 1]'(by omega)).f1 := by
          obtain ⟨j, rfl⟩ : ∃ j, i = j + 1 := ⟨i - 1, by omega⟩
          simp only [List.getElem?_eq_getElem (show j < c.length by omega), Option.map_some, setOf, if_neg h32, if_pos hw] at hs
          exact hs
        rw [wrap_of (by omega) (by omega), show (i : Int) - 1 = ((i - 1 : Nat) : Int) by omega, rdG c (i - 1) (by omega)]
        exact ev_neg (by omega) (ev_pos (by omega) (ev_pos (by omega) (ev_pos hp (ih () trivial))))
      refine Ev.step (f := fun k => flonglaw17_PlainNormal.j2 k c (i : Int) false) (fun k => ?_) hj2
      simp only [flonglaw17_PlainNormal.l0]
      rw [if_pos (by omega), if_pos (by omega), rdG c i hi, rsafe_eq, Option.bind_some, if_pos hg.1, if_neg (by have := hg.2.2.2.1; omega)]
      by_cases h32 : c[i].f0 = 32
      · have hz : c[i].f1 = 0 := by rw [hs]; unfold setOf; rw [if_pos h32]
        rw [if_pos h32, hz]
        rfl
      · rw [if_neg h32]
  refine ev_ite (fun hp => ?_) (fun _ => hj)
  rw [wrap_of (by omega) (by omega)]
  refine ev_pos (by omega) (ev_pos (by omega) ?_)
  rw [show (c.length : Int) - 1 = ((c.length - 1 : Nat) : Int) by omega, rdG c (c.length - 1) (by omega)]
  have hne := hlast c[c.length - 1] (by omega) (List.getElem?_eq_getElem (by omega))
  rw [show (c[c.length - 1].f0 == 32) = false by simpa using hne]
  exact hj
end Go.Proofs.YtadejblahbebdaaDoor.Pure
