/- A row made normal, and erased: package plain's and the reference's. -/
import Derived.Test.YtadejblahbebdaaDoorSpecN
import Derived.Test.YtadejblahbebdaaDoorX4
import Derived.Test.YtadejblahbebdaaDoorX16
namespace Go.Proofs.YtadejblahbebdaaDoor.Pure
open Go.RowKit Go.Proofs.YtadejblahbebdaaDoorW.PrintWords Go.Proofs.YtadejblahbebdaaDoorW.PrintLast Go.Proofs.YtadejblahbebdaaDoorW.PrintMore Go.Proofs.YtadejblahbebdaaDoor.X Go.Proofs.YtadejblahbebdaaDoor.Hand
set_option linter.unusedSimpArgs false
set_option linter.unusedVariables false
/-- How a glyph is set, behind one that is set as p (none: first). -/
def setOf (p : Option Int) (g : Gl) : Int := if g.f0 = 32 then 0 else match p with | some s => if wid g.f0 = 0 then s else g.f1 | none => g.f1
def normGo : Option Int → List Gl → List Gl
  | _, [] => []
  | p, g :: t => ⟨g.f0, setOf p g⟩ :: normGo (some (setOf p g)) t
def erase (l : List Gl) : List Gl := l.map (fun g => ⟨g.f0, 0⟩)
/-- How the last is set. -/
def lastS (o : List Gl) : Option Int := o.getLast?.map (·.f1)
theorem lastS_snoc (o : List Gl) (g : Gl) : lastS (o ++ [g]) = some g.f1 := by simp [lastS]
theorem normGo_length : ∀ (l : List Gl) (p : Option Int), (normGo p l).length = l.length
  | [], _ => rfl
  | g :: t, p => by rw [normGo, List.length_cons, normGo_length t, List.length_cons]
theorem normGo_runes : ∀ (l : List Gl) (p : Option Int), (normGo p l).map (·.f0) = l.map (·.f0)
  | [], _ => rfl
  | g :: t, p => by rw [normGo, List.map_cons, normGo_runes t, List.map_cons]
theorem erase_runes (l : List Gl) : (erase l).map (·.f0) = l.map (·.f0) := by
  unfold erase
  rw [List.map_map]
  rfl
theorem set_mid (o : List Gl) (g x : Gl) (t : List Gl) : (o ++ g :: t).set o.length x = (o ++ [x]) ++ t := by
  rw [List.set_append_right _ _ (Nat.le_refl _), Nat.sub_self, List.set_cons_zero, List.append_assoc]
  rfl
theorem rd_mid (o : List Gl) (g : Gl) (t : List Gl) : rd_T37 (o ++ g :: t) (o.length : Int) = g := by
  rw [rdG _ _ (by rw [List.length_append, List.length_cons]; omega)]
  simp
theorem rd_before (o : List Gl) (y g : Gl) (t : List Gl) : rd_T37 ((o ++ [y]) ++ g :: t) (((o ++ [y]).length - 1 : Nat) : Int) = y := by
  have e : (o ++ [y]).length - 1 = o.length := by simp
  rw [e, rdG _ _ (by rw [List.length_append, List.length_append, List.length_singleton, List.length_cons]; omega)]
  simp
theorem normal_ev (l : List Gl) {m : Nat} (hm : IsTrim (clean l) m) (h : l.length ≤ 1000000) : Ev (fun k => plain_Normal.f k l) (normGo none ((clean l).take m)) := by
  have hcl := clean_length l
  unfold plain_Normal.f
  refine Ev.bind (clean_ev l (by omega)) (Ev.bind (trim_ev hm (by omega)) ?_)
  have hlen : ((clean l).take m).length ≤ 1000000 := by rw [List.length_take]; omega
  generalize (clean l).take m = c at hlen
  refine ev_eq (loop_up (fun k o i => plain_Normal.l0 k (o ++ c.drop o.length) (c.length : Int) i) c.length (fun o i => o ++ normGo (lastS o) (c.drop i)) (fun o i => o.length = i) ?_ ?_ [] 0 (by omega) rfl) (by simp [lastS])
  · intro o ho
    refine Ev.step (f := fun _ => some (o ++ c.drop o.length)) (fun k => by simp only [plain_Normal.l0]; rw [if_neg (by omega)]) (ev_eq (Ev.now _) ?_)
    rw [ho, List.drop_length, normGo]
  · intro o i hi ho ih
    subst ho
    obtain ⟨g, t, hgt⟩ : ∃ g t, c.drop o.length = g :: t := ⟨c[o.length], c.drop (o.length + 1), List.drop_eq_getElem_cons hi⟩
    have ht : c.drop (o.length + 1) = t := by
      have := List.drop_eq_getElem_cons hi
      rw [hgt] at this
      injection this with _ h2
      exact h2.symm
    have hxl : (o ++ g :: t).length = c.length := by
      have := congrArg List.length hgt
      rw [List.length_drop] at this
      rw [List.length_append, ← this]
      omega
    have hnext : ∀ x : Gl, x = ⟨g.f0, setOf (lastS o) g⟩ → Ev (fun k => plain_Normal.l0 k ((o ++ [x]) ++ t) (c.length : Int) ((o.length + 1 : Nat) : Int)) (o ++ normGo (lastS o) (g :: t)) := by
      intro x hx
      have h1 := ih (o ++ [x]) (by simp)
      rw [show (o ++ [x]).length = o.length + 1 by simp, ht] at h1
      refine ev_eq h1 ?_
      rw [lastS_snoc, normGo, hx, List.append_assoc]
      rfl
    have hsame : ∀ x : Gl, x = g → (o ++ [x]) ++ t = o ++ g :: t := by
      intro x hx
      rw [hx, List.append_assoc]
      rfl
    rw [hgt]
    by_cases h32 : g.f0 = 32
    · refine Ev.step (f := fun k => plain_Normal.l0 k ((o ++ [⟨g.f0, 0⟩]) ++ t) (c.length : Int) ((o.length + 1 : Nat) : Int)) (fun k => ?_) (hnext ⟨g.f0, 0⟩ (by simp [setOf, h32]))
      simp only [plain_Normal.l0]
      rw [if_pos (by omega), if_pos (by omega), if_pos (by omega), rd_mid, if_pos h32, Int.toNat_natCast, set_mid, wrap_up hi (by omega)]
    · rcases List.eq_nil_or_concat o with ho | ⟨o', y, ho⟩
      · have hn := hnext g (gl_ext rfl (by simp [setOf, h32, ho, lastS]))
        rw [hsame g rfl] at hn
        refine Ev.step (f := fun k => plain_Normal.l0 k (o ++ g :: t) (c.length : Int) ((o.length + 1 : Nat) : Int)) (fun k => ?_) hn
        have h0 : o.length = 0 := by rw [ho]; rfl
        simp only [plain_Normal.l0]
        rw [if_pos (by omega), if_pos (by omega), if_pos (by omega), rd_mid, if_neg h32, if_neg (by omega), wrap_up hi (by omega)]
      · rw [List.concat_eq_append] at ho
        have hol : o.length = o'.length + 1 := by rw [ho]; simp
        have hls : lastS o = some y.f1 := by rw [ho, lastS_snoc]
        have hprev : rd_T37 (o ++ g :: t) ((o.length - 1 : Nat) : Int) = y := by
          rw [ho]
          exact rd_before o' y g t
        by_cases hz : wid g.f0 = 0
        · refine Ev.step (fun k => ?_) (hnext ⟨g.f0, y.f1⟩ (by simp [setOf, h32, hls, hz]))
          simp only [plain_Normal.l0]
          rw [if_pos (by omega), if_pos (by omega), if_pos (by omega), rd_mid, if_neg h32, if_pos (by omega), show runes_Width.f g.f0 = some (wid g.f0) from rfl, Option.bind_some, if_pos hz, wrap_of (x := (o.length : Int) - 1) (by omega) (by omega), show (o.length : Int) - 1 = ((o.length - 1 : Nat) : Int) by omega, if_pos (by omega), if_pos (by omega), hprev, Int.toNat_natCast, set_mid, wrap_up hi (by omega)]
        · have hn := hnext g (gl_ext rfl (by simp [setOf, h32, hls, hz]))
          rw [hsame g rfl] at hn
          refine Ev.step (fun k => ?_) hn
          simp only [plain_Normal.l0]
          rw [if_pos (by omega), if_pos (by omega), if_pos (by omega), rd_mid, if_neg h32, if_pos (by omega), show runes_Width.f g.f0 = some (wid g.f0) from rfl, Option.bind_some, if_neg hz, wrap_up hi (by omega)]
theorem erase_ev (l : List Gl) (h : l.length ≤ 1000000) : Ev (fun k => plain_Erase.f k l) (erase l) := by
  unfold plain_Erase.f
  refine ev_bind1 (a := l) (by unfold clone_G.f; rw [if_pos (by omega)]) ?_
  refine ev_eq (loop_up (fun k o i => plain_Erase.l0 k (o ++ l.drop o.length) (l.length : Int) i) l.length (fun o i => o ++ erase (l.drop i)) (fun o i => o.length = i) ?_ ?_ [] 0 (by omega) rfl) (by simp)
  · intro o ho
    refine Ev.step (f := fun _ => some (o ++ l.drop o.length)) (fun k => by simp only [plain_Erase.l0]; rw [if_neg (by omega)]) (ev_eq (Ev.now _) ?_)
    rw [ho, List.drop_length]
    rfl
  · intro o i hi ho ih
    subst ho
    obtain ⟨g, t, hgt⟩ : ∃ g t, l.drop o.length = g :: t := ⟨l[o.length], l.drop (o.length + 1), List.drop_eq_getElem_cons hi⟩
    have ht : l.drop (o.length + 1) = t := by
      have := List.drop_eq_getElem_cons hi
      rw [hgt] at this
      injection this with _ h2
      exact h2.symm
    have hxl : (o ++ g :: t).length = l.length := by
      have := congrArg List.length hgt
      rw [List.length_drop] at this
      rw [List.length_append, ← this]
      omega
    rw [hgt]
    have h1 := ih (o ++ [⟨g.f0, 0⟩]) (by simp)
    rw [show (o ++ [(⟨g.f0, 0⟩ : Gl)]).length = o.length + 1 by simp, ht] at h1
    refine Ev.step (f := fun k => plain_Erase.l0 k ((o ++ [⟨g.f0, 0⟩]) ++ t) (l.length : Int) ((o.length + 1 : Nat) : Int)) (fun k => ?_) (ev_eq h1 (by simp [erase]))
    simp only [plain_Erase.l0]
    rw [if_pos (by omega), if_pos (by omega), if_pos (by omega), rd_mid, Int.toNat_natCast, set_mid, wrap_up hi (by omega)]
end Go.Proofs.YtadejblahbebdaaDoor.Pure
