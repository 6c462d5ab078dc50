/- A row made normal, and erased: package plain's and the reference's. -/
import Derived.Test.YtadejblahbebdaaDoorSpecB
import Derived.Test.YtadejblahbebdaaDoorX4
import Derived.Test.YtadejblahbebdaaDoorX11
import Derived.Test.YtadejblahbebdaaDoorX15
namespace Go.Proofs.YtadejblahbebdaaDoor.Pure
open Go.RowKit Go.Proofs.YtadejblahbebdaaDoorW.PrintWords Go.Proofs.YtadejblahbebdaaDoorW.PrintLast Go.Proofs.YtadejblahbebdaaDoorW.PrintMore Go.Proofs.YtadejblahbebdaaDoor.X Go.Proofs.YtadejblahbebdaaDoor.Hand
set_option linter.unusedSimpArgs false
set_option linter.unusedVariables false
/-- How a glyph is set, behind one that is set as p (none: first). -/
def setOf (p : Option Int) (g : Gl) : Int := if g.f0 = 32 then 0 else match p with | some s => if wid g.f0 = 0 then s else g.f1 | none => g.f1
def normGo : Option Int → List Gl → List Gl
  | _, [] => []
  | p, g :: t => ⟨g.f0, setOf p g⟩ :: normGo (some (setOf p g)) t
def erase (l : List Gl) : List Gl := l.map (fun g => ⟨g.f0, 0⟩)
/-- How the last is set. -/
def lastS (o : List Gl) : Option Int := o.getLast?.map (·.f1)
theorem lastS_snoc (o : List Gl) (g : Gl) : lastS (o ++ [g]) = some g.f1 := by simp [lastS]
theorem normGo_length : ∀ (l : List Gl) (p : Option Int), (normGo p l).length = l.length
  | [], _ => rfl
  | g :: t, p => by rw [normGo, List.length_cons, normGo_length t, List.length_cons]
theorem normGo_runes : ∀ (l : List Gl) (p : Option Int), (normGo p l).map (·.f0) = l.map (·.f0)
  | [], _ => rfl
  | g :: t, p => by rw [normGo, List.map_cons, normGo_runes t, List.map_cons]
theorem erase_runes (l : List Gl) : (erase l).map (·.f0) = l.map (·.f0) := by
  unfold erase
  rw [List.map_map]
  rfl
theorem set_mid (o : List Gl) (g x : Gl) (t : List Gl) : (o ++ g :: t).set o.length x = (o ++ [x]) ++ t := by
  rw [List.set_append_right _ _ (Nat.le_refl _), Nat.sub_self, List.set_cons_zero, List.append_assoc]
  rfl
theorem rd_mid (o : List Gl) (g : Gl) (t : List Gl) : rd_T37 (o ++ g :: t) (o.length : Int) = g := by
  rw [rdG _ _ (by rw [List.length_append, List.length_cons]; omega)]
  simp
theorem rd_before (o : List Gl) (y g : Gl) (t : List Gl) : rd_T37 ((o ++ [y]) ++ g :: t) (((o ++ [y]).length - 1 : Nat) : Int) = y := by
  have e : (o ++ [y]).length - 1 = o.length := by simp
  rw [e, rdG _ _ (by rw [List.length_append, List.length_append, List.length_singleton, List.length_cons]; omega)]
  simp
theorem normal_ev (l : List Gl) {m : Nat} (hm : IsTrim (clean l) m) (h : l.length ≤ 1000000) : Ev (fun k => plain_Normal.f k l) (normGo none ((clean l).take m)) := by
  have hcl := clean_length l
  unfold plain_Normal.f
  refine Ev.bind (clean_ev l (by omega)) (Ev.bind (trim_ev hm (by omega)) ?_)
  have hlen : ((clean l).take m).length ≤ 1000000 := by rw [List.length_take]; omega
  generalize (clean l).take m = c at hlen
  refine ev_eq (loop_up (fun k o i => plain_Normal.l0 k (o ++ c.drop o.length) (c.length : Int) i) c.length (fun o i => o ++ normGo (lastS o) (c.drop i)) (fun o i => o.length = i) ?_ ?_ [] 0 (by omega) rfl) (by simp [lastS])
  · intro o ho
    refine Ev.step (f := fun _ => some (o ++ c.drop o.length)) (fun k => by simp only [plain_Normal.l0]; rw [if_neg (by omega)]) (ev_eq (Ev.now _) ?_)
    rw [ho, List.drop_length, normGo]
  · intro o i hi ho ih
    subst ho
    obtain ⟨g, t, hgt⟩ : ∃ g t, c.drop o.length = g :: t := ⟨c[o.length], c.drop (o.length + 1), List.drop_eq_getElem_cons hi⟩
    have ht : c.drop (o.length + 1) = t := by
      have := List.drop_eq_getElem_cons hi
      rw [hgt] at this
      injection this with _ h2
      exact h2.symm
    have hxl : (o ++ g :: t).length = c.length := by
      have := congrArg List.length hgt
      rw [List.length_drop] at this
      rw [List.length_append, ← this]
      omega
    have hnext : ∀ x : Gl, x = ⟨g.f0, setOf (lastS o) g⟩ → Ev (fun k => plain_Normal.l0 k ((o ++ [x]) ++ t) (c.length : Int) ((o.length + 1 : Nat) : Int)) (o ++ normGo (lastS o) (g :: t)) := by
      intro x hx
      have h1 := ih (o ++ [x]) (by simp)
      rw [show (o ++ [x]).length = o.length + 1 by simp, ht] at h1
      refine ev_eq h1 ?_
      rw [lastS_snoc, normGo, hx, List.append_assoc]
      rfl
    have hsame : ∀ x : Gl, x = g → (o ++ [x]) ++ t = o ++ g :: t := by
      intro x hx
      rw [hx, List.append_assoc]
      rfl
    rw [hgt]
    by_cases h32 : g.f0 = 32
    · refine Ev.step (f := fun k => plain_Normal.l0 k ((o ++ [⟨g.f0, 0⟩]) ++ t) (c.length : Int) ((o.length + 1 : Nat) : Int)) (fun k => ?_) (hnext ⟨g.f0, 0⟩ (by simp [setOf, h32]))
      simp only [plain_Normal.l0]
      rw [if_pos (by omega), if_pos (by omega), if_pos (by omega), rd_mid, if_pos h32, Int.toNat_natCast, set_mid, wrap_up hi (by omega)]
    · rcases List.eq_nil_or_concat o with ho | ⟨o', y, ho⟩
      · have hn := hnext g (gl_ext rfl (by simp [setOf, h32, ho, lastS]))
        rw [hsame g rfl] at hn
        refine Ev.step (f := fun k => plain_Normal.l0 k (o ++ g :: t) (c.length : Int) ((o.length + 1 : Nat) : Int)) (fun k => ?_) hn
        have h0 : o.length = 0 := by rw [ho]; rfl
        simp only [plain_Normal.l0]
        rw [if_pos (by omega), if_pos (by omega), if_pos (by omega), rd_mid, if_neg h32, if_neg (by omega), wrap_up hi (by omega)]
      · rw [List.concat_eq_append] at ho
        have hol : o.length = o'.length + 1 := by rw [ho]; simp
        have hls : lastS o = some y.f1 := by rw [ho, lastS_snoc]
        have hprev : rd_T37 (o ++ g :: t) ((o.length - 1 : Nat) : Int) = y := by
          rw [ho]
          exact rd_before o' y g t
        by_cases hz : wid g.f0 = 0
        · refine Ev.step (fun k => ?_) (hnext ⟨g.f0, y.f1⟩ (by simp [setOf, h32, hls, hz]))
          simp only [plain_Normal.l0]
          rw [if_pos (by omega), if_pos (by omega), if_pos (by omega), rd_mid, if_neg h32, if_pos (by omega), show runes_Width.f g.f0 = some (wid g.f0) from rfl, Option.bind_some, if_pos hz, wrap_of (x := (o.length : Int) - 1) (by omega) (by omega), show (o.length : Int) - 1 = ((o.length - 1 : Nat) : Int) by omega, if_pos (by omega), if_pos (by omega), hprev, Int.toNat_natCast, set_mid, wrap_up hi (by omega)]
        · have hn := hnext g (gl_ext rfl (by simp [setOf, h32, hls, hz]))
          rw [hsame g rfl] at hn
          refine Ev.step (fun k => ?_) hn
          simp only [plain_Normal.l0]
          rw [if_pos (by omega), if_pos (by omega), if_pos (by omega), rd_mid, if_neg h32, if_pos (by omega), show runes_Width.f g.f0 = some (wid g.f0) from rfl, Option.bind_some, if_neg hz, wrap_up hi (by omega)]
theorem erase_ev (l : List Gl) (h : l.length ≤ 1000000) : Ev (fun k => plain_Erase.f k l) (erase l) := by
  unfold plain_Erase.f
  refine ev_bind1 (a := l) (by unfold clone_G.f; rw [if_pos (by omega)]) ?_
  refine ev_eq (loop_up (fun k o i => plain_Erase.l0 k (o ++ l.drop o.length) (l.length : Int) i) l.length (fun o i => o ++ erase (l.drop i)) (fun o i => o.length = i) ?_ ?_ [] 0 (by omega) rfl) (by simp)
  · intro o ho
    refine Ev.step (f := fun _ => some (o ++ l.drop o.length)) (fun k => by simp only [plain_Erase.l0]; rw [if_neg (by omega)]) (ev_eq (Ev.now _) ?_)
    rw [ho, List.drop_length]
    rfl
  · intro o i hi ho ih
    subst ho
    obtain ⟨g, t, hgt⟩ : ∃ g t, l.drop o.length = g :: t := ⟨l[o.length], l.drop (o.length + 1), List.drop_eq_getElem_cons hi⟩
    have ht : l.drop (o.length + 1) = t := by
      have := List.drop_eq_getElem_cons hi
      rw [hgt] at this
      injection this with _ h2
      exact h2.symm
    have hxl : (o ++ g :: t).length = l.length := by
      have := congrArg List.length hgt
      rw [List.length_drop] at this
      rw [List.length_append, ← this]
      omega
    rw [hgt]
    have h1 := ih (o ++ [⟨g.f0, 0⟩]) (by simp)
    rw [show (o ++ [(⟨g.f0, 0⟩ : Gl)]).length = o.length + 1 by simp, ht] at h1
    refine Ev.step (f := fun k => plain_Erase.l0 k ((o ++ [⟨g.f0, 0⟩]) ++ t) (l.length : Int) ((o.length + 1 : Nat) : Int)) (fun k => ?_) (ev_eq h1 (by simp [erase]))
    simp only [plain_Erase.l0]
    rw [if_pos (by omega), if_pos (by omega), if_pos (by omega), rd_mid, Int.toNat_natCast, set_mid, wrap_up hi (by omega)]
theorem rnormal_ev (l : List Gl) {m : Nat} (hm : IsTrim (clean l) m) (h : l.length ≤ 500) (h8 : ∀ g ∈ l, 0 ≤ g.f1 ∧ g.f1 ≤ 255) : Ev (fun k => flongref17_Normal.f k l) (normGo none ((clean l).take m)) := by
  have hcl := clean_length l
  unfold flongref17_Normal.f
  refine Ev.bind (rclean_ev l h h8) (Ev.bind (rtrim_ev hm (by omega)) ?_)
  have hlen : ((clean l).take m).length ≤ 1000000 := by rw [List.length_take]; omega
  generalize (clean l).take m = c at hlen
  refine ev_eq (loop_up (fun k o i => flongref17_Normal.l0 k c o i) c.length (fun o i => o ++ normGo (lastS o) (c.drop i)) (fun o i => o.length = i) ?_ ?_ [] 0 (by omega) rfl) (by simp [lastS])
  · intro o ho
    refine Ev.step (f := fun _ => some o) (fun k => by simp only [flongref17_Normal.l0]; rw [if_neg (by omega)]) (ev_eq (Ev.now _) ?_)
    rw [List.drop_length, normGo, List.append_nil]
  · intro o i hi ho ih
    have hnext : ∀ x : Gl, x = ⟨c[i].f0, setOf (lastS o) c[i]⟩ → Ev (fun k => flongref17_Normal.l0 k c (o ++ [x]) ((i + 1 : Nat) : Int)) (o ++ normGo (lastS o) (c.drop i)) := by
      intro x hx
      refine ev_eq (ih (o ++ [x]) (by simp [ho])) ?_
      rw [List.drop_eq_getElem_cons hi, lastS_snoc, normGo, hx, List.append_assoc]
      rfl
    have hj : ∀ b : Bool, (b = true ↔ (o ≠ [] ∧ wid c[i].f0 = 0)) → Ev (fun k => flongref17_Normal.j1 k c o (i : Int) b c[i].f0 c[i].f1) (o ++ normGo (lastS o) (c.drop i)) := by
      intro b hb
      by_cases h32 : c[i].f0 = 32
      · have hn := hnext ⟨c[i].f0, 0⟩ (by simp [setOf, h32])
        refine Ev.step (fun k => ?_) hn
        simp only [flongref17_Normal.j1]
        cases b with
        | false => rw [if_neg (by simp), if_pos h32, if_pos (by omega), wrap_up hi (by omega)]
        | true =>
          have ho0 : o ≠ [] := (hb.1 rfl).1
          have := List.length_pos_iff.2 ho0
          rw [if_pos rfl, wrap_of (by omega) (by omega), if_pos (by omega), if_pos (by omega), if_pos h32, if_pos (by omega), wrap_up hi (by omega)]
      · cases b with
        | false =>
          have hz : ¬ (o ≠ [] ∧ wid c[i].f0 = 0) := fun e => by simpa using hb.2 e
          have hn := hnext ⟨c[i].f0, c[i].f1⟩ (by
            rcases List.eq_nil_or_concat o with e | ⟨o', y, e⟩
            · simp [setOf, h32, e, lastS]
            · have hne : o ≠ [] := by rw [e]; simp
              have hw : ¬ wid c[i].f0 = 0 := fun e2 => hz ⟨hne, e2⟩
              rw [List.concat_eq_append] at e
              simp [setOf, h32, e, lastS_snoc, hw])
          refine Ev.step (fun k => ?_) hn
          simp only [flongref17_Normal.j1]
          rw [if_neg (by simp), if_neg h32, if_pos (by omega), wrap_up hi (by omega)]
        | true =>
          obtain ⟨ho0, hw⟩ := hb.1 rfl
          rcases List.eq_nil_or_concat o with e | ⟨o', y, e⟩
          · exact absurd e ho0
          · rw [List.concat_eq_append] at e
            have hol : o.length = o'.length + 1 := by rw [e]; simp
            have hy : rd_T37 o ((i - 1 : Nat) : Int) = y := by
              rw [rdG _ _ (by omega)]
              have : i - 1 = o'.length := by omega
              simp [e, this]
            have hn := hnext ⟨c[i].f0, y.f1⟩ (by rw [e]; simp [setOf, h32, lastS_snoc, hw])
            refine Ev.step (fun k => ?_) hn
            simp only [flongref17_Normal.j1]
            rw [if_pos trivial, wrap_of (by omega) (by omega), show (i : Int) - 1 = ((i - 1 : Nat) : Int) by omega, if_pos (by omega), if_pos (by omega), if_neg h32, if_pos (by omega), hy, wrap_up hi (by omega)]
    by_cases h0 : 0 < i
    · have hne : o ≠ [] := by intro e; rw [e] at ho; simp at ho; omega
      refine Ev.step (f := fun k => (flongref02_Width.f k c[i].f0).bind fun t => flongref17_Normal.j1 k c o (i : Int) (t == 0) c[i].f0 c[i].f1) (fun k => ?_) (Ev.bind (rwidth_ev _) (hj _ (by simp [hne])))
      simp only [flongref17_Normal.l0]
      rw [if_pos (by omega), if_pos (by omega), if_pos (by omega), rdG c i hi]
    · have he : o = [] := List.eq_nil_of_length_eq_zero (by omega)
      refine Ev.step (f := fun k => flongref17_Normal.j1 k c o (i : Int) false c[i].f0 c[i].f1) (fun k => ?_) (hj false (by simp [he]))
      simp only [flongref17_Normal.l0]
      rw [if_pos (by omega), if_pos (by omega), if_neg (by omega), rdG c i hi]
end Go.Proofs.YtadejblahbebdaaDoor.Pure
