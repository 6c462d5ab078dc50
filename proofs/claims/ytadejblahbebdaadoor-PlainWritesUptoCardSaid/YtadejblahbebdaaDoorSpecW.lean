/- SpecW: several of this session's texts in one. -/
import Derived.Test.YtadejblahbebdaaDoorSpecN
import Derived.Test.YtadejblahbebdaaDoorX4
import Derived.Test.YtadejblahbebdaaDoorX16
import Derived.Test.YtadejblahbebdaaDoorSpecB
import Derived.Test.YtadejblahbebdaaDoorX11
import Derived.Test.YtadejblahbebdaaDoorSpecA
import Derived.Test.YtadejblahbebdaaDoorX5
import Derived.Test.YtadejblahbebdaaDoorHandR
import Derived.Test.YtadejblahbebdaaDoorX2
import Derived.Test.YtadejblahbebdaaDoorX7
import Derived.Test.YtadejblahbebdaaDoorX12
import Derived.Test.YtadejblahbebdaaDoorX13
import Derived.Test.YtadejblahbebdaaDoorX9
/- A row made normal, and erased: package plain's and the reference's. -/
namespace Go.Proofs.YtadejblahbebdaaDoor.Pure
open Go.RowKit Go.Proofs.YtadejblahbebdaaDoorW.PrintWords Go.Proofs.YtadejblahbebdaaDoorW.PrintLast Go.Proofs.YtadejblahbebdaaDoorW.PrintMore Go.Proofs.YtadejblahbebdaaDoor.X Go.Proofs.YtadejblahbebdaaDoor.Hand
set_option linter.unusedSimpArgs false
set_option linter.unusedVariables false
/-- How a glyph is set, behind one that is set as p (none: first). -/
def setOf (p : Option Int) (g : Gl) : Int := if g.f0 = 32 then 0 else match p with | some s => if wid g.f0 = 0 then s else g.f1 | none => g.f1
def normGo : Option Int → List Gl → List Gl
  | _, [] => []
  | p, g :: t => ⟨g.f0, setOf p g⟩ :: normGo (some (setOf p g)) t
def erase (l : List Gl) : List Gl := l.map (fun g => ⟨g.f0, 0⟩)
/-- How the last is set. -/
def lastS (o : List Gl) : Option Int := o.getLast?.map (·.f1)
theorem lastS_snoc (o : List Gl) (g : Gl) : lastS (o ++ [g]) = some g.f1 := by simp [lastS]
theorem normGo_length : ∀ (l : List Gl) (p : Option Int), (normGo p l).length = l.length
  | [], _ => rfl
  | g :: t, p => by rw [normGo, List.length_cons, normGo_length t, List.length_cons]
theorem normGo_runes : ∀ (l : List Gl) (p : Option Int), (normGo p l).map (·.f0) = l.map (·.f0)
  | [], _ => rfl
  | g :: t, p => by rw [normGo, List.map_cons, normGo_runes t, List.map_cons]
theorem erase_runes (l : List Gl) : (erase l).map (·.f0) = l.map (·.f0) := by
  unfold erase
  rw [List.map_map]
  rfl
theorem set_mid (o : List Gl) (g x : Gl) (t : List Gl) : (o ++ g :: t).set o.length x = (o ++ [x]) ++ t := by
  rw [List.set_append_right _ _ (Nat.le_refl _), Nat.sub_self, List.set_cons_zero, List.append_assoc]
  rfl
theorem rd_mid (o : List Gl) (g : Gl) (t : List Gl) : rd_T37 (o ++ g :: t) (o.length : Int) = g := by
  rw [rdG _ _ (by rw [List.length_append, List.length_cons]; omega)]
  simp
theorem rd_before (o : List Gl) (y g : Gl) (t : List Gl) : rd_T37 ((o ++ [y]) ++ g :: t) (((o ++ [y]).length - 1 : Nat) : Int) = y := by
  have e : (o ++ [y]).length - 1 = o.length := by simp
  rw [e, rdG _ _ (by rw [List.length_append, List.length_append, List.length_singleton, List.length_cons]; omega)]
  simp
theorem normal_ev (l : List Gl) {m : Nat} (hm : IsTrim (clean l) m) (h : l.length ≤ 1000000) : Ev (fun k => plain_Normal.f k l) (normGo none ((clean l).take m)) := by
  have hcl := clean_length l
  unfold plain_Normal.f
  refine Ev.bind (clean_ev l (by omega)) (Ev.bind (trim_ev hm (by omega)) ?_)
  have hlen : ((clean l).take m).length ≤ 1000000 := by rw [List.length_take]; omega
  generalize (clean l).take m = c at hlen
  refine ev_eq (loop_up (fun k o i => plain_Normal.l0 k (o ++ c.drop o.length) (c.length : Int) i) c.length (fun o i => o ++ normGo (lastS o) (c.drop i)) (fun o i => o.length = i) ?_ ?_ [] 0 (by omega) rfl) (by simp [lastS])
  · intro o ho
    refine Ev.step (f := fun _ => some (o ++ c.drop o.length)) (fun k => by simp only [plain_Normal.l0]; rw [if_neg (by omega)]) (ev_eq (Ev.now _) ?_)
    rw [ho, List.drop_length, normGo]
  · intro o i hi ho ih
    subst ho
    obtain ⟨g, t, hgt⟩ : ∃ g t, c.drop o.length = g :: t := ⟨c[o.length], c.drop (o.length + 1), List.drop_eq_getElem_cons hi⟩
    have ht : c.drop (o.length + 1) = t := by
      have := List.drop_eq_getElem_cons hi
      rw [hgt] at this
      injection this with _ h2
      exact h2.symm
    have hxl : (o ++ g :: t).length = c.length := by
      have := congrArg List.length hgt
      rw [List.length_drop] at this
      rw [List.length_append, ← this]
      omega
    have hnext : ∀ x : Gl, x = ⟨g.f0, setOf (lastS o) g⟩ → Ev (fun k => plain_Normal.l0 k ((o ++ [x]) ++ t) (c.length : Int) ((o.length + 1 : Nat) : Int)) (o ++ normGo (lastS o) (g :: t)) := by
      intro x hx
      have h1 := ih (o ++ [x]) (by simp)
      rw [show (o ++ [x]).length = o.length + 1 by simp, ht] at h1
      refine ev_eq h1 ?_
      rw [lastS_snoc, normGo, hx, List.append_assoc]
      rfl
    have hsame : ∀ x : Gl, x = g → (o ++ [x]) ++ t = o ++ g :: t := by
      intro x hx
      rw [hx, List.append_assoc]
      rfl
    rw [hgt]
    by_cases h32 : g.f0 = 32
    · refine Ev.step (f := fun k => plain_Normal.l0 k ((o ++ [⟨g.f0, 0⟩]) ++ t) (c.length : Int) ((o.length + 1 : Nat) : Int)) (fun k => ?_) (hnext ⟨g.f0, 0⟩ (by simp [setOf, h32]))
      simp only [plain_Normal.l0]
      rw [if_pos (by omega), if_pos (by omega), if_pos (by omega), rd_mid, if_pos h32, Int.toNat_natCast, set_mid, wrap_up hi (by omega)]
    · rcases List.eq_nil_or_concat o with ho | ⟨o', y, ho⟩
      · have hn := hnext g (gl_ext rfl (by simp [setOf, h32, ho, lastS]))
        rw [hsame g rfl] at hn
        refine Ev.step (f := fun k => plain_Normal.l0 k (o ++ g :: t) (c.length : Int) ((o.length + 1 : Nat) : Int)) (fun k => ?_) hn
        have h0 : o.length = 0 := by rw [ho]; rfl
        simp only [plain_Normal.l0]
        rw [if_pos (by omega), if_pos (by omega), if_pos (by omega), rd_mid, if_neg h32, if_neg (by omega), wrap_up hi (by omega)]
      · rw [List.concat_eq_append] at ho
        have hol : o.length = o'.length + 1 := by rw [ho]; simp
        have hls : lastS o = some y.f1 := by rw [ho, lastS_snoc]
        have hprev : rd_T37 (o ++ g :: t) ((o.length - 1 : Nat) : Int) = y := by
          rw [ho]
          exact rd_before o' y g t
        by_cases hz : wid g.f0 = 0
        · refine Ev.step (fun k => ?_) (hnext ⟨g.f0, y.f1⟩ (by simp [setOf, h32, hls, hz]))
          simp only [plain_Normal.l0]
          rw [if_pos (by omega), if_pos (by omega), if_pos (by omega), rd_mid, if_neg h32, if_pos (by omega), show runes_Width.f g.f0 = some (wid g.f0) from rfl, Option.bind_some, if_pos hz, wrap_of (x := (o.length : Int) - 1) (by omega) (by omega), show (o.length : Int) - 1 = ((o.length - 1 : Nat) : Int) by omega, if_pos (by omega), if_pos (by omega), hprev, Int.toNat_natCast, set_mid, wrap_up hi (by omega)]
        · have hn := hnext g (gl_ext rfl (by simp [setOf, h32, hls, hz]))
          rw [hsame g rfl] at hn
          refine Ev.step (fun k => ?_) hn
          simp only [plain_Normal.l0]
          rw [if_pos (by omega), if_pos (by omega), if_pos (by omega), rd_mid, if_neg h32, if_pos (by omega), show runes_Width.f g.f0 = some (wid g.f0) from rfl, Option.bind_some, if_neg hz, wrap_up hi (by omega)]
theorem erase_ev (l : List Gl) (h : l.length ≤ 1000000) : Ev (fun k => plain_Erase.f k l) (erase l) := by
  unfold plain_Erase.f
  refine ev_bind1 (a := l) (by unfold clone_G.f; rw [if_pos (by omega)]) ?_
  refine ev_eq (loop_up (fun k o i => plain_Erase.l0 k (o ++ l.drop o.length) (l.length : Int) i) l.length (fun o i => o ++ erase (l.drop i)) (fun o i => o.length = i) ?_ ?_ [] 0 (by omega) rfl) (by simp)
  · intro o ho
    refine Ev.step (f := fun _ => some (o ++ l.drop o.length)) (fun k => by simp only [plain_Erase.l0]; rw [if_neg (by omega)]) (ev_eq (Ev.now _) ?_)
    rw [ho, List.drop_length]
    rfl
  · intro o i hi ho ih
    subst ho
    obtain ⟨g, t, hgt⟩ : ∃ g t, l.drop o.length = g :: t := ⟨l[o.length], l.drop (o.length + 1), List.drop_eq_getElem_cons hi⟩
    have ht : l.drop (o.length + 1) = t := by
      have := List.drop_eq_getElem_cons hi
      rw [hgt] at this
      injection this with _ h2
      exact h2.symm
    have hxl : (o ++ g :: t).length = l.length := by
      have := congrArg List.length hgt
      rw [List.length_drop] at this
      rw [List.length_append, ← this]
      omega
    rw [hgt]
    have h1 := ih (o ++ [⟨g.f0, 0⟩]) (by simp)
    rw [show (o ++ [(⟨g.f0, 0⟩ : Gl)]).length = o.length + 1 by simp, ht] at h1
    refine Ev.step (f := fun k => plain_Erase.l0 k ((o ++ [⟨g.f0, 0⟩]) ++ t) (l.length : Int) ((o.length + 1 : Nat) : Int)) (fun k => ?_) (ev_eq h1 (by simp [erase]))
    simp only [plain_Erase.l0]
    rw [if_pos (by omega), if_pos (by omega), if_pos (by omega), rd_mid, Int.toNat_natCast, set_mid, wrap_up hi (by omega)]
end Go.Proofs.YtadejblahbebdaaDoor.Pure

/- The reference: a row made normal. -/
namespace Go.Proofs.YtadejblahbebdaaDoor.Pure
open Go.RowKit Go.Proofs.YtadejblahbebdaaDoorW.PrintWords Go.Proofs.YtadejblahbebdaaDoorW.PrintLast Go.Proofs.YtadejblahbebdaaDoorW.PrintMore Go.Proofs.YtadejblahbebdaaDoor.X Go.Proofs.YtadejblahbebdaaDoor.Hand
set_option linter.unusedSimpArgs false
set_option linter.unusedVariables false
theorem rnormal_ev (l : List Gl) {m : Nat} (hm : IsTrim (clean l) m) (h : l.length ≤ 5000) (h8 : ∀ g ∈ l, 0 ≤ g.f1 ∧ g.f1 ≤ 255) : Ev (fun k => flongref17_Normal.f k l) (normGo none ((clean l).take m)) := by
  have hcl := clean_length l
  unfold flongref17_Normal.f
  refine Ev.bind (rclean_ev l h h8) (Ev.bind (rtrim_ev hm (by omega)) ?_)
  have hlen : ((clean l).take m).length ≤ 1000000 := by rw [List.length_take]; omega
  generalize (clean l).take m = c at hlen
  refine ev_eq (loop_up (fun k o i => flongref17_Normal.l0 k c o i) c.length (fun o i => o ++ normGo (lastS o) (c.drop i)) (fun o i => o.length = i) ?_ ?_ [] 0 (by omega) rfl) (by simp [lastS])
  · intro o ho
    refine Ev.step (f := fun _ => some o) (fun k => by simp only [flongref17_Normal.l0]; rw [if_neg (by omega)]) (ev_eq (Ev.now _) ?_)
    rw [List.drop_length, normGo, List.append_nil]
  · intro o i hi ho ih
    have hnext : ∀ x : Gl, x = ⟨c[i].f0, setOf (lastS o) c[i]⟩ → Ev (fun k => flongref17_Normal.l0 k c (o ++ [x]) ((i + 1 : Nat) : Int)) (o ++ normGo (lastS o) (c.drop i)) := by
      intro x hx
      refine ev_eq (ih (o ++ [x]) (by simp [ho])) ?_
      rw [List.drop_eq_getElem_cons hi, lastS_snoc, normGo, hx, List.append_assoc]
      rfl
    have hj : ∀ b : Bool, (b = true ↔ (o ≠ [] ∧ wid c[i].f0 = 0)) → Ev (fun k => flongref17_Normal.j1 k c o (i : Int) b c[i].f0 c[i].f1) (o ++ normGo (lastS o) (c.drop i)) := by
      intro b hb
      by_cases h32 : c[i].f0 = 32
      · have hn := hnext ⟨c[i].f0, 0⟩ (by simp [setOf, h32])
        refine Ev.step (fun k => ?_) hn
        simp only [flongref17_Normal.j1]
        cases b with
        | false => rw [if_neg (by simp), if_pos h32, if_pos (by omega), wrap_up hi (by omega)]
        | true =>
          have ho0 : o ≠ [] := (hb.1 rfl).1
          have := List.length_pos_iff.2 ho0
          rw [if_pos rfl, wrap_of (by omega) (by omega), if_pos (by omega), if_pos (by omega), if_pos h32, if_pos (by omega), wrap_up hi (by omega)]
      · cases b with
        | false =>
          have hz : ¬ (o ≠ [] ∧ wid c[i].f0 = 0) := fun e => by simpa using hb.2 e
          have hn := hnext ⟨c[i].f0, c[i].f1⟩ (by
            rcases List.eq_nil_or_concat o with e | ⟨o', y, e⟩
            · simp [setOf, h32, e, lastS]
            · have hne : o ≠ [] := by rw [e]; simp
              have hw : ¬ wid c[i].f0 = 0 := fun e2 => hz ⟨hne, e2⟩
              rw [List.concat_eq_append] at e
              simp [setOf, h32, e, lastS_snoc, hw])
          refine Ev.step (fun k => ?_) hn
          simp only [flongref17_Normal.j1]
          rw [if_neg (by simp), if_neg h32, if_pos (by omega), wrap_up hi (by omega)]
        | true =>
          obtain ⟨ho0, hw⟩ := hb.1 rfl
          rcases List.eq_nil_or_concat o with e | ⟨o', y, e⟩
          · exact absurd e ho0
          · rw [List.concat_eq_append] at e
            have hol : o.length = o'.length + 1 := by rw [e]; simp
            have hy : rd_T37 o ((i - 1 : Nat) : Int) = y := by
              rw [rdG _ _ (by omega)]
              have : i - 1 = o'.length := by omega
              simp [e, this]
            have hn := hnext ⟨c[i].f0, y.f1⟩ (by rw [e]; simp [setOf, h32, lastS_snoc, hw])
            refine Ev.step (fun k => ?_) hn
            simp only [flongref17_Normal.j1]
            rw [if_pos trivial, wrap_of (by omega) (by omega), show (i : Int) - 1 = ((i - 1 : Nat) : Int) by omega, if_pos (by omega), if_pos (by omega), if_neg h32, if_pos (by omega), hy, wrap_up hi (by omega)]
    by_cases h0 : 0 < i
    · have hne : o ≠ [] := by intro e; rw [e] at ho; simp at ho; omega
      refine Ev.step (f := fun k => (flongref02_Width.f k c[i].f0).bind fun t => flongref17_Normal.j1 k c o (i : Int) (t == 0) c[i].f0 c[i].f1) (fun k => ?_) (Ev.bind (rwidth_ev _) (hj _ (by simp [hne])))
      simp only [flongref17_Normal.l0]
      rw [if_pos (by omega), if_pos (by omega), if_pos (by omega), rdG c i hi]
    · have he : o = [] := List.eq_nil_of_length_eq_zero (by omega)
      refine Ev.step (f := fun k => flongref17_Normal.j1 k c o (i : Int) false c[i].f0 c[i].f1) (fun k => ?_) (hj false (by simp [he]))
      simp only [flongref17_Normal.l0]
      rw [if_pos (by omega), if_pos (by omega), if_neg (by omega), rdG c i hi]
end Go.Proofs.YtadejblahbebdaaDoor.Pure

/- Blanks. -/
namespace Go.Proofs.YtadejblahbebdaaDoor.Pure
open Go.RowKit Go.Proofs.YtadejblahbebdaaDoorW.PrintWords Go.Proofs.YtadejblahbebdaaDoorW.PrintLast Go.Proofs.YtadejblahbebdaaDoorW.PrintMore Go.Proofs.YtadejblahbebdaaDoor.X Go.Proofs.YtadejblahbebdaaDoor.Hand
set_option linter.unusedSimpArgs false
set_option linter.unusedVariables false
def sp : Gl := ⟨32, 0⟩
theorem wid_sp : wid sp.f0 = 1 := by decide +kernel
theorem mx_mn (a : Int) : mx 0 (mn a 65535) = max 0 (min a 65535) := by
  unfold mx mn
  omega
theorem blank_eq (a : Int) : cells_Blank.f a = some (List.replicate (max 0 (min a 65535)).toNat sp) := by
  unfold cells_Blank.f repeat_G.f
  rw [mx_mn, if_pos ⟨rfl, by omega, by omega⟩, Option.bind_some]
  rfl
end Go.Proofs.YtadejblahbebdaaDoor.Pure

/- Two rows, one behind the other. -/
namespace Go.Proofs.YtadejblahbebdaaDoor.Pure
open Go.RowKit Go.Proofs.YtadejblahbebdaaDoorW.PrintWords Go.Proofs.YtadejblahbebdaaDoorW.PrintLast Go.Proofs.YtadejblahbebdaaDoorW.PrintMore Go.Proofs.YtadejblahbebdaaDoor.X Go.Proofs.YtadejblahbebdaaDoor.Hand
theorem join_eq {a b : List Gl} (h : a.length + b.length < 17592186044416) : flongref03_Join.f a b = some (a ++ b) := by
  unfold flongref03_Join.f
  rw [if_pos (by simp; omega), Option.bind_some, if_pos (by simp; omega), List.nil_append]
end Go.Proofs.YtadejblahbebdaaDoor.Pure

/- Lines laid flat, made normal, and as bytes: package plain's and the reference's. -/
namespace Go.Proofs.YtadejblahbebdaaDoor.Pure
open Go.RowKit Go.Proofs.YtadejblahbebdaaDoorW.PrintWords Go.Proofs.YtadejblahbebdaaDoorW.PrintLast Go.Proofs.YtadejblahbebdaaDoorW.PrintMore Go.Proofs.YtadejblahbebdaaDoor.X Go.Proofs.YtadejblahbebdaaDoor.Hand
set_option linter.unusedSimpArgs false
set_option linter.unusedVariables false
abbrev Ln := S49
theorem rdN (l : List Ln) (i : Nat) (h : i < l.length) : rd_T49 l (i : Int) = l[i] := by
  simp [rd_T49, List.getD_eq_getElem?_getD, List.getElem?_eq_getElem h]
/-- A line, flat. -/
def flat (x : Ln) : List Gl := if x.f1.length = 0 then [] else List.replicate (max 0 (min x.f0 65535)).toNat sp ++ x.f1
/-- What the chapter's laws look at. -/
def Small (x : Ln) : Prop := x.f0 ≤ 2000 ∧ x.f1.length ≤ 400 ∧ ∀ g ∈ x.f1, 0 ≤ g.f1 ∧ g.f1 ≤ 255
theorem flat_length {x : Ln} (h : Small x) : (flat x).length ≤ 2400 := by
  obtain ⟨h0, h1, _⟩ := h
  unfold flat
  split
  · simp
  · rw [List.length_append, List.length_replicate]
    omega
theorem flat_set {x : Ln} (h : Small x) : ∀ g ∈ flat x, 0 ≤ g.f1 ∧ g.f1 ≤ 255 := by
  intro g hg
  unfold flat at hg
  split at hg
  · simp at hg
  · rcases List.mem_append.1 hg with hg | hg
    · rw [(List.mem_replicate.1 hg).2]
      decide
    · exact h.2.2 g hg
theorem flat_eq {x : Ln} (h : x.f1.length ≤ 1000000) : layout_Flat.f x.f0 x.f1 x.f2 = some (flat x) := by
  unfold layout_Flat.f flat
  by_cases h0 : x.f1.length = 0
  · rw [if_pos (by omega), if_pos h0]
  · rw [if_neg (by omega), if_neg h0, blank_eq, Option.bind_some, if_pos (by rw [List.length_replicate]; omega)]
theorem rblank_ev (a : Int) : Ev (fun k => flongref03_Blank.f k a) (List.replicate (max 0 (min a 65535)).toNat sp) := by
  unfold flongref03_Blank.f
  refine loop_up (fun k o i => flongref03_Blank.l0 k a o i) (max 0 (min a 65535)).toNat (fun _ _ => List.replicate (max 0 (min a 65535)).toNat sp) (fun o i => o = List.replicate i sp) ?_ ?_ [] 0 (by omega) rfl
  · rintro o rfl
    refine Ev.step (f := fun _ => some _) (fun k => ?_) (Ev.now _)
    simp only [flongref03_Blank.l0]
    by_cases h : ((max 0 (min a 65535)).toNat : Int) < a
    · rw [if_pos h, if_neg (by omega)]
    · rw [if_neg h]
  · rintro o i hi rfl ih
    refine Ev.step (f := fun k => flongref03_Blank.l0 k a (List.replicate i sp ++ [sp]) ((i + 1 : Nat) : Int)) (fun k => ?_) (ih _ (by rw [List.replicate_succ']))
    simp only [flongref03_Blank.l0]
    rw [if_pos (by omega), if_pos (by omega), if_pos (by rw [List.length_replicate]; omega), wrap_up hi (by omega)]
    rfl
theorem rflat_ev {x : Ln} (h : x.f1.length ≤ 1000000) : Ev (fun k => flongref16_Flat.f k x.f0 x.f1 x.f2) (flat x) := by
  unfold flongref16_Flat.f flat
  by_cases h0 : x.f1.length = 0
  · rw [if_pos h0]
    exact ev_pos (by omega) (Ev.now _)
  · rw [if_neg h0]
    exact ev_neg (by omega) (Ev.bind (rblank_ev _) (ev_bind1 (join_eq (by rw [List.length_replicate]; omega)) (Ev.now _)))
/-- A row, normal. -/
noncomputable def nrm (l : List Gl) : List Gl := normGo none ((clean l).take (exists_trim (clean l)).choose)
theorem nrm_length (l : List Gl) : (nrm l).length ≤ l.length := by
  have := clean_length l
  unfold nrm
  rw [normGo_length, List.length_take]
  omega
noncomputable def prows (l : List Ln) : List (List Gl) := l.map (fun x => nrm (flat x))
theorem prows_length (l : List Ln) : (prows l).length = l.length := by simp [prows]
theorem prows_small {l : List Ln} (h : ∀ x ∈ l, Small x) : ∀ r ∈ prows l, r.length ≤ 2400 := by
  intro r hr
  obtain ⟨x, hx, rfl⟩ := List.mem_map.1 hr
  exact Nat.le_trans (nrm_length _) (flat_length (h x hx))
theorem prows_drop (l : List Ln) (i : Nat) (h : i < l.length) : prows (l.drop i) = nrm (flat l[i]) :: prows (l.drop (i + 1)) := by
  unfold prows
  rw [List.drop_eq_getElem_cons h, List.map_cons]
theorem rows_ev {l : List Ln} (hl : l.length ≤ 400) (h : ∀ x ∈ l, Small x) : Ev (fun k => plain_Rows.f k l) (prows l) := by
  unfold plain_Rows.f
  refine ev_eq (loop_up (fun k o i => plain_Rows.l0 k o l (l.length : Int) i) l.length (fun o i => o ++ prows (l.drop i)) (fun o i => o.length ≤ i) ?_ ?_ [] 0 (by omega) (by simp)) (by simp)
  · intro o _
    exact Ev.step (f := fun _ => some o) (fun k => by simp only [plain_Rows.l0]; rw [if_neg (by omega)]) (ev_eq (Ev.now _) (by simp [prows]))
  · intro o i hi ho ih
    have hs := h l[i] (List.getElem_mem hi)
    have hf := flat_length hs
    refine Ev.step (f := fun k => (plain_Normal.f k (flat l[i])).bind fun t => if o.length < 5864062014805 then plain_Rows.l0 k (o ++ [t]) l (l.length : Int) ((i + 1 : Nat) : Int) else none) (fun k => ?_) ?_
    · simp only [plain_Rows.l0]
      rw [if_pos (by omega), if_pos (by omega), if_pos (by omega), rdN l i hi, flat_eq (by have := hs.2.1; omega), Option.bind_some, wrap_up hi (by omega)]
    · refine Ev.bind (normal_ev _ (exists_trim (clean (flat l[i]))).choose_spec (by omega)) (ev_pos (by omega) (ev_eq (ih _ (by simp; omega)) ?_))
      rw [prows_drop l i hi, List.append_assoc]
      rfl
theorem rrows_ev {l : List Ln} (hl : l.length ≤ 400) (h : ∀ x ∈ l, Small x) : Ev (fun k => flongref17_Rows.f k l) (prows l) := by
  unfold flongref17_Rows.f
  refine ev_eq (loop_up (fun k o i => flongref17_Rows.l0 k l o i) l.length (fun o i => o ++ prows (l.drop i)) (fun o i => o.length ≤ i) ?_ ?_ [] 0 (by omega) (by simp)) (by simp)
  · intro o _
    exact Ev.step (f := fun _ => some o) (fun k => by simp only [flongref17_Rows.l0]; rw [if_neg (by omega)]) (ev_eq (Ev.now _) (by simp [prows]))
  · intro o i hi ho ih
    have hs := h l[i] (List.getElem_mem hi)
    have hf := flat_length hs
    refine Ev.step (f := fun k => (flongref16_Flat.f k l[i].f0 l[i].f1 l[i].f2).bind fun u => (flongref17_Normal.f k u).bind fun t => if o.length < 5864062014805 then flongref17_Rows.l0 k l (o ++ [t]) ((i + 1 : Nat) : Int) else none) (fun k => ?_) ?_
    · simp only [flongref17_Rows.l0]
      rw [if_pos (by omega), if_pos (by omega), rdN l i hi, wrap_up hi (by omega)]
    · refine Ev.bind (rflat_ev (by have := hs.2.1; omega)) (Ev.bind (rnormal_ev _ (exists_trim (clean (flat l[i]))).choose_spec (by omega) (flat_set hs)) (ev_pos (by omega) (ev_eq (ih _ (by simp; omega)) ?_)))
      rw [prows_drop l i hi, List.append_assoc]
      rfl
/-- Rows as bytes. -/
def lineBytes (r : List Gl) : List Int := encode (runesOf r) ++ [10]
def rowBytes (rs : List (List Gl)) : List Int := (rs.map lineBytes).flatten
theorem rowBytes_drop (rs : List (List Gl)) (i : Nat) (h : i < rs.length) : rowBytes (rs.drop i) = lineBytes rs[i] ++ rowBytes (rs.drop (i + 1)) := by
  unfold rowBytes
  rw [List.drop_eq_getElem_cons h, List.map_cons, List.flatten_cons]
theorem lineBytes_length (r : List Gl) : (lineBytes r).length ≤ 4 * r.length + 1 := by
  have := encode_length (runesOf r)
  rw [runesOf_length] at this
  unfold lineBytes
  rw [List.length_append]
  simp
  omega
theorem numsStr_append (a b : List Int) : strOfNums (a ++ b) = strOfNums a ++ strOfNums b := by
  apply ByteArray.ext
  apply Array.ext'
  rw [ByteArray.data_append, Array.toList_append, strOfNums_data, strOfNums_data, strOfNums_data, List.map_append]
theorem numsStr_size (a : List Int) : (strOfNums a).size = a.length := by
  rw [← data_length, strOfNums_data, List.length_map]
theorem numsStr_back {b : List Int} (hb : Bytes b) : bytesOf (strOfNums b) = b := by
  unfold bytesOf
  rw [strOfNums_data, List.map_map]
  conv => rhs; rw [← List.map_id b]
  apply List.map_congr_left
  intro x hx
  have := hb x hx
  simp
  omega
theorem lineBytes_Bytes (r : List Gl) : Bytes (lineBytes r) := by
  intro x hx
  rcases List.mem_append.1 hx with h | h
  · exact encode_bytes _ x h
  · rw [List.mem_singleton.1 h]
    decide
theorem rowBytes_Bytes (rs : List (List Gl)) : Bytes (rowBytes rs) := by
  intro x hx
  obtain ⟨y, hy, hxy⟩ := List.mem_flatten.1 hx
  obtain ⟨r, _, rfl⟩ := List.mem_map.1 hy
  exact lineBytes_Bytes r x hxy
theorem write_ev {l : List Ln} (hl : l.length ≤ 400) (h : ∀ x ∈ l, Small x) : Ev (fun k => plain_Write.f k l) (rowBytes (prows l)) := by
  unfold plain_Write.f
  refine Ev.bind (rows_ev hl h) ?_
  have hn := prows_length l
  have hsm := prows_small h
  revert hn hsm
  generalize prows l = rs
  intro hn hsm
  refine ev_eq (loop_up (fun k o i => plain_Write.l0 k o rs (rs.length : Int) i) rs.length (fun o i => o ++ rowBytes (rs.drop i)) (fun o i => o.length ≤ 9601 * i) ?_ ?_ [] 0 (by omega) (by simp)) (by simp)
  · intro o _
    exact Ev.step (f := fun _ => some o) (fun k => by simp only [plain_Write.l0]; rw [if_neg (by omega)]) (ev_eq (Ev.now _) (by simp [rowBytes]))
  · intro o i hi ho ih
    have hr := hsm rs[i] (List.getElem_mem hi)
    have he := encode_length (runesOf rs[i])
    rw [runesOf_length] at he
    refine Ev.step (f := fun k => (cells_Text.f k rs[i]).bind fun t197 => (if o.length + t197.size < 140737488355328 then ((some (o ++ bytesOf t197 : List Int)).bind fun y198 => (if y198.length < 140737488355328 then (plain_Write.l0 k (y198 ++ [10]) rs (rs.length : Int) ((i + 1 : Nat) : Int)) else (none))) else (none))) (fun k => ?_) ?_
    · simp only [plain_Write.l0]
      rw [if_pos (by omega), if_pos (by omega), if_pos (by omega), rdL rs i hi, wrap_up hi (by omega)]
    · refine Ev.bind (text_ev _ (by omega)) (ev_pos (by rw [numsStr_size]; omega) ?_)
      rw [numsStr_back (encode_bytes _)]
      refine ev_bind1 rfl (ev_pos (by rw [List.length_append]; omega) (ev_eq (ih _ (by simp only [List.length_append, List.length_singleton]; omega)) ?_))
      rw [rowBytes_drop rs i hi, lineBytes]
      simp
theorem rwrite_ev {l : List Ln} (hl : l.length ≤ 400) (h : ∀ x ∈ l, Small x) : Ev (fun k => flongref17_Write.f k l) (rowBytes (prows l)) := by
  unfold flongref17_Write.f
  refine Ev.bind (rrows_ev hl h) ?_
  have hn := prows_length l
  have hsm := prows_small h
  revert hn hsm
  generalize prows l = rs
  intro hn hsm
  have hB : Bytes ([] : List Int) := by intro x hx; simp at hx
  refine ev_eq (loop_up (σ := List Int) (fun k o i => flongref17_Write.l0 k rs (strOfNums o) i) rs.length (fun o i => o ++ rowBytes (rs.drop i)) (fun o i => o.length ≤ 9601 * i ∧ Bytes o) ?_ ?_ [] 0 (by omega) ⟨by simp, hB⟩) (by simp)
  · intro o ho
    refine Ev.step (f := fun _ => some o) (fun k => ?_) (ev_eq (Ev.now _) (by simp [rowBytes]))
    simp only [flongref17_Write.l0]
    rw [if_neg (by omega)]
    unfold conv_bytes.f
    rw [if_pos (by rw [numsStr_size]; omega), numsStr_back ho.2]
    rfl
  · intro o i hi ho ih
    have hr := hsm rs[i] (List.getElem_mem hi)
    have he := encode_length (runesOf rs[i])
    rw [runesOf_length] at he
    refine Ev.step (f := fun k => (flongref03_Text.f k rs[i]).bind fun t => if (strOfNums o).size + t.size ≤ 9223372036854775807 then (if (strOfNums o ++ t).size + 1 ≤ 9223372036854775807 then flongref17_Write.l0 k rs ((strOfNums o ++ t) ++ (⟨#[10]⟩ : ByteArray)) ((i + 1 : Nat) : Int) else none) else none) (fun k => ?_) ?_
    · simp only [flongref17_Write.l0]
      rw [if_pos (by omega), if_pos (by omega), rdL rs i hi, wrap_up hi (by omega)]
    · have e : (strOfNums o ++ strOfNums (encode (runesOf rs[i]))) ++ (⟨#[10]⟩ : ByteArray) = strOfNums (o ++ lineBytes rs[i]) := by
        unfold lineBytes
        rw [numsStr_append, numsStr_append, ByteArray.append_assoc]
        rfl
      refine Ev.bind (rgtext_ev _ (by omega)) (ev_pos (by rw [numsStr_size, numsStr_size]; omega) (ev_pos (by rw [← numsStr_append, numsStr_size, List.length_append]; omega) ?_))
      rw [e]
      have hlb := lineBytes_length rs[i]
      refine ev_eq (ih _ ⟨by rw [List.length_append]; omega, bytes_append ho.2 (lineBytes_Bytes _)⟩) ?_
      rw [rowBytes_drop rs i hi, List.append_assoc]
/-- Is it more than is looked at? -/
def longB : List Ln → Int → Bool
  | [], n => decide (n > 400)
  | x :: t, n => if x.f0 > 2000 then true else longB t (n + 1 + (x.f1.length : Int))
def lsum (l : List Ln) : Nat := (l.map (fun x => x.f1.length + 1)).sum
theorem lsum_cons (x : Ln) (t : List Ln) : lsum (x :: t) = x.f1.length + 1 + lsum t := by simp [lsum]
theorem lsum_length : ∀ l : List Ln, l.length ≤ lsum l
  | [] => Nat.zero_le _
  | x :: t => by
    have := lsum_length t
    rw [lsum_cons, List.length_cons]
    omega
theorem longB_false : ∀ (l : List Ln) (n : Int), 0 ≤ n → longB l n = false → n + lsum l ≤ 400 ∧ ∀ x ∈ l, x.f0 ≤ 2000 ∧ x.f1.length ≤ 400
  | [], n, h0, h => by
    simp [longB] at h
    simp [lsum]
    omega
  | x :: t, n, h0, h => by
    rw [longB] at h
    split at h
    · cases h
    · obtain ⟨h1, h2⟩ := longB_false t _ (by omega) h
      rw [lsum_cons]
      refine ⟨by omega, fun y hy => ?_⟩
      rcases List.mem_cons.1 hy with rfl | hy
      · omega
      · exact h2 y hy
theorem long_ev {l : List Ln} (h : lsum l ≤ 1048576) : Ev (fun k => flongref17_Long.f k l) (longB l 0) := by
  have hll := lsum_length l
  unfold flongref17_Long.f
  refine ev_eq (loop_up (fun k n i => flongref17_Long.l0 k l n i) l.length (fun n i => longB (l.drop i) n) (fun n i => 0 ≤ n ∧ n + lsum (l.drop i) ≤ 1048576) ?_ ?_ 0 0 (by omega) (by simp; omega)) (by simp)
  · intro n _
    exact Ev.step (f := fun _ => some (decide (n > 400))) (fun k => by simp only [flongref17_Long.l0]; rw [if_neg (by omega)]) (ev_eq (Ev.now _) (by rw [List.drop_length]; rfl))
  · intro n i hi hn ih
    rw [List.drop_eq_getElem_cons hi, lsum_cons] at hn
    rw [List.drop_eq_getElem_cons hi, longB]
    refine Ev.step (f := fun k => if l[i].f0 > 2000 then some true else flongref17_Long.l0 k l (n + 1 + (l[i].f1.length : Int)) ((i + 1 : Nat) : Int)) (fun k => ?_) ?_
    · simp only [flongref17_Long.l0]
      rw [if_pos (by omega), if_pos (by omega), rdN l i hi, wrap_up hi (by omega), wrap_of (x := n + 1) (by omega) (by omega), wrap_of (x := n + 1 + _) (by omega) (by omega)]
    · refine ev_ite (fun h => ev_eq (Ev.now _) (by rw [if_pos h])) (fun h => ?_)
      rw [if_neg h]
      exact ih _ ⟨by omega, by omega⟩
end Go.Proofs.YtadejblahbebdaaDoor.Pure

/- What the chapter's example fixes: computed. -/
namespace Go.Proofs.YtadejblahbebdaaDoor.Pure
open Go.RowKit Go.Proofs.YtadejblahbebdaaDoorW.PrintWords Go.Proofs.YtadejblahbebdaaDoorW.PrintLast Go.Proofs.YtadejblahbebdaaDoor.X
theorem known_ev : Ev (fun k => flonglaw17_known.f k) true := Ev.of (k := 30) flonglaw17_known.mono (by kernel_rfl)
end Go.Proofs.YtadejblahbebdaaDoor.Pure
