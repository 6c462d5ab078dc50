/- CellsRows: of any row its width, its text, its runs, and what of it may be written, is what the chapter says; without blanks at its end, too. The plain law. -/
import Derived.Test.YtdcbaefcgghbmaaDoorSpecB
import Derived.Test.YtdcbaefcgghbmaaDoorSpec03t
import Derived.Test.YtdcbaefcgghbmaaDoorSpec03d
import Derived.Test.YtdcbaefcgghbmaaDoorX20
import Derived.Test.YtdcbaefcgghbmaaDoorX21
import Derived.Test.YtdcbaefcgghbmaaDoorX22
import Derived.Test.YtdcbaefcgghbmaaDoorSaidCellsRows
namespace Go.Proofs.YtdcbaefcgghbmaaDoor.Pure
open Go.RowKit Go.Proofs.YtdcbaefcgghbmaaDoorW.PrintWords Go.Proofs.YtdcbaefcgghbmaaDoorW.PrintLast Go.Proofs.YtdcbaefcgghbmaaDoor.X Go.Proofs.YtdcbaefcgghbmaaDoor.Hand
set_option linter.unusedSimpArgs false
theorem rdL (l : List (List Gl)) (i : Nat) (h : i < l.length) : rd_L6 l (i : Int) = l[i] := by
  simp [rd_L6, List.getD_eq_getElem?_getD, List.getElem?_eq_getElem h]
theorem rgwidth_ev (l : List Gl) (h : l.length ≤ 500) : Ev (fun k => flongref03_Width.f k l) (width l) := by
  unfold flongref03_Width.f
  refine ev_eq (loop_up (fun k n i => flongref03_Width.l0 k l n i) l.length (fun n i => n + width (l.drop i)) (fun n i => 0 ≤ n ∧ n ≤ 2 * i) ?_ ?_ 0 0 (by omega) ⟨by omega, by omega⟩) (by simp)
  · intro n _
    exact Ev.step (f := fun _ => some n) (fun k => by simp only [flongref03_Width.l0]; rw [if_neg (by omega)]) (ev_eq (Ev.now _) (by simp [width_nil]))
  · intro n i hi ⟨h0, h1⟩ ih
    have hw := wid_range l[i].f0
    refine Ev.step (f := fun k => (flongref02_Width.f k l[i].f0).bind fun t => flongref03_Width.l0 k l (wrap64 (n + t)) ((i + 1 : Nat) : Int)) (fun k => ?_) ?_
    · simp only [flongref03_Width.l0]
      rw [if_pos (by omega), if_pos (by omega), rdG l i hi, wrap_up hi (by omega)]
    · refine Ev.bind (rwidth_ev _) ?_
      rw [wrap_of (by omega) (by omega)]
      refine ev_eq (ih (n + wid l[i].f0) ⟨by omega, by omega⟩) ?_
      rw [List.drop_eq_getElem_cons hi, width_cons]
      omega
theorem one_len4 (r : Int) : (one r).length ≤ 4 := by
  have := encode_length [r]
  rw [encode_cons, encode_nil, List.append_nil] at this
  simpa using this
theorem rgtext_ev (l : List Gl) (h : l.length ≤ 500) : Ev (fun k => flongref03_Text.f k l) (strOfNums (encode (runesOf l))) := by
  unfold flongref03_Text.f
  refine ev_eq (loop_up (fun k o i => flongref03_Text.l0 k l o i) l.length (fun o i => strOfNums (o ++ encode (runesOf (l.drop i)))) (fun o i => o.length ≤ 4 * i) ?_ ?_ [] 0 (by omega) (by simp)) (by simp)
  · intro o _
    exact Ev.step (f := fun _ => some (strOfNums o)) (fun k => by simp only [flongref03_Text.l0]; rw [if_neg (by omega)]) (ev_eq (Ev.now _) (by rw [List.drop_length, runesOf_nil, encode_nil, List.append_nil]))
  · intro o i hi ho ih
    have hl := one_len4 l[i].f0
    refine Ev.step (f := fun k => (flongref02_One.f k l[i].f0).bind fun t => if o.length + t.length < 140737488355328 then flongref03_Text.l0 k l (o ++ t) ((i + 1 : Nat) : Int) else none) (fun k => ?_) ?_
    · simp only [flongref03_Text.l0]
      rw [if_pos (by omega), if_pos (by omega), rdG l i hi, wrap_up hi (by omega)]
    · refine Ev.bind (rone_ev _) (ev_pos (by omega) (ev_eq (ih (o ++ one l[i].f0) (by rw [List.length_append]; omega)) ?_))
      rw [List.drop_eq_getElem_cons hi, runesOf_cons, encode_cons, List.append_assoc]
theorem tmod4 {x : Int} (h : 0 ≤ x ∧ x ≤ 255) : Int.tmod x 4 = Go.bits .and .u8 x 3 := by
  have h1 : ∀ n : Nat, n < 256 → Int.tmod (n : Int) 4 = Go.bits .and .u8 (n : Int) 3 := by decide +kernel
  obtain ⟨n, rfl⟩ := Int.eq_ofNat_of_zero_le h.1
  exact h1 n (by omega)
theorem safe_32 : safe 32 = 32 := by decide +kernel
theorem rclean_ev (l : List Gl) (h : l.length ≤ 500) (h8 : ∀ g ∈ l, 0 ≤ g.f1 ∧ g.f1 ≤ 255) : Ev (fun k => flongref03_Clean.f k l) (clean l) := by
  unfold flongref03_Clean.f
  refine ev_eq (loop_up (fun k o i => flongref03_Clean.l0 k l o i) l.length (fun o i => if o = [] then clean (l.drop i) else o ++ (l.drop i).map cleanG) (fun o i => o.length ≤ i) ?_ ?_ [] 0 (by omega) (by simp)) (by simp)
  · intro o _
    refine Ev.step (f := fun _ => some o) (fun k => by simp only [flongref03_Clean.l0]; rw [if_neg (by omega)]) (ev_eq (Ev.now _) ?_)
    rw [List.drop_length]
    split
    · rename_i e
      rw [e]
      rfl
    · simp
  · intro o i hi ho ih
    have h1 : Ev (fun k => flongref03_Clean.l0 k l (o ++ [cleanG l[i]]) ((i + 1 : Nat) : Int)) (o ++ cleanG l[i] :: (l.drop (i + 1)).map cleanG) := by
      refine ev_eq (ih (o ++ [cleanG l[i]]) (by simp; omega)) ?_
      rw [if_neg (by simp), List.append_assoc]
      rfl
    have hst : Int.tmod l[i].f1 4 = Go.bits .and .u8 l[i].f1 3 := tmod4 (h8 l[i] (List.getElem_mem hi))
    have hj : ∀ x : Int, cleanG l[i] = ⟨x, Int.tmod l[i].f1 4⟩ → Ev (fun k => if (o.length : Int) > 0 then (if o.length < 17592186044416 then flongref03_Clean.l0 k l (o ++ [(⟨x, Int.tmod l[i].f1 4⟩ : Gl)]) ((i + 1 : Nat) : Int) else none) else ((flongref02_Width.f k x).bind fun t => if t > 0 then (if o.length < 17592186044416 then flongref03_Clean.l0 k l (o ++ [(⟨x, Int.tmod l[i].f1 4⟩ : Gl)]) ((i + 1 : Nat) : Int) else none) else flongref03_Clean.l0 k l o ((i + 1 : Nat) : Int))) (if o = [] then clean (l.drop i) else o ++ (l.drop i).map cleanG) := by
      intro x hx
      rw [← hx]
      refine ev_ite (fun hc => ev_pos (by omega) (ev_eq h1 ?_)) (fun hc => ?_)
      · rw [if_neg (by intro e; rw [e] at hc; simp at hc), List.drop_eq_getElem_cons hi, List.map_cons]
      · obtain rfl : o = [] := by
          rcases o with _ | ⟨_, _⟩
          · rfl
          · exfalso
            apply hc
            simp only [List.length_cons]
            omega
        rw [if_pos rfl]
        have hw : wid x = wid (cleanG l[i]).f0 := by rw [hx]
        refine Ev.bind (rwidth_ev x) ?_
        rw [hw]
        refine ev_ite (fun hp => ev_pos (by simp) (ev_eq h1 ?_)) (fun hp => ev_eq (ih [] (by simp)) ?_)
        · rw [List.drop_eq_getElem_cons hi, clean, List.map_cons, List.dropWhile_cons, if_neg (by simp [hp])]
          rfl
        · rw [if_pos rfl, List.drop_eq_getElem_cons hi, clean, clean, List.map_cons, List.dropWhile_cons, if_pos (by simp [hp])]
    by_cases hc : l[i].f0 = 160
    · refine Ev.step (f := fun k => if (o.length : Int) > 0 then (if o.length < 17592186044416 then flongref03_Clean.l0 k l (o ++ [(⟨32, Int.tmod l[i].f1 4⟩ : Gl)]) ((i + 1 : Nat) : Int) else none) else ((flongref02_Width.f k 32).bind fun t => if t > 0 then (if o.length < 17592186044416 then flongref03_Clean.l0 k l (o ++ [(⟨32, Int.tmod l[i].f1 4⟩ : Gl)]) ((i + 1 : Nat) : Int) else none) else flongref03_Clean.l0 k l o ((i + 1 : Nat) : Int))) (fun k => ?_) (hj 32 ?_)
      · simp only [flongref03_Clean.l0]
        rw [if_pos (by omega), if_pos (by omega), rdG l i hi, rsafe_eq, Option.bind_some, if_pos hc, wrap_up hi (by omega)]
      · rw [cleanG, if_pos hc, safe_32, hst]
    · refine Ev.step (f := fun k => if (o.length : Int) > 0 then (if o.length < 17592186044416 then flongref03_Clean.l0 k l (o ++ [(⟨safe l[i].f0, Int.tmod l[i].f1 4⟩ : Gl)]) ((i + 1 : Nat) : Int) else none) else ((flongref02_Width.f k (safe l[i].f0)).bind fun t => if t > 0 then (if o.length < 17592186044416 then flongref03_Clean.l0 k l (o ++ [(⟨safe l[i].f0, Int.tmod l[i].f1 4⟩ : Gl)]) ((i + 1 : Nat) : Int) else none) else flongref03_Clean.l0 k l o ((i + 1 : Nat) : Int))) (fun k => ?_) (hj (safe l[i].f0) ?_)
      · simp only [flongref03_Clean.l0]
        rw [if_pos (by omega), if_pos (by omega), rdG l i hi, rsafe_eq, Option.bind_some, if_neg hc, wrap_up hi (by omega)]
      · rw [cleanG, if_neg hc, hst]
theorem rtrim_ev {l : List Gl} {m : Nat} (hm : IsTrim l m) (h : l.length ≤ 500) : Ev (fun k => flongref03_Trim.f k l) (l.take m) := by
  have hle := hm.le
  have hend : (if 0 ≤ (m : Int) then (if (m : Int) ≤ (l.length : Int) then (some (l.take (m : Int).toNat)) else (none)) else (none)) = some (l.take m) := by
    rw [if_pos (by omega), if_pos (by omega), Int.toNat_natCast]
  have key : ∀ d n, n - m = d → m ≤ n → n ≤ l.length → Ev (fun k => flongref03_Trim.l0 k l (n : Int)) (l.take m) := by
    intro d
    induction d with
    | zero =>
      intro n hd h1 h2
      obtain rfl : n = m := by omega
      refine Ev.step (f := fun _ => some (l.take n)) (fun k => ?_) (Ev.now _)
      simp only [flongref03_Trim.l0]
      by_cases hp : 0 < n
      · have hg := hm.last l[n - 1] hp (List.getElem?_eq_getElem (by omega))
        rw [if_pos (by omega), wrap_of (by omega) (by omega), show (n : Int) - 1 = ((n - 1 : Nat) : Int) by omega, if_pos (by omega), if_pos (by omega), rdG l (n - 1) (by omega), if_neg hg, hend]
      · rw [if_neg (by omega), hend]
    | succ d ih =>
      intro n hd h1 h2
      have hg := hm.rest (n - 1) (l[n - 1]'(by omega)) (by omega) (List.getElem?_eq_getElem (by omega))
      refine Ev.step (f := fun k => flongref03_Trim.l0 k l ((n - 1 : Nat) : Int)) (fun k => ?_) (ih (n - 1) (by omega) (by omega) (by omega))
      simp only [flongref03_Trim.l0]
      rw [if_pos (by omega), wrap_of (by omega) (by omega), show (n : Int) - 1 = ((n - 1 : Nat) : Int) by omega, if_pos (by omega), if_pos (by omega), rdG l (n - 1) (by omega), if_pos hg]
  unfold flongref03_Trim.f
  exact key (l.length - m) l.length rfl hle (Nat.le_refl _)
theorem samerows_true (a : List (List Gl)) (h : a.length ≤ 1000) (h2 : ∀ r ∈ a, r.length ≤ 1000) : Ev (fun k => flongref03_SameRows.f k a a) true := by
  unfold flongref03_SameRows.f
  refine ev_pos rfl ?_
  refine loop_up (σ := Unit) (fun k _ i => flongref03_SameRows.l0 k a a i) a.length (fun _ _ => true) (fun _ _ => True) ?_ ?_ () 0 (by omega) trivial
  · intro _ _
    exact Ev.step (f := fun _ => some true) (fun k => by simp only [flongref03_SameRows.l0]; rw [if_neg (by omega)]) (Ev.now _)
  · intro _ i hi _ ih
    refine Ev.step (f := fun k => (flongref03_Same.f k a[i] a[i]).bind fun t => if t = true then flongref03_SameRows.l0 k a a ((i + 1 : Nat) : Int) else some false) (fun k => ?_) ?_
    · simp only [flongref03_SameRows.l0]
      rw [if_pos (by omega), if_pos (by omega), if_pos (by omega), rdL a i hi, wrap_up hi (by omega)]
    · have := h2 a[i] (List.getElem_mem hi)
      exact Ev.bind (gsame_true rfl (by omega)) (ev_pos rfl (ih () trivial))
theorem IsRuns.snoc_new {rows : List (List Gl)} {l : List Gl} {g : Gl} (h : IsRuns rows l) (hne : 0 < rows.length → (hd (rows.getD (rows.length - 1) [])).f1 ≠ g.f1) : IsRuns (rows ++ [[g]]) (l ++ [g]) := by
  refine ⟨by rw [List.flatten_append, h.flat]; simp, ?_, ?_, ?_⟩
  · intro r hr
    rcases List.mem_append.1 hr with hr | hr
    · exact h.pos r hr
    · rw [List.mem_singleton.1 hr]
      simp
  · intro r hr x hx
    rcases List.mem_append.1 hr with hr | hr
    · exact h.same r hr x hx
    · rw [List.mem_singleton.1 hr] at hx ⊢
      rw [List.mem_singleton.1 hx, hd_cons]
  · intro i hi
    rw [List.length_append, List.length_singleton] at hi
    by_cases hl : i + 1 < rows.length
    · rw [List.getElem_append_left hl, List.getElem_append_left (by omega)]
      exact h.alt i hl
    · obtain e : i = rows.length - 1 := by omega
      subst e
      rw [List.getElem_append_right (by omega), List.getElem_append_left (by omega)]
      simp only [List.getElem_singleton, hd_cons]
      have h2 := hne (by omega)
      rw [List.getD_eq_getElem?_getD, List.getElem?_eq_getElem (by omega), Option.getD_some] at h2
      exact fun e => h2 e.symm
theorem hd_snoc {r : List Gl} (g : Gl) (h : 0 < r.length) : hd (r ++ [g]) = hd r := by
  cases r with
  | nil => simp at h
  | cons x t => rw [List.cons_append, hd_cons, hd_cons]
theorem IsRuns.snoc_same {a : List (List Gl)} {r l : List Gl} {g : Gl} (h : IsRuns (a ++ [r]) l) (hg : g.f1 = (hd r).f1) : IsRuns (a ++ [r ++ [g]]) (l ++ [g]) := by
  have hr0 := h.pos r (by simp)
  refine ⟨by rw [← h.flat]; simp, ?_, ?_, ?_⟩
  · intro q hq
    rcases List.mem_append.1 hq with hq | hq
    · exact h.pos q (by simp [hq])
    · rw [List.mem_singleton.1 hq]
      simp
  · intro q hq x hx
    rcases List.mem_append.1 hq with hq | hq
    · exact h.same q (by simp [hq]) x hx
    · rw [List.mem_singleton.1 hq] at hx ⊢
      rw [hd_snoc g hr0]
      rcases List.mem_append.1 hx with hx | hx
      · exact h.same r (by simp) x hx
      · rw [List.mem_singleton.1 hx]
        exact hg
  · intro i hi
    rw [List.length_append, List.length_singleton] at hi
    have h1 := h.alt i (by rw [List.length_append, List.length_singleton]; omega)
    by_cases hl : i + 1 < a.length
    · rw [List.getElem_append_left hl, List.getElem_append_left (by omega)] at h1 ⊢
      exact h1
    · rw [List.getElem_append_right (by omega), List.getElem_append_left (by omega)] at h1 ⊢
      simp only [List.getElem_singleton] at h1 ⊢
      rw [hd_snoc g hr0]
      exact h1
theorem last_of_runs {a : List (List Gl)} {r l : List Gl} {i : Nat} (h : IsRuns (a ++ [r]) (l.take i)) (h0 : 0 < i) (hi : i ≤ l.length) : (l[i - 1]'(by omega)).f1 = (hd r).f1 := by
  have hr0 := h.pos r (by simp)
  have e : a.flatten ++ r = l.take i := by rw [← h.flat]; simp
  have hlen := congrArg List.length e
  rw [List.length_append, List.length_take] at hlen
  have h1 : (l.take i)[i - 1]? = some (l[i - 1]'(by omega)) := by
    rw [List.getElem?_take_of_lt (by omega), List.getElem?_eq_getElem (by omega)]
  rw [← e, List.getElem?_append_right (by omega)] at h1
  exact h.same r (by simp) _ (List.mem_of_getElem? h1)
theorem rruns_ev (l : List Gl) (h : l.length ≤ 500) : Ev (fun k => flongref03_Runs.f k l) (runs l) := by
  unfold flongref03_Runs.f
  have hlen : ∀ (rows : List (List Gl)) (l' : List Gl), IsRuns rows l' → rows.length ≤ l'.length ∧ ∀ r ∈ rows, r.length ≤ l'.length := by
    intro rows l' hr
    constructor
    · have h1 : ∀ rs : List (List Gl), (∀ r ∈ rs, 0 < r.length) → rs.length ≤ rs.flatten.length := by
        intro rs
        induction rs with
        | nil => simp
        | cons r rs ih =>
          intro h
          have h2 := ih (fun x hx => h x (by simp [hx]))
          have h3 := h r (by simp)
          simp only [List.flatten_cons, List.length_cons, List.length_append]
          omega
      have := h1 rows hr.pos
      rwa [hr.flat] at this
    · intro r hm
      rw [← hr.flat]
      exact (List.sublist_flatten_of_mem hm).length_le
  refine loop_up (fun k o i => flongref03_Runs.l0 k l o i) l.length (fun _ _ => runs l) (fun o i => IsRuns o (l.take i)) ?_ ?_ [] 0 (by omega) ?_
  · intro o ho
    rw [List.take_length] at ho
    exact Ev.step (f := fun _ => some o) (fun k => by simp only [flongref03_Runs.l0]; rw [if_neg (by omega)]) (ev_eq (Ev.now _) (runs_unique o (runs l) l ho (runs_IsRuns l)))
  · intro o i hi ho ih
    obtain ⟨hl1, hl2⟩ := hlen o _ ho
    rw [List.length_take] at hl1
    have htake : l.take (i + 1) = l.take i ++ [l[i]] := List.take_succ_eq_append_getElem hi
    have hg : (⟨l[i].f0, l[i].f1⟩ : Gl) = l[i] := rfl
    have hset : (o ++ [([] : List Gl)]).set o.length ([] ++ [l[i]]) = o ++ [[l[i]]] := by simp
    have hnew : (0 < o.length → (hd (o.getD (o.length - 1) [])).f1 ≠ l[i].f1) → Ev (fun k => flongref03_Runs.l0 k l ((o ++ [([] : List Gl)]).set o.length ([] ++ [l[i]])) ((i + 1 : Nat) : Int)) (runs l) := by
      intro hne
      rw [hset]
      exact ih (o ++ [[l[i]]]) (by rw [htake]; exact ho.snoc_new hne)
    have hy : ((o ++ [([] : List Gl)]).length : Int) - 1 = (o.length : Int) := by rw [List.length_append, List.length_singleton]; omega
    have hrdy : rd_L6 (o ++ [([] : List Gl)]) (o.length : Int) = [] := by
      rw [rdL _ _ (by rw [List.length_append, List.length_singleton]; omega)]
      simp
    have hyl : (o ++ [([] : List Gl)]).length = o.length + 1 := by rw [List.length_append, List.length_singleton]
    by_cases h0 : i = 0
    · subst h0
      have e : o = [] := by
        rw [List.take_zero] at ho
        cases o with
        | nil => rfl
        | cons r rs =>
          exfalso
          have := ho.pos r (by simp)
          have e := ho.flat
          simp at e
          rw [e.1] at this
          simp at this
      refine Ev.step (f := fun k => flongref03_Runs.l0 k l ((o ++ [([] : List Gl)]).set o.length ([] ++ [l[0]])) ((0 + 1 : Nat) : Int)) (fun k => ?_) (hnew (fun h0 => by rw [e] at h0; simp at h0))
      simp only [flongref03_Runs.l0]
      rw [if_pos (by omega), if_pos (by omega), if_pos (by omega), Option.bind_some, hy, wrap_of (by omega) (by omega), if_pos (by omega), if_pos (by rw [hyl]; omega), if_pos (by omega), hrdy, if_pos (by simp), rdG l 0 hi, wrap_up hi (by omega), Int.toNat_natCast]
    · obtain rfl | ⟨a, r, rfl⟩ := List.eq_nil_or_concat o
      · exfalso
        have e := congrArg List.length ho.flat
        rw [List.length_take] at e
        simp at e
        omega
      · rw [List.concat_eq_append] at *
        have hlast := last_of_runs ho (by omega) (by omega)
        have hlr := hl2 r (by simp)
        rw [List.length_take] at hlr
        have hal : (a ++ [r]).length = a.length + 1 := by rw [List.length_append, List.length_singleton]
        have hrda : rd_L6 (a ++ [r]) (a.length : Int) = r := by
          rw [rdL _ _ (by rw [hal]; omega)]
          simp
        have hm1 : ((a ++ [r]).length : Int) - 1 = (a.length : Int) := by rw [hal]; omega
        by_cases hs : l[i].f1 = (l[i - 1]'(by omega)).f1
        · refine Ev.step (f := fun k => flongref03_Runs.l0 k l ((a ++ [r]).set a.length (r ++ [l[i]])) ((i + 1 : Nat) : Int)) (fun k => ?_) ?_
          · simp only [flongref03_Runs.l0]
            rw [if_pos (by omega), if_neg (by omega), if_pos (by omega), wrap_of (x := (i : Int) - 1) (by omega) (by omega), show (i : Int) - 1 = ((i - 1 : Nat) : Int) by omega, if_pos (by omega), if_pos (by omega), rdG l i hi, rdG l (i - 1) (by omega), if_pos hs, hm1, wrap_of (x := (a.length : Int)) (by omega) (by omega), if_pos (by omega), if_pos (by rw [hal]; omega), hrda, if_pos (by omega), wrap_up hi (by omega), Int.toNat_natCast]
          · rw [show (a ++ [r]).set a.length (r ++ [l[i]]) = a ++ [r ++ [l[i]]] by simp]
            exact ih _ (by rw [htake]; exact ho.snoc_same (by rw [hs, hlast]))
        · refine Ev.step (f := fun k => flongref03_Runs.l0 k l (((a ++ [r]) ++ [([] : List Gl)]).set (a ++ [r]).length ([] ++ [l[i]])) ((i + 1 : Nat) : Int)) (fun k => ?_) (hnew (fun h0 => ?_))
          · simp only [flongref03_Runs.l0]
            rw [if_pos (by omega), if_neg (by omega), if_pos (by omega), wrap_of (x := (i : Int) - 1) (by omega) (by omega), show (i : Int) - 1 = ((i - 1 : Nat) : Int) by omega, if_pos (by omega), if_pos (by omega), rdG l i hi, rdG l (i - 1) (by omega), if_neg hs, if_pos (by omega), Option.bind_some, hy, wrap_of (x := ((a ++ [r]).length : Int)) (by omega) (by omega), if_pos (by omega), if_pos (by rw [hyl]; omega), hrdy, if_pos (by simp), wrap_up hi (by omega), Int.toNat_natCast]
          · rw [show (a ++ [r]).getD ((a ++ [r]).length - 1) [] = r by simp, ← hlast]
            exact fun e => hs e.symm
  · exact ⟨rfl, by simp, by simp, fun i hi => by simp at hi⟩
theorem CellsRows : flonglaw03_CellsRows.PureSaid := by
  intro l _ hf
  refine Ev.rounds (g := fun k => flonglaw03_CellsRows.f k l) ?_
  unfold flonglaw03_CellsRows.f
  refine ev_ite (fun _ => Ev.bind known_ev (Ev.now _)) (fun h => ?_)
  have h8 : ∀ g ∈ l, 0 ≤ g.f1 ∧ g.f1 ≤ 255 := fun g hg => wf_u8 (hf g hg).2
  have hrl := runs_length l.length l (Nat.le_refl _)
  have hrr : ∀ r ∈ runs l, r.length ≤ 1000 := by
    intro r hr
    have h1 := (List.sublist_flatten_of_mem hr).length_le
    rw [(runs_IsRuns l).flat] at h1
    omega
  have hcl : (clean l).length ≤ l.length := by
    have := (List.dropWhile_sublist (fun g : Gl => !decide (wid g.f0 > 0)) (l := l.map cleanG)).length_le
    simpa [clean] using this
  obtain ⟨m, hm⟩ := exists_trim l
  have hmle := hm.le
  refine Ev.bind (width_ev l (by omega)) (Ev.bind (rgwidth_ev l (by omega)) (ev_pos rfl (Ev.bind (text_ev l (by omega)) (Ev.bind (rgtext_ev l (by omega)) (ev_pos rfl (ev_bind1 (a := runs l) (by unfold cells_Runs.f; rw [if_pos (by omega)]) (Ev.bind (rruns_ev l (by omega)) (Ev.bind (samerows_true (runs l) (by omega) hrr) (ev_pos rfl ?_)))))))))
  refine Ev.bind (clean_ev l (by omega)) (Ev.bind (rclean_ev l (by omega) h8) (Ev.bind (gsame_true rfl (by omega)) (ev_pos rfl (Ev.bind (trim_ev hm (by omega)) (Ev.bind (rtrim_ev hm (by omega)) (Ev.bind (gsame_true rfl (by rw [List.length_take]; omega)) (ev_pos rfl (Ev.bind known_ev (Ev.now _)))))))))
end Go.Proofs.YtdcbaefcgghbmaaDoor.Pure
