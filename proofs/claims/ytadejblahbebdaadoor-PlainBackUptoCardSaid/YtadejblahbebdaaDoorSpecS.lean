/- SpecS: several of this session's texts in one. -/
import Derived.Test.YtadejblahbebdaaDoorSpecA
import Derived.Test.YtadejblahbebdaaDoorX2
import Derived.Test.YtadejblahbebdaaDoorX3
import Derived.Test.YtadejblahbebdaaDoorSpecR
/- Lines laid flat, made normal, and as bytes: package plain's and the reference's. -/
namespace Go.Proofs.YtadejblahbebdaaDoor.Pure
open Go.RowKit Go.Proofs.YtadejblahbebdaaDoorW.PrintWords Go.Proofs.YtadejblahbebdaaDoorW.PrintLast Go.Proofs.YtadejblahbebdaaDoorW.PrintMore Go.Proofs.YtadejblahbebdaaDoor.X Go.Proofs.YtadejblahbebdaaDoor.Hand
set_option linter.unusedSimpArgs false
set_option linter.unusedVariables false
abbrev Ln := S49
theorem rdN (l : List Ln) (i : Nat) (h : i < l.length) : rd_T49 l (i : Int) = l[i] := by
 simp [rd_T49, List.getD_eq_getElem?_getD, List.getElem?_eq_getElem h]
/-- A line, flat. -/
def flat (x : Ln) : List Gl := if x.f1.length = 0 then [] else List.replicate (max 0 (min x.f0 65535)).toNat sp ++ x.f1
/-- What the chapter's laws look at. -/
def Small (x : Ln) : Prop := x.f0 ≤ 2000 ∧ x.f1.length ≤ 1000 ∧ ∀ g ∈ x.f1, 0 ≤ g.f1 ∧ g.f1 ≤ 255
theorem flat_length {x : Ln} (h : Small x) : (flat x).length ≤ 3000 := by
 obtain ⟨h0, h1, _⟩ := h
 unfold flat
 split
 ·simp
 ·rw [List.length_append, List.length_replicate]
  omega
theorem flat_set {x : Ln} (h : Small x) : ∀ g ∈ flat x, 0 ≤ g.f1 ∧ g.f1 ≤ 255 := by
 intro g hg
 unfold flat at hg
 split at hg
 ·simp at hg
 ·rcases List.mem_append.1 hg with hg | hg
  ·rw [(List.mem_replicate.1 hg).2]
   decide
  ·exact h.2.2 g hg
theorem flat_eq {x : Ln} (h : x.f1.length ≤ 1000000) : layout_Flat.f x.f0 x.f1 x.f2 = some (flat x) := by
 unfold layout_Flat.f flat
 by_cases h0 : x.f1.length = 0
 ·rw [if_pos (by omega), if_pos h0]
 ·rw [if_neg (by omega), if_neg h0, blank_eq, Option.bind_some, if_pos (by rw [List.length_replicate]; omega)]
/-- A row, normal. -/
noncomputable def nrm (l : List Gl) : List Gl := normGo none ((clean l).take (exists_trim (clean l)).choose)
theorem nrm_length (l : List Gl) : (nrm l).length ≤ l.length := by
 have := clean_length l
 unfold nrm
 rw [normGo_length, List.length_take]
 omega
noncomputable def prows (l : List Ln) : List (List Gl) := l.map (fun x => nrm (flat x))
theorem prows_length (l : List Ln) : (prows l).length = l.length := by simp [prows]
theorem prows_small {l : List Ln} (h : ∀ x ∈ l, Small x) : ∀ r ∈ prows l, r.length ≤ 3000 := by
 intro r hr
 obtain ⟨x, hx, rfl⟩ := List.mem_map.1 hr
 exact Nat.le_trans (nrm_length _) (flat_length (h x hx))
theorem prows_drop (l : List Ln) (i : Nat) (h : i < l.length) : prows (l.drop i) = nrm (flat l[i]) :: prows (l.drop (i + 1)) := by
 unfold prows
 rw [List.drop_eq_getElem_cons h, List.map_cons]
theorem rows_ev {l : List Ln} (hl : l.length ≤ 1000) (h : ∀ x ∈ l, Small x) : Ev (fun k => plain_Rows.f k l) (prows l) := by
 unfold plain_Rows.f
 refine ev_eq (loop_up (fun k o i => plain_Rows.l0 k o l (l.length : Int) i) l.length (fun o i => o ++ prows (l.drop i)) (fun o i => o.length ≤ i) ?_ ?_ [] 0 (by omega) (by simp)) (by simp)
 ·intro o _
  exact Ev.step (f := fun _ => some o) (fun k => by simp only [plain_Rows.l0]; rw [if_neg (by omega)]) (ev_eq (Ev.now _) (by simp [prows]))
 ·intro o i hi ho ih
  have hs := h l[i] (List.getElem_mem hi)
  have hf := flat_length hs
  refine Ev.step (f := fun k => (plain_Normal.f k (flat l[i])).bind fun t => if o.length < 5864062014805 then plain_Rows.l0 k (o ++ [t]) l (l.length : Int) ((i + 1 : Nat) : Int) else none) (fun k => ?_) ?_
  ·simp only [plain_Rows.l0]
   rw [if_pos (by omega), if_pos (by omega), if_pos (by omega), rdN l i hi, flat_eq (by have := hs.2.1; omega), Option.bind_some, wrap_up hi (by omega)]
  ·refine Ev.bind (normal_ev _ (exists_trim (clean (flat l[i]))).choose_spec (by omega)) (ev_pos (by omega) (ev_eq (ih _ (by simp; omega)) ?_))
   rw [prows_drop l i hi, List.append_assoc]
   rfl
/-- Rows as bytes. -/
def lineBytes (r : List Gl) : List Int := encode (runesOf r) ++ [10]
def rowBytes (rs : List (List Gl)) : List Int := (rs.map lineBytes).flatten
theorem rowBytes_drop (rs : List (List Gl)) (i : Nat) (h : i < rs.length) : rowBytes (rs.drop i) = lineBytes rs[i] ++ rowBytes (rs.drop (i + 1)) := by
 unfold rowBytes
 rw [List.drop_eq_getElem_cons h, List.map_cons, List.flatten_cons]
theorem lineBytes_length (r : List Gl) : (lineBytes r).length ≤ 4 * r.length + 1 := by
 have := encode_length (runesOf r)
 rw [runesOf_length] at this
 unfold lineBytes
 rw [List.length_append]
 simp
 omega
theorem lineBytes_Bytes (r : List Gl) : Bytes (lineBytes r) := by
 intro x hx
 rcases List.mem_append.1 hx with h | h
 ·exact encode_bytes _ x h
 ·rw [List.mem_singleton.1 h]
  decide
theorem rowBytes_Bytes (rs : List (List Gl)) : Bytes (rowBytes rs) := by
 intro x hx
 obtain ⟨y, hy, hxy⟩ := List.mem_flatten.1 hx
 obtain ⟨r, _, rfl⟩ := List.mem_map.1 hy
 exact lineBytes_Bytes r x hxy
theorem write_ev {l : List Ln} (hl : l.length ≤ 1000) (h : ∀ x ∈ l, Small x) : Ev (fun k => plain_Write.f k l) (rowBytes (prows l)) := by
 unfold plain_Write.f
 refine Ev.bind (rows_ev hl h) ?_
 have hn := prows_length l
 have hsm := prows_small h
 revert hn hsm
 generalize prows l = rs
 intro hn hsm
 refine ev_eq (loop_up (fun k o i => plain_Write.l0 k o rs (rs.length : Int) i) rs.length (fun o i => o ++ rowBytes (rs.drop i)) (fun o i => o.length ≤ 12001 * i) ?_ ?_ [] 0 (by omega) (by simp)) (by simp)
 ·intro o _
  exact Ev.step (f := fun _ => some o) (fun k => by simp only [plain_Write.l0]; rw [if_neg (by omega)]) (ev_eq (Ev.now _) (by simp [rowBytes]))
 ·intro o i hi ho ih
  have hr := hsm rs[i] (List.getElem_mem hi)
  have he := encode_length (runesOf rs[i])
  rw [runesOf_length] at he
  refine Ev.step (f := fun k => (cells_Text.f k rs[i]).bind fun t197 => (if o.length + t197.size < 140737488355328 then ((some (o ++ bytesOf t197 : List Int)).bind fun y198 => (if y198.length < 140737488355328 then (plain_Write.l0 k (y198 ++ [10]) rs (rs.length : Int) ((i + 1 : Nat) : Int)) else (none))) else (none))) (fun k => ?_) ?_
  ·simp only [plain_Write.l0]
   rw [if_pos (by omega), if_pos (by omega), if_pos (by omega), rdL rs i hi, wrap_up hi (by omega)]
  ·refine Ev.bind (text_ev _ (by omega)) (ev_pos (by rw [numsStr_size]; omega) ?_)
   rw [numsStr_back (encode_bytes _)]
   refine ev_bind1 rfl (ev_pos (by rw [List.length_append]; omega) (ev_eq (ih _ (by simp only [List.length_append, List.length_singleton]; omega)) ?_))
   rw [rowBytes_drop rs i hi, lineBytes]
   simp
/-- Is it more than is looked at? -/
def longB : List Ln → Int → Bool
 | [], n => decide (n > 400)
 | x :: t, n => if x.f0 > 2000 then true else longB t (n + 1 + (x.f1.length : Int))
def lsum (l : List Ln) : Nat := (l.map (fun x => x.f1.length + 1)).sum
theorem lsum_cons (x : Ln) (t : List Ln) : lsum (x :: t) = x.f1.length + 1 + lsum t := by simp [lsum]
theorem lsum_length : ∀ l : List Ln, l.length ≤ lsum l
 | [] => Nat.zero_le _
 | x :: t => by
  have := lsum_length t
  rw [lsum_cons, List.length_cons]
  omega
theorem longB_false : ∀ (l : List Ln) (n : Int), 0 ≤ n → longB l n = false → n + lsum l ≤ 400 ∧ ∀ x ∈ l, x.f0 ≤ 2000 ∧ x.f1.length ≤ 400
 | [], n, h0, h => by
  simp [longB] at h
  simp [lsum]
  omega
 | x :: t, n, h0, h => by
  rw [longB] at h
  split at h
  ·cases h
  ·obtain ⟨h1, h2⟩ := longB_false t _ (by omega) h
   rw [lsum_cons]
   refine ⟨by omega, fun y hy => ?_⟩
   rcases List.mem_cons.1 hy with rfl | hy
   ·omega
   ·exact h2 y hy
theorem long_ev {l : List Ln} (h : lsum l ≤ 1048576) : Ev (fun k => flongref17_Long.f k l) (longB l 0) := by
 have hll := lsum_length l
 unfold flongref17_Long.f
 refine ev_eq (loop_up (fun k n i => flongref17_Long.l0 k l n i) l.length (fun n i => longB (l.drop i) n) (fun n i => 0 ≤ n ∧ n + lsum (l.drop i) ≤ 1048576) ?_ ?_ 0 0 (by omega) (by simp; omega)) (by simp)
 ·intro n _
  exact Ev.step (f := fun _ => some (decide (n > 400))) (fun k => by simp only [flongref17_Long.l0]; rw [if_neg (by omega)]) (ev_eq (Ev.now _) (by rw [List.drop_length]; rfl))
 ·intro n i hi hn ih
  rw [List.drop_eq_getElem_cons hi, lsum_cons] at hn
  rw [List.drop_eq_getElem_cons hi, longB]
  refine Ev.step (f := fun k => if l[i].f0 > 2000 then some true else flongref17_Long.l0 k l (n + 1 + (l[i].f1.length : Int)) ((i + 1 : Nat) : Int)) (fun k => ?_) ?_
  ·simp only [flongref17_Long.l0]
   rw [if_pos (by omega), if_pos (by omega), rdN l i hi, wrap_up hi (by omega), wrap_of (x := n + 1) (by omega) (by omega), wrap_of (x := n + 1 + _) (by omega) (by omega)]
  ·refine ev_ite (fun h => ev_eq (Ev.now _) (by rw [if_pos h])) (fun h => ?_)
   rw [if_neg h]
   exact ih _ ⟨by omega, by omega⟩
end Go.Proofs.YtadejblahbebdaaDoor.Pure

/- Rows that are normal, as bytes: these may be, and read they are the rows, erased. -/
namespace Go.Proofs.YtadejblahbebdaaDoor.Pure
open Go Go.RowKit Go.Proofs.YtadejblahbebdaaDoorW.PrintWords Go.Proofs.YtadejblahbebdaaDoorW.PrintLast Go.Proofs.YtadejblahbebdaaDoorW.PrintMore Go.Proofs.YtadejblahbebdaaDoor.X Go.Proofs.YtadejblahbebdaaDoor.Hand
set_option linter.unusedSimpArgs false
set_option linter.unusedVariables false
/-- A row of runes that may be shown. -/
def GoodR (r : List Gl) : Prop := ∀ g ∈ r, validB g.f0 = true ∧ controlB g.f0 = false
theorem nrm_good (l : List Gl) : GoodR (nrm l) := by
 intro g hg
 unfold nrm at hg
 have h1 : g.f0 ∈ (normGo none ((clean l).take (exists_trim (clean l)).choose)).map (·.f0) := List.mem_map_of_mem hg
 rw [normGo_runes] at h1
 obtain ⟨y, hy, e⟩ := List.mem_map.1 h1
 have h2 := List.mem_of_mem_take hy
 have h3 := (List.dropWhile_sublist _).subset h2
 obtain ⟨z, _, rfl⟩ := List.mem_map.1 h3
 rw [← e]
 exact ⟨safe_valid _, safe_control _⟩
def allRunes (rs : List (List Gl)) : List Int := rs.flatMap (fun r => runesOf r ++ [10])
theorem lineBytes_eq (r : List Gl) : lineBytes r = encode (runesOf r ++ [10]) := by
 unfold lineBytes
 rw [encode_append]
 rfl
theorem rowBytes_eq : ∀ rs : List (List Gl), rowBytes rs = encode (allRunes rs)
 | [] => rfl
 | r :: t => by
  have ih := rowBytes_eq t
  unfold rowBytes allRunes at ih ⊢
  rw [List.map_cons, List.flatten_cons, List.flatMap_cons, encode_append, ← ih, lineBytes_eq]
theorem rowBytes_append (a b : List (List Gl)) : rowBytes (a ++ b) = rowBytes a ++ rowBytes b := by simp [rowBytes]
theorem rowBytes_cons (r : List Gl) (t : List (List Gl)) : rowBytes (r :: t) = lineBytes r ++ rowBytes t := by simp [rowBytes]
theorem rowBytes_length {rs : List (List Gl)} (h : ∀ r ∈ rs, r.length ≤ 3000) : (rowBytes rs).length ≤ 12001 * rs.length := by
 induction rs with
 | nil => simp [rowBytes]
 | cons r t ih =>
  have h1 := lineBytes_length r
  have h2 := h r (by simp)
  have h3 := ih (fun x hx => h x (by simp [hx]))
  rw [rowBytes_cons, List.length_append, List.length_cons]
  omega
theorem allRunes_good {rs : List (List Gl)} (h : ∀ r ∈ rs, GoodR r) : ∀ x ∈ allRunes rs, validB x = true ∧ badR x = false := by
 intro x hx
 obtain ⟨r, hr, hx⟩ := List.mem_flatMap.1 hx
 rcases List.mem_append.1 hx with hx | hx
 ·obtain ⟨g, hg, rfl⟩ := List.mem_map.1 hx
  have := h r hr g hg
  exact ⟨this.1, by simp [badR, this.2]⟩
 ·rw [List.mem_singleton.1 hx]
  decide +kernel
theorem rowBytes_safe {rs : List (List Gl)} (h : ∀ r ∈ rs, GoodR r) : safeB (rowBytes rs) = true := by
 have hg := allRunes_good h
 unfold safeB
 rw [rowBytes_eq, decode_encode' (fun r hr => (hg r hr).1), decide_eq_true rfl, Bool.true_and, Bool.not_eq_true', List.any_eq_false]
 intro x hx
 rw [(hg x hx).2]
 simp
theorem rowBytes_last : ∀ rs : List (List Gl), rowBytes rs = [] ∨ (rowBytes rs).getLast? = some 10
 | [] => .inl rfl
 | r :: t => by
  right
  rw [rowBytes_cons, List.getLast?_append]
  rcases rowBytes_last t with h | h
  ·rw [h]
   simp [lineBytes]
  ·rw [h]
   rfl
theorem shown_byte {r : Int} (hv : validB r = true) (hc : controlB r = false) : ∀ x ∈ one r, 32 ≤ x ∧ x ≠ 127 := by
 intro x hx
 rw [one_valid hv] at hx
 have h1 := (validB_iff r).1 hv
 have h2 : ¬ controlB r = true := by rw [hc]; simp
 rw [controlB_iff] at h2
 unfold enc at hx
 split at hx
 ·rw [List.mem_singleton.1 hx]
  omega
 ·split at hx
  ·simp only [List.mem_cons, List.not_mem_nil, or_false] at hx
   omega
  ·split at hx
   ·simp only [List.mem_cons, List.not_mem_nil, or_false] at hx
    omega
   ·simp only [List.mem_cons, List.not_mem_nil, or_false] at hx
    omega
theorem good_bytes {r : List Gl} (h : GoodR r) : ∀ x ∈ encode (runesOf r), 32 ≤ x ∧ x ≠ 127 := by
 intro x hx
 obtain ⟨y, hy, hx⟩ := List.mem_flatMap.1 hx
 obtain ⟨g, hg, rfl⟩ := List.mem_map.1 hy
 exact shown_byte (h g hg).1 (h g hg).2 x hx
theorem cutC_line : ∀ (y cur t : List Int), (10 : Int) ∉ y → cutC cur (y ++ 10 :: t) = (cur ++ y) :: cutC [] t
 | [], cur, t, _ => by simp [cutC]
 | x :: y, cur, t, h => by
  simp only [List.mem_cons, not_or] at h
  rw [List.cons_append, cutC, if_neg (fun e => h.1 e.symm), cutC_line y _ t h.2, List.append_assoc]
  rfl
theorem cutC_rows : ∀ rs : List (List Gl), (∀ r ∈ rs, GoodR r) → cutC [] (rowBytes rs) = rs.map (fun r => encode (runesOf r))
 | [], _ => rfl
 | r :: t, h => by
  have h1 : (10 : Int) ∉ encode (runesOf r) := fun hx => by have := good_bytes (h r (by simp)) 10 hx; omega
  rw [rowBytes_cons, lineBytes, List.append_assoc, List.singleton_append, cutC_line _ _ _ h1, List.map_cons, cutC_rows t (fun x hx => h x (by simp [hx]))]
  rfl
theorem lns_rows {rs : List (List Gl)} (h : ∀ r ∈ rs, GoodR r) : lns (rowBytes rs) = rs.map erase := by
 unfold lns
 rw [cutC_rows rs h, List.map_map]
 refine List.map_congr_left fun r hr => ?_
 show ofL (encode (runesOf r)) = erase r
 unfold ofL
 rw [decode_encode' (fun x hx => by obtain ⟨g, hg, rfl⟩ := List.mem_map.1 hx; exact (h r hr g hg).1)]
 unfold ofRunes runesOf erase
 rw [List.map_map]
 rfl
theorem readV_rows {rs : List (List Gl)} (h : ∀ r ∈ rs, GoodR r) : readV (rowBytes rs) = (rs.map erase, 0) := by
 unfold readV
 rw [if_pos ⟨rowBytes_safe h, rowBytes_last rs⟩, lns_rows h]
/-- How many line feeds. -/
def lfs (b : List Int) : Nat := b.countP (fun x => decide (x = 10))
theorem lfs_rows : ∀ rs : List (List Gl), (∀ r ∈ rs, GoodR r) → lfs (rowBytes rs) = rs.length
 | [], _ => rfl
 | r :: t, h => by
  have h1 : lfs (encode (runesOf r)) = 0 := by
   unfold lfs
   rw [List.countP_eq_zero]
   intro x hx
   have := good_bytes (h r (by simp)) x hx
   simp
   omega
  have ih := lfs_rows t (fun x hx => h x (by simp [hx]))
  unfold lfs at h1 ih ⊢
  rw [rowBytes_cons, lineBytes, List.append_assoc, List.countP_append, List.countP_append, h1, ih, List.length_cons]
  simp
  omega
theorem rowBytes_each {rs : List (List Gl)} (h : ∀ r ∈ rs, GoodR r) : ∀ x ∈ rowBytes rs, x = 10 ∨ (32 ≤ x ∧ x ≠ 127) := by
 intro x hx
 obtain ⟨y, hy, hx⟩ := List.mem_flatten.1 hx
 obtain ⟨r, hr, rfl⟩ := List.mem_map.1 hy
 rcases List.mem_append.1 hx with h1 | h1
 ·exact .inr (good_bytes (h r hr) x h1)
 ·exact .inl (List.mem_singleton.1 h1)
theorem prows_good (l : List Ln) : ∀ r ∈ prows l, GoodR r := by
 intro r hr
 obtain ⟨x, _, rfl⟩ := List.mem_map.1 hr
 exact nrm_good _
theorem prows_append (a b : List Ln) : prows (a ++ b) = prows a ++ prows b := by simp [prows]
end Go.Proofs.YtadejblahbebdaaDoor.Pure
