/- SpecC: several of this session's texts in one. -/
import Derived.Test.YtdjepocklmlnbaaDoorSpecA
import Derived.Test.YtdjepocklmlnbaaDoorHandW
import Derived.Test.YtdjepocklmlnbaaDoorX6
import Derived.Test.YtdjepocklmlnbaaDoorX8
import Derived.Test.YtdjepocklmlnbaaDoorX10
import Derived.Test.YtdjepocklmlnbaaDoorX3
/- A sign wherever the setting changes is a sign ahead of each run and one behind it. -/
namespace Go.Proofs.YtdjepocklmlnbaaDoor.Pure
open Go Go.RowKit Go.Proofs.YtdjepocklmlnbaaDoorW.PrintWords Go.Proofs.YtdjepocklmlnbaaDoorW.PrintLast Go.Proofs.YtdjepocklmlnbaaDoorW.PrintMore Go.Proofs.YtdjepocklmlnbaaDoor.X Go.Proofs.YtdjepocklmlnbaaDoor.Hand
set_option linter.unusedSimpArgs false
set_option linter.unusedVariables false
/-- A sign's bytes. -/
def sgL (s : Int) : List Int := bytesOf (signS (s % 4).toNat)
/-- The document's way: glyph by glyph, was: how the last one is set. -/
def refGo : List Gl → Int → List Int
  | [], was => if was = 0 then [] else sgL 0
  | g :: t, was => (if g.f1 = was then [] else (if was = 0 then [] else sgL 0) ++ (if g.f1 = 0 then [] else sgL g.f1)) ++ (encode [g.f0] ++ refGo t g.f1)
/-- The package's way: run by run. -/
def runB (y : List Gl) : List Int := if (hd y).f1 = 0 then encode (y.map (·.f0)) else (sgL (hd y).f1 ++ encode (y.map (·.f0))) ++ sgL 0
def outB (rs : List (List Gl)) : List Int := (rs.map runB).flatten
theorem go_same : ∀ (y t : List Gl) (s : Int), (∀ g ∈ y, g.f1 = s) → refGo (y ++ t) s = encode (y.map (·.f0)) ++ refGo t s
  | [], t, s, _ => by simp [encode_nil]
  | g :: y, t, s, h => by
    have hg := h g (by simp)
    rw [List.cons_append, refGo, if_pos hg, hg, go_same y t s (fun x hx => h x (by simp [hx])), List.nil_append, List.map_cons, encode_cons, encode_cons, encode_nil, List.append_nil, List.append_assoc]
theorem go_next (t : List Gl) (s : Int) (h : t = [] ∨ (hd t).f1 ≠ s) : refGo t s = (if s = 0 then [] else sgL 0) ++ refGo t 0 := by
  cases t with
  | nil => simp [refGo]
  | cons g t =>
    have hs : g.f1 ≠ s := by
      rcases h with h | h
      · cases h
      · rwa [hd_cons] at h
    rw [refGo, if_neg hs, refGo]
    by_cases h0 : g.f1 = 0
    · rw [if_pos h0, if_pos h0, List.append_nil, List.nil_append]
    · rw [if_neg h0, if_neg h0, if_pos rfl, List.nil_append, List.append_assoc]
theorem outB_eq : ∀ (rs : List (List Gl)) (l : List Gl), IsRuns rs l → outB rs = refGo l 0
  | [], l, h => by
    have := h.flat
    rw [← this]
    rfl
  | y :: rs, l, h => by
    have hf := h.flat
    rw [List.flatten_cons] at hf
    have hp := h.pos y (by simp)
    have hsame := h.same y (by simp)
    have ih := outB_eq rs rs.flatten h.tail
    have hnext : rs.flatten = [] ∨ (hd rs.flatten).f1 ≠ (hd y).f1 := by
      cases rs with
      | nil => exact .inl rfl
      | cons y2 rs =>
        right
        have ha := h.alt 0 (by simp)
        have hp2 := h.pos y2 (by simp)
        simp only [List.getElem_cons_succ, List.getElem_cons_zero] at ha
        have e : hd (y2 :: rs).flatten = hd y2 := by
          cases y2 with
          | nil => simp at hp2
          | cons g t => rw [List.flatten_cons, List.cons_append, hd_cons, hd_cons]
        rwa [e]
    have e1 : outB (y :: rs) = runB y ++ outB rs := by simp [outB]
    rw [e1, ih, ← hf]
    obtain ⟨g, t, rfl⟩ : ∃ g t, y = g :: t := by
      cases y with
      | nil => simp at hp
      | cons g t => exact ⟨g, t, rfl⟩
    rw [hd_cons] at hsame hnext
    rw [List.cons_append, refGo, go_same t rs.flatten g.f1 (fun x hx => hsame x (by simp [hx])), go_next rs.flatten g.f1 hnext]
    unfold runB
    rw [hd_cons, List.map_cons, encode_cons, encode_cons, encode_nil, List.append_nil]
    by_cases h0 : g.f1 = 0
    · rw [if_pos h0, if_pos h0, if_pos h0, List.nil_append, List.nil_append, List.append_assoc]
    · rw [if_neg h0, if_neg h0, if_neg h0, if_neg h0, if_pos rfl, List.nil_append]
      simp only [List.append_assoc]
end Go.Proofs.YtdjepocklmlnbaaDoor.Pure

/- Rows, and lines, with signs: the package's and the reference's. -/
namespace Go.Proofs.YtdjepocklmlnbaaDoor.Pure
open Go Go.RowKit Go.Proofs.YtdjepocklmlnbaaDoorW.PrintWords Go.Proofs.YtdjepocklmlnbaaDoorW.PrintLast Go.Proofs.YtdjepocklmlnbaaDoorW.PrintMore Go.Proofs.YtdjepocklmlnbaaDoor.X Go.Proofs.YtdjepocklmlnbaaDoor.Hand
set_option linter.unusedSimpArgs false
set_option linter.unusedVariables false
theorem sign_size (i : Nat) : (signS i).size ≤ 6 := by
  match i with
  | 0 | 1 | 2 => decide
  | _ + 3 => show (⟨#[27, 91, 49, 59, 52, 109]⟩ : ByteArray).size ≤ 6; decide
theorem sgL_length (s : Int) : (sgL s).length ≤ 6 := by
  unfold sgL
  rw [bytesOf_length]
  exact sign_size _
theorem signS_str (i : Nat) : signS i = strOfNums (bytesOf (signS i)) := by
  match i with
  | 0 | 1 | 2 => decide +kernel
  | _ + 3 => show (⟨#[27, 91, 49, 59, 52, 109]⟩ : ByteArray) = strOfNums (bytesOf ⟨#[27, 91, 49, 59, 52, 109]⟩); decide +kernel
theorem sgL_Bytes (s : Int) : Bytes (sgL s) := by
  intro x hx
  unfold sgL bytesOf at hx
  obtain ⟨u, _, rfl⟩ := List.mem_map.1 hx
  have := u.toNat_lt
  omega
theorem rsign_eq {s : Int} (h : 0 ≤ s ∧ s ≤ 255) : flongref19_Sign.f s = some (strOfNums (sgL s)) := by
  have h1 : ∀ n : Nat, n < 256 → flongref19_Sign.f (n : Int) = some (signS ((n : Int) % 4).toNat) := by
    intro n hn
    have hm : Int.tmod (n : Int) 4 = ((n % 4 : Nat) : Int) := rfl
    have hm2 : ((n : Int) % 4).toNat = n % 4 := by omega
    unfold flongref19_Sign.f
    rw [hm, hm2]
    have : n % 4 = 0 ∨ n % 4 = 1 ∨ n % 4 = 2 ∨ n % 4 = 3 := by omega
    rcases this with e | e | e | e <;> rw [e] <;> rfl
  obtain ⟨n, rfl⟩ := Int.eq_ofNat_of_zero_le h.1
  rw [h1 n (by omega), sgL, ← signS_str]
theorem sign_eq {s : Int} (h : 0 ≤ s ∧ s ≤ 255) : ansi_Sign.f s = some (strOfNums (sgL s)) := by
  unfold ansi_Sign.f
  rw [if_pos h, sgL, ← signS_str]
theorem setOf_range {p : Option Int} {g : Gl} (hp : ∀ s, p = some s → 0 ≤ s ∧ s ≤ 3) (hg : 0 ≤ g.f1 ∧ g.f1 ≤ 3) : 0 ≤ setOf p g ∧ setOf p g ≤ 3 := by
  unfold setOf
  split
  · omega
  · cases p with
    | none => exact hg
    | some s =>
      simp only
      split
      · exact hp s rfl
      · exact hg
theorem normGo_range : ∀ (l : List Gl) (p : Option Int), (∀ s, p = some s → 0 ≤ s ∧ s ≤ 3) → (∀ g ∈ l, 0 ≤ g.f1 ∧ g.f1 ≤ 3) → ∀ g ∈ normGo p l, 0 ≤ g.f1 ∧ g.f1 ≤ 3
  | [], _, _, _, g, h => by simp [normGo] at h
  | x :: t, p, hp, hl, g, h => by
    have hx := setOf_range hp (hl x (by simp))
    rw [normGo] at h
    rcases List.mem_cons.1 h with rfl | h
    · exact hx
    · exact normGo_range t _ (fun s e => by injection e with e; rw [← e]; exact hx) (fun y hy => hl y (by simp [hy])) g h
theorem rowB_ev : ∀ (rs : List (List Gl)) (o : List Int), (∀ y ∈ rs, 0 < y.length ∧ y.length ≤ 5000 ∧ ∀ g ∈ y, 0 ≤ g.f1 ∧ g.f1 ≤ 255) → o.length + 30000 * rs.length ≤ 1000000000 → Ev (fun k => rowB k rs o) (o ++ outB rs)
  | [], o, _, _ => ev_eq (Ev.now _) (by simp [outB])
  | y :: t, o, h, hl => by
    obtain ⟨hp, hy, hs⟩ := h y (by simp)
    have hen := encode_length (runesOf y)
    rw [runesOf_length] at hen
    have hhd : hd y = rd_T44 y 0 := rfl
    have hs0 : 0 ≤ (hd y).f1 ∧ (hd y).f1 ≤ 255 := by
      rw [hd_eq hp]
      exact hs _ (List.getElem_mem hp)
    have e1 : outB (y :: t) = runB y ++ outB t := by simp [outB]
    rw [e1]
    simp only [List.length_cons] at hl
    have hsl := sgL_length (hd y).f1
    have hsl0 := sgL_length 0
    rw [hhd] at hs0 hsl
    simp only [rowB]
    refine ev_neg (by omega) (ev_ite (fun h0 => ?_) (fun h0 => ?_))
    · refine Ev.bind (text_ev _ (by omega)) (ev_pos (by rw [numsStr_size]; omega) ?_)
      rw [numsStr_back (encode_bytes _)]
      refine ev_eq (rowB_ev t _ (fun x hx => h x (by simp [hx])) (by rw [List.length_append]; omega)) ?_
      rw [runB, hhd, if_pos h0, List.append_assoc]
      rfl
    · refine ev_bind1 (sign_eq hs0) (Ev.bind (text_ev _ (by omega)) (ev_bind1 (sign_eq (by decide)) (ev_pos (by rw [numsStr_size, numsStr_size, numsStr_size]; omega) ?_)))
      rw [numsStr_back (encode_bytes _), numsStr_back (sgL_Bytes _), numsStr_back (sgL_Bytes _)]
      refine ev_eq (rowB_ev t _ (fun x hx => h x (by simp [hx])) (by simp only [List.length_append]; omega)) ?_
      rw [runB, hhd, if_neg h0]
      simp only [List.append_assoc]
      rfl
theorem nrm_set {l : List Gl} (h : ∀ g ∈ l, 0 ≤ g.f1 ∧ g.f1 ≤ 255) : ∀ g ∈ nrm l, 0 ≤ g.f1 ∧ g.f1 ≤ 3 :=
  normGo_range _ none (fun s e => by cases e) (fun g hg => by
    have := clean_Cl l h g (List.mem_of_mem_take hg)
    exact ⟨this.2.2.1, this.2.2.2.1⟩)
theorem part_le : ∀ (rs : List (List Gl)) (y : List Gl), y ∈ rs → y.length ≤ rs.flatten.length ∧ ∀ g ∈ y, g ∈ rs.flatten
  | [], y, h => by simp at h
  | z :: t, y, h => by
    rw [List.flatten_cons, List.length_append]
    rcases List.mem_cons.1 h with rfl | h
    · exact ⟨by omega, fun g hg => List.mem_append_left _ hg⟩
    · have := part_le t y h
      exact ⟨by omega, fun g hg => List.mem_append_right _ (this.2 g hg)⟩
theorem row_ev {l : List Gl} (hl : l.length ≤ 3000) (h : ∀ g ∈ l, 0 ≤ g.f1 ∧ g.f1 ≤ 255) : Ev (fun k => ansi_Row.f k l) (refGo (nrm l) 0) := by
  have hn := nrm_length l
  have hset := nrm_set h
  have hnl := normal_ev l (exists_trim (clean l)).choose_spec (by omega)
  change Ev _ (nrm l) at hnl
  unfold ansi_Row.f
  refine Ev.bind hnl ?_
  revert hn hset
  generalize nrm l = c
  intro hn hset
  have hi := runs_IsRuns c
  have hrl := runs_length c.length c (Nat.le_refl _)
  refine ev_bind1 (a := runs c) (by unfold cells_Runs.f; rw [if_pos (by omega)]) (ev_pos (by omega) (ev_eq (rowB_ev (runs c) [] (fun y hy => ?_) (by simp only [List.length_nil]; omega)) (by rw [List.nil_append, outB_eq _ _ hi])))
  have hp := part_le (runs c) y hy
  rw [hi.flat] at hp
  exact ⟨hi.pos y hy, by omega, fun g hg => by have := hset g (hp.2 g hg); omega⟩
theorem refGo_length : ∀ (c : List Gl) (s : Int), (refGo c s).length ≤ 20 * c.length + 6
  | [], s => by
    have := sgL_length 0
    rw [refGo]
    split <;> simp <;> omega
  | g :: t, s => by
    have h0 := sgL_length 0
    have h1 := sgL_length g.f1
    have h2 := encode_length [g.f0]
    have ih := refGo_length t g.f1
    rw [refGo, List.length_append, List.length_append, List.length_cons]
    have h3 : (if g.f1 = s then ([] : List Int) else (if s = 0 then [] else sgL 0) ++ (if g.f1 = 0 then [] else sgL g.f1)).length ≤ 12 := by
      split
      · simp
      · rw [List.length_append]
        have h4 : (if s = 0 then ([] : List Int) else sgL 0).length ≤ 6 := by split <;> first | (simp; done) | omega
        have h5 : (if g.f1 = 0 then ([] : List Int) else sgL g.f1).length ≤ 6 := by split <;> first | (simp; done) | omega
        omega
    simp only [List.length_singleton] at h2
    omega
theorem one_slice (c : List Gl) (i : Nat) (hi : i < c.length) : (c.take (i + 1)).drop i = [c[i]] := by
  rw [List.take_add_one, List.getElem?_eq_getElem hi, Option.toList_some, List.drop_append_of_le_length (by rw [List.length_take]; omega), List.drop_eq_nil_of_le (by rw [List.length_take]; omega)]
  rfl
theorem rrow_ev {l : List Gl} (hl : l.length ≤ 3000) (h : ∀ g ∈ l, 0 ≤ g.f1 ∧ g.f1 ≤ 255) : Ev (fun k => flongref19_Row.f k l) (refGo (nrm l) 0) := by
  have hn := nrm_length l
  have hset := nrm_set h
  have hnl := rnormal_ev l (exists_trim (clean l)).choose_spec (by omega) h
  change Ev _ (nrm l) at hnl
  unfold flongref19_Row.f
  refine Ev.bind hnl ?_
  revert hn hset
  generalize nrm l = c
  intro hn hset
  have hB : Bytes ([] : List Int) := by intro x hx; simp at hx
  have hz := sgL_length 0
  have hconv : ∀ o : List Int, Bytes o → o.length ≤ 1000000 → conv_bytes.f (strOfNums o) = some o := by
    intro o ho hlo
    unfold conv_bytes.f
    rw [if_pos (by rw [numsStr_size]; omega), numsStr_back ho]
  refine ev_eq (loop_up (σ := List Int × Int) (fun k s i => flongref19_Row.l0 k c (strOfNums s.1) s.2 i) c.length (fun s i => s.1 ++ refGo (c.drop i) s.2) (fun s i => Bytes s.1 ∧ s.1.length ≤ 20 * i ∧ 0 ≤ s.2 ∧ s.2 ≤ 255) ?_ ?_ ([], 0) 0 (by omega) ⟨hB, by simp, by simp, by simp⟩) (by simp)
  · rintro ⟨o, was⟩ ⟨ho, hlo, h0, h1⟩
    simp only at ho hlo h0 h1
    rw [List.drop_length, refGo]
    refine Ev.step (f := fun k => if was = 0 then ((conv_bytes.f (strOfNums o)).bind fun t288 => (some t288)) else ((flongref19_Sign.f 0).bind fun t291 => (if (strOfNums o).size + t291.size ≤ 9223372036854775807 then ((conv_bytes.f (strOfNums o ++ t291)).bind fun t292 => (some t292)) else (none)))) (fun k => by simp only [flongref19_Row.l0]; rw [if_neg (by omega)]) ?_
    refine ev_ite (fun hw => ?_) (fun hw => ?_)
    · rw [if_pos hw, List.append_nil]
      exact ev_bind1 (hconv o ho (by omega)) (Ev.now _)
    · rw [if_neg hw]
      refine ev_bind1 (rsign_eq (by decide)) (ev_pos (by rw [numsStr_size, numsStr_size]; omega) ?_)
      rw [← numsStr_append]
      exact ev_bind1 (hconv _ (bytes_append ho (sgL_Bytes 0)) (by rw [List.length_append]; omega)) (Ev.now _)
  · rintro ⟨o, was⟩ i hi ⟨ho, hlo, h0, h1⟩ ih
    simp only at ho hlo h0 h1
    have hg := hset c[i] (List.getElem_mem hi)
    have hsg := sgL_length c[i].f1
    have hen := encode_length (runesOf [c[i]])
    rw [runesOf_length] at hen
    simp only [List.length_singleton] at hen
    have hw1 : wrap64 ((i : Int) + 1) = ((i + 1 : Nat) : Int) := wrap_up hi (by omega)
    have q1 : ((i : Int) ≤ ((i + 1 : Nat) : Int)) = True := eq_true (by omega)
    have q2 : (((i + 1 : Nat) : Int) ≤ (c.length : Int)) = True := eq_true (by omega)
    rw [List.drop_eq_getElem_cons hi, refGo]
    have htext : Ev (fun k => flongref03_Text.f k ((c.take (((i + 1 : Nat) : Int)).toNat).drop (i : Int).toNat)) (strOfNums (encode [c[i].f0])) := by
      rw [Int.toNat_natCast, Int.toNat_natCast, one_slice c i hi]
      exact rgtext_ev _ (by simp)
    have hj : ∀ o' : List Int, Bytes o' → o'.length ≤ 20 * i + 6 → Ev (fun k => flongref19_Row.j1 k c (strOfNums o') (i : Int)) (o' ++ ((if c[i].f1 = 0 then [] else sgL c[i].f1) ++ (encode [c[i].f0] ++ refGo (c.drop (i + 1)) c[i].f1))) := by
      intro o' ho' hlo'
      refine Ev.step (f := fun k => if c[i].f1 = 0 then ((flongref03_Text.f k ((c.take (((i + 1 : Nat) : Int)).toNat).drop (i : Int).toNat)).bind fun t308 => (if (strOfNums o').size + t308.size ≤ 9223372036854775807 then (flongref19_Row.l0 k c (strOfNums o' ++ t308) c[i].f1 ((i + 1 : Nat) : Int)) else (none))) else ((flongref19_Sign.f c[i].f1).bind fun t310 => (if (strOfNums o').size + t310.size ≤ 9223372036854775807 then ((flongref03_Text.f k ((c.take (((i + 1 : Nat) : Int)).toNat).drop (i : Int).toNat)).bind fun t316 => (if (strOfNums o' ++ t310).size + t316.size ≤ 9223372036854775807 then (flongref19_Row.l0 k c ((strOfNums o' ++ t310) ++ t316) c[i].f1 ((i + 1 : Nat) : Int)) else (none))) else (none)))) (fun k => ?_) ?_
      · simp only [flongref19_Row.j1]
        rw [if_pos (by omega), if_pos (by omega), rdG c i hi, hw1]
        simp only [q1, q2, if_true]
      · refine ev_ite (fun hq => ?_) (fun hq => ?_)
        · rw [if_pos hq, List.nil_append]
          refine Ev.bind htext (ev_pos (by rw [numsStr_size, numsStr_size]; have : (encode [c[i].f0]).length ≤ 4 := hen; omega) ?_)
          rw [← numsStr_append]
          exact ev_eq (ih (o' ++ encode [c[i].f0], c[i].f1) ⟨bytes_append ho' (encode_bytes _), by rw [List.length_append]; have : (encode [c[i].f0]).length ≤ 4 := hen; omega, by show 0 ≤ c[i].f1; omega, by show c[i].f1 ≤ 255; omega⟩) (by rw [List.append_assoc])
        · rw [if_neg hq]
          refine ev_bind1 (rsign_eq (by omega)) (ev_pos (by rw [numsStr_size, numsStr_size]; omega) (Ev.bind htext (ev_pos (by rw [← numsStr_append, numsStr_size, numsStr_size, List.length_append]; have : (encode [c[i].f0]).length ≤ 4 := hen; omega) ?_)))
          rw [← numsStr_append, ← numsStr_append]
          exact ev_eq (ih ((o' ++ sgL c[i].f1) ++ encode [c[i].f0], c[i].f1) ⟨bytes_append (bytes_append ho' (sgL_Bytes _)) (encode_bytes _), by rw [List.length_append, List.length_append]; have : (encode [c[i].f0]).length ≤ 4 := hen; omega, by show 0 ≤ c[i].f1; omega, by show c[i].f1 ≤ 255; omega⟩) (by simp only [List.append_assoc])
    refine Ev.step (f := fun k => if c[i].f1 = was then ((flongref03_Text.f k ((c.take (((i + 1 : Nat) : Int)).toNat).drop (i : Int).toNat)).bind fun t300 => (if (strOfNums o).size + t300.size ≤ 9223372036854775807 then (flongref19_Row.l0 k c (strOfNums o ++ t300) was ((i + 1 : Nat) : Int)) else (none))) else (if was = 0 then (flongref19_Row.j1 k c (strOfNums o) (i : Int)) else ((flongref19_Sign.f 0).bind fun t301 => (if (strOfNums o).size + t301.size ≤ 9223372036854775807 then (flongref19_Row.j1 k c (strOfNums o ++ t301) (i : Int)) else (none))))) (fun k => ?_) ?_
    · simp only [flongref19_Row.l0]
      rw [if_pos (by omega), if_pos (by omega), rdG c i hi, hw1]
      simp only [q1, q2, if_true]
    · refine ev_ite (fun hq => ?_) (fun hq => ?_)
      · rw [if_pos hq, List.nil_append]
        refine Ev.bind htext (ev_pos (by rw [numsStr_size, numsStr_size]; have : (encode [c[i].f0]).length ≤ 4 := hen; omega) ?_)
        rw [← numsStr_append]
        exact ev_eq (ih (o ++ encode [c[i].f0], was) ⟨bytes_append ho (encode_bytes _), by rw [List.length_append]; have : (encode [c[i].f0]).length ≤ 4 := hen; omega, h0, h1⟩) (by rw [List.append_assoc, hq])
      · rw [if_neg hq]
        refine ev_ite (fun hw => ?_) (fun hw => ?_)
        · rw [if_pos hw, List.nil_append]
          exact ev_eq (hj o ho (by omega)) (by simp only [List.append_assoc])
        · rw [if_neg hw]
          refine ev_bind1 (rsign_eq (by decide)) (ev_pos (by rw [numsStr_size, numsStr_size]; omega) ?_)
          rw [← numsStr_append]
          exact ev_eq (hj (o ++ sgL 0) (bytes_append ho (sgL_Bytes 0)) (by rw [List.length_append]; omega)) (by simp only [List.append_assoc])
/-- Rows' bytes. -/
noncomputable def wB (rs : List (List Gl)) : List Int := (rs.map (fun r => refGo (nrm r) 0 ++ [10])).flatten
theorem wB_drop (rs : List (List Gl)) (i : Nat) (h : i < rs.length) : wB (rs.drop i) = (refGo (nrm rs[i]) 0 ++ [10]) ++ wB (rs.drop (i + 1)) := by
  unfold wB
  rw [List.drop_eq_getElem_cons h, List.map_cons, List.flatten_cons]
theorem prows_set {l : List Ln} (h : ∀ x ∈ l, Small x) : ∀ r ∈ prows l, ∀ g ∈ r, 0 ≤ g.f1 ∧ g.f1 ≤ 255 := by
  intro r hr
  obtain ⟨x, hx, rfl⟩ := List.mem_map.1 hr
  intro g hg
  have := nrm_set (flat_set (h x hx)) g hg
  omega
theorem awrite_ev {l : List Ln} (hl : l.length ≤ 1000) (h : ∀ x ∈ l, Small x) : Ev (fun k => ansi_Write.f k l) (wB (prows l)) := by
  unfold ansi_Write.f
  refine Ev.bind (rows_ev hl h) ?_
  have hn := prows_length l
  have hsm := prows_small h
  have hst := prows_set h
  revert hn hsm hst
  generalize prows l = rs
  intro hn hsm hst
  refine ev_eq (loop_up (fun k o i => ansi_Write.l0 k o rs (rs.length : Int) i) rs.length (fun o i => o ++ wB (rs.drop i)) (fun o i => o.length ≤ 60007 * i) ?_ ?_ [] 0 (by omega) (by simp)) (by simp)
  · intro o _
    exact Ev.step (f := fun _ => some o) (fun k => by simp only [ansi_Write.l0]; rw [if_neg (by omega)]) (ev_eq (Ev.now _) (by simp [wB]))
  · intro o i hi ho ih
    have hr := hsm rs[i] (List.getElem_mem hi)
    have hlen := refGo_length (nrm rs[i]) 0
    have hnl := nrm_length rs[i]
    refine Ev.step (f := fun k => (ansi_Row.f k rs[i]).bind fun t347 => (if o.length + t347.length < 140737488355328 then ((some (o ++ t347 : List Int)).bind fun y350 => (if y350.length < 140737488355328 then (ansi_Write.l0 k (y350 ++ [10]) rs (rs.length : Int) ((i + 1 : Nat) : Int)) else (none))) else (none))) (fun k => ?_) ?_
    · simp only [ansi_Write.l0]
      rw [if_pos (by omega), if_pos (by omega), if_pos (by omega), rdL rs i hi, wrap_up hi (by omega)]
    · refine Ev.bind (row_ev hr (hst _ (List.getElem_mem hi))) (ev_pos (by omega) (ev_bind1 rfl (ev_pos (by rw [List.length_append]; omega) (ev_eq (ih _ (by simp only [List.length_append, List.length_singleton]; omega)) ?_))))
      rw [wB_drop rs i hi]
      simp only [List.append_assoc]
theorem rawrite_ev {l : List Ln} (hl : l.length ≤ 1000) (h : ∀ x ∈ l, Small x) : Ev (fun k => flongref19_Write.f k l) (wB (prows l)) := by
  unfold flongref19_Write.f
  refine Ev.bind (rrows_ev hl h) ?_
  have hn := prows_length l
  have hsm := prows_small h
  have hst := prows_set h
  revert hn hsm hst
  generalize prows l = rs
  intro hn hsm hst
  refine ev_eq (loop_up (fun k o i => flongref19_Write.l0 k rs o i) rs.length (fun o i => o ++ wB (rs.drop i)) (fun o i => o.length ≤ 60007 * i) ?_ ?_ [] 0 (by omega) (by simp)) (by simp)
  · intro o _
    exact Ev.step (f := fun _ => some o) (fun k => by simp only [flongref19_Write.l0]; rw [if_neg (by omega)]) (ev_eq (Ev.now _) (by simp [wB]))
  · intro o i hi ho ih
    have hr := hsm rs[i] (List.getElem_mem hi)
    have hlen := refGo_length (nrm rs[i]) 0
    have hnl := nrm_length rs[i]
    refine Ev.step (f := fun k => (flongref19_Row.f k rs[i]).bind fun t386 => (if o.length + t386.length < 140737488355328 then ((some (o ++ t386 : List Int)).bind fun y389 => (if y389.length < 140737488355328 then (flongref19_Write.l0 k rs (y389 ++ [10]) ((i + 1 : Nat) : Int)) else (none))) else (none))) (fun k => ?_) ?_
    · simp only [flongref19_Write.l0]
      rw [if_pos (by omega), if_pos (by omega), rdL rs i hi, wrap_up hi (by omega)]
    · refine Ev.bind (rrow_ev hr (hst _ (List.getElem_mem hi))) (ev_pos (by omega) (ev_bind1 rfl (ev_pos (by rw [List.length_append]; omega) (ev_eq (ih _ (by simp only [List.length_append, List.length_singleton]; omega)) ?_))))
      rw [wB_drop rs i hi]
      simp only [List.append_assoc]
end Go.Proofs.YtdjepocklmlnbaaDoor.Pure

/- What the chapter's example fixes: computed. -/
namespace Go.Proofs.YtdjepocklmlnbaaDoor.Pure
open Go.RowKit Go.Proofs.YtdjepocklmlnbaaDoorW.PrintWords Go.Proofs.YtdjepocklmlnbaaDoorW.PrintLast Go.Proofs.YtdjepocklmlnbaaDoor.X
theorem known_ev : Ev (fun k => flonglaw19_known.f k) true := Ev.of (k := 30) flonglaw19_known.mono (by kernel_rfl)
end Go.Proofs.YtdjepocklmlnbaaDoor.Pure
