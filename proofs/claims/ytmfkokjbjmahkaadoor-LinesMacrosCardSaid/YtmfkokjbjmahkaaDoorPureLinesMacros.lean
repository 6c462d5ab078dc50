/- LinesMacros: a macro of letters is told the same by either sign, blanks behind it or not; so are its arguments. The plain law. -/
import Derived.Test.YtmfkokjbjmahkaaDoorSpecQ
import Derived.Test.YtmfkokjbjmahkaaDoorSaidLinesMacros
namespace Go.Proofs.YtmfkokjbjmahkaaDoor.Pure
open Go Go.RowKit Go.Proofs.YtmfkokjbjmahkaaDoorW.PrintWords Go.Proofs.YtmfkokjbjmahkaaDoorW.PrintLast Go.Proofs.YtmfkokjbjmahkaaDoorW.PrintMore Go.Proofs.YtmfkokjbjmahkaaDoor.X Go.Proofs.YtmfkokjbjmahkaaDoor.Hand
set_option linter.unusedVariables false
def sizesL (l : List ByteArray) : Nat := (l.map ByteArray.size).sum
theorem sizesL_snoc (l : List ByteArray) (s : ByteArray) : sizesL (l ++ [s]) = sizesL l + s.size := by simp [sizesL]
theorem sizesL_le : ∀ l : List ByteArray, (∀ s ∈ l, s.size ≤ 140737488351232) → sizesL l ≤ l.length * 140737488351232
  | [], _ => by simp [sizesL]
  | s :: l, h => by
    have h1 := sizesL_le l fun x hx => h x (by simp [hx])
    have h2 := h s (by simp)
    simp only [sizesL, List.map_cons, List.sum_cons, List.length_cons] at h1 ⊢
    rw [Nat.add_mul]
    omega
theorem sizesL_mem : ∀ {l : List ByteArray} {s : ByteArray}, s ∈ l → s.size ≤ sizesL l
  | x :: l, s, h => by
    simp only [sizesL, List.map_cons, List.sum_cons]
    rcases List.mem_cons.1 h with rfl | h
    · omega
    · have := sizesL_mem h
      unfold sizesL at this
      omega
theorem sizesL_sumL (l : List ByteArray) : sumL (l.map bytesOf) = sizesL l := by
  unfold sumL sizesL
  rw [List.map_map]
  congr 1
  refine List.map_congr_left fun s _ => ?_
  show (bytesOf s).length = s.size
  rw [← numsStr_size, str_of]
theorem sizesL_take (l : List ByteArray) (i : Nat) : sizesL (l.take i) ≤ sizesL l := by
  have h : sizesL l = sizesL (l.take i) + sizesL (l.drop i) := by
    unfold sizesL
    rw [← List.sum_append, ← List.map_append, List.take_append_drop]
  omega
theorem maps_of (l : List ByteArray) : (l.map bytesOf).map strOfNums = l := by
  rw [List.map_map]
  exact (List.map_congr_left (fun t _ => str_of t)).trans (List.map_id l)
theorem maps_bytes (l : List ByteArray) : ∀ x ∈ l.map bytesOf, Bytes x := fun x hx => by
  obtain ⟨s, _, rfl⟩ := List.mem_map.1 hx
  exact bytesOf_Bytes s
theorem badT_no {l : List ByteArray} (h : ∀ s ∈ l, badT s = false) : ∀ x ∈ l.map bytesOf, ∀ y ∈ x, y ≠ 10 ∧ y ≠ 13 ∧ y ≠ 92 := by
  intro x hx y hy
  obtain ⟨s, hs, rfl⟩ := List.mem_map.1 hx
  have h1 := h s hs
  rw [← str_of s, badT_str (bytesOf_Bytes s)] at h1
  have := List.any_eq_false.1 h1 y hy
  simp at this
  omega
theorem gap_eq (g : Nat) (h : g ≤ 10) : (⟨#[32, 32, 32, 32, 32, 32, 32, 32, 32, 32]⟩ : ByteArray).extract 0 g = strOfNums (List.replicate g 32) := by
  rw [show (⟨#[32, 32, 32, 32, 32, 32, 32, 32, 32, 32]⟩ : ByteArray) = strOfNums (List.replicate 10 32) from rfl, str_take, List.take_replicate, Nat.min_eq_left h]
/-- The line, told by either sign. -/
theorem macros_read {nm : List Int} {l : List ByteArray} {a2 : Int} (hb : Bytes nm) (h : NameP nm) (hl : l.length ≤ 200) (hbad : ∀ s ∈ l, badT s = false) (hs : nm.length + sizesL l ≤ 400) (h2 : 0 ≤ a2 ∧ a2 ≤ 255) :
    Ev (fun k => flonglaw05_LinesMacros.l1 k (strOfNums nm) l a2 (strOfNums (nm ++ joinA (l.map bytesOf))) (l.length : Int)) true := by
  have hk : Ev (fun k => (flonglaw05_known.f k).bind fun t => some t) true := Ev.bind known_ev (Ev.now _)
  obtain ⟨g, hg, hg9⟩ : ∃ g : Nat, Int.tmod a2 10 = (g : Int) ∧ g ≤ 9 := by
    rw [Int.tmod_eq_emod_of_nonneg h2.1]
    exact ⟨(a2 % 10).toNat, by omega, by omega⟩
  have hno := macro_no h (badT_no hbad)
  have hjb := bytes_append hb (joinA_bytes (maps_bytes l))
  have hjl := joinA_length (l.map bytesOf)
  rw [sizesL_sumL, List.length_map] at hjl
  have hml : (l.map bytesOf).length ≤ 200 := by rw [List.length_map]; exact hl
  have m1 := fun c hc => rowV_macro (nm := nm) (xs := l.map bytesOf) h hml 1 g (c := c) hc
  rw [maps_of] at m1
  generalize hj : nm ++ joinA (l.map bytesOf) = J at hno hjb m1 ⊢
  have hJl : J.length ≤ 2000 := by rw [← hj, List.length_append]; omega
  have hgb : Bytes (List.replicate g 32) := fun y hy => by rw [List.eq_of_mem_replicate hy]; decide
  have mem : ∀ (c y : Int), y ∈ c :: (List.replicate g 32 ++ J) → y = c ∨ y = 32 ∨ y ≠ 10 ∧ y ≠ 13 ∧ y ≠ 92 := fun c y hy => by
    rcases List.mem_cons.1 hy with e | hy
    · exact .inl e
    · rcases List.mem_append.1 hy with hy | hy
      · exact .inr (.inl (List.eq_of_mem_replicate hy))
      · exact .inr (.inr (hno y hy))
  have hc : ∀ c : Int, c = 46 ∨ c = 39 → ∀ y ∈ c :: (List.replicate g 32 ++ J), y ≠ 10 ∧ y ≠ 13 ∧ y ≠ 92 := fun c hc y hy => by
    rcases mem c y hy with e | e | e
    · omega
    · omega
    · exact e
  have byt : ∀ c : Int, c = 46 ∨ c = 39 → Bytes (c :: (List.replicate g 32 ++ J)) := fun c hc y hy => by
    rcases List.mem_cons.1 hy with rfl | hy
    · omega
    · exact bytes_append hgb hjb y hy
  have len : ∀ c : Int, (c :: (List.replicate g 32 ++ J)).length ≤ 2010 := fun c => by
    rw [List.length_cons, List.length_append, List.length_replicate]
    omega
  have r1 := read_ev (byt 46 (.inl rfl)) (by have := len 46; omega)
  rw [readV_bare (by simp) (fun e => (hc 46 (.inl rfl) _ e).2.2 rfl) (fun e => (hc 46 (.inl rfl) _ e).1 rfl) (fun e => (hc 46 (.inl rfl) _ e).2.1 rfl), m1 46 (.inl rfl)] at r1
  have r2 := read_ev (b := 39 :: (List.replicate g 32 ++ J) ++ [10]) (bytes_append (byt 39 (.inr rfl)) (by intro x hx; simp at hx; omega)) (by rw [List.length_append, List.length_singleton]; have := len 39; omega)
  rw [readV_one (fun e => (hc 39 (.inr rfl) _ e).2.2 rfl) (fun e => (hc 39 (.inr rfl) _ e).1 rfl) (fun e => (hc 39 (.inr rfl) _ e).2.1 rfl), m1 39 (.inr rfl)] at r2
  have s1 : (⟨#[46]⟩ : ByteArray) = strOfNums [46] := rfl
  have s2 : (⟨#[39]⟩ : ByteArray) = strOfNums [39] := rfl
  have s3 : (⟨#[10]⟩ : ByteArray) = strOfNums [10] := rfl
  refine Ev.step (fun k => by simp only [flonglaw05_LinesMacros.l1]; rw [if_neg (by omega)]) ?_
  simp only [hg, Int.toNat_natCast, gap_eq g (by omega), s1, s2, s3, ← numsStr_append, numsStr_size, List.length_append, List.length_replicate, List.length_cons, List.length_nil]
  have same := same_rows (l := [(⟨1, strOfNums nm, l, ⟨#[]⟩⟩ : Rw)]) (by simp) (by intro r hr; rw [List.mem_singleton] at hr; subst hr; simp only; omega)
  have t1 : [46] ++ List.replicate g 32 ++ J = 46 :: (List.replicate g 32 ++ J) := by simp
  have t2 : [39] ++ List.replicate g 32 ++ J ++ [10] = 39 :: (List.replicate g 32 ++ J) ++ [10] := by simp
  rw [t1, t2]
  refine ev_pos (by omega) (ev_pos (by omega) (ev_pos (by omega) (ev_pos (by omega) (Ev.bind r1 (ev_pos (by omega) (ev_pos (by omega) (Ev.bind r2 (Ev.bind (Ev.now _) ?_))))))))
  exact Ev.bind same (ev_pos rfl (Ev.bind same (ev_pos rfl (ev_pos (by rw [wrap_of (by simp) (by simp)]; rfl) hk))))
theorem LinesMacros : flonglaw05_LinesMacros.PureSaid := by
  intro a0 l a2 ha0 hl hx ha2
  have h2 := wf_u8 ha2
  refine Ev.rounds (g := fun k => flonglaw05_LinesMacros.f k a0 l a2) ?_
  have hk : Ev (fun k => (flonglaw05_known.f k).bind fun t => some t) true := Ev.bind known_ev (Ev.now _)
  have ht : Ev (fun k => flonglaw05_LinesMacros.j1 k a0 l a2 true) true := Ev.step (f := fun k => (flonglaw05_known.f k).bind fun t => some t) (fun k => by simp only [flonglaw05_LinesMacros.j1]; rw [if_pos trivial]) hk
  unfold flonglaw05_LinesMacros.f
  refine loop_up (σ := Int) (fun k s i => flonglaw05_LinesMacros.l0 k a0 l a2 s i) l.length (fun _ _ => true) (fun s i => l.length ≤ 200 → s = ((a0.size + sizesL (l.take i) : Nat) : Int)) ?_ ?_ (a0.size : Int) 0 (by omega) (fun _ => by simp [sizesL])
  · intro s hs
    rw [List.take_length] at hs
    by_cases hbig : s > 400
    · exact Ev.step (f := fun k => flonglaw05_LinesMacros.j1 k a0 l a2 true) (fun k => by simp only [flonglaw05_LinesMacros.l0]; rw [if_neg (by omega), if_pos hbig]) ht
    by_cases hnm : a0.toList = []
    · exact Ev.step (f := fun k => flonglaw05_LinesMacros.j1 k a0 l a2 true) (fun k => by simp only [flonglaw05_LinesMacros.l0]; rw [if_neg (by omega), if_neg hbig, if_pos hnm]) ht
    have hb := bytesOf_Bytes a0
    have hbl : (bytesOf a0).length = a0.size := by rw [← numsStr_size, str_of]
    obtain ⟨r, hr, hc⟩ := check_ev (nm := bytesOf a0) (t := []) (l := l) 0 hb bytes_nil (by omega) (by simp) (fun s hs => by have := hx s hs; omega)
    rw [str_of] at hr
    refine Ev.step (f := fun k => (lines_Check.f k 0 a0 l (⟨#[]⟩ : ByteArray)).bind fun t227 => flonglaw05_LinesMacros.j1 k a0 l a2 (t227 != 0)) (fun k => by simp only [flonglaw05_LinesMacros.l0]; rw [if_neg (by omega), if_neg hbig, if_neg hnm]) (Ev.bind hr ?_)
    rcases hc with ⟨rfl, hc⟩ | ⟨rfl, _⟩
    · rcases hc with ⟨h, _⟩ | ⟨hN, _, hl2, hbad⟩
      · exact absurd (by rw [← str_of a0, h]; exact str_nil.2 rfl) hnm
      · have hs' := hs hl2
        have htot : (bytesOf a0).length + sizesL l ≤ 400 := by omega
        refine Ev.step (f := fun k => flonglaw05_LinesMacros.l1 k a0 l a2 a0 0) (fun k => by simp only [flonglaw05_LinesMacros.j1]; rw [if_neg (by simp)]) ?_
        rw [← str_of a0]
        generalize bytesOf a0 = nm at hb hN htot ⊢
        refine loop_up (σ := List Int) (fun k s i => flonglaw05_LinesMacros.l1 k (strOfNums nm) l a2 (strOfNums s) i) l.length (fun _ _ => true) (fun s i => s = nm ++ joinA ((l.take i).map bytesOf)) ?_ ?_ nm 0 (by omega) (by simp [joinA_nil])
        · intro s hs
          rw [List.take_length] at hs
          subst hs
          exact macros_read hb hN hl2 hbad htot h2
        · intro s i hi hs ih
          have hsz := sizesL_mem (List.getElem_mem hi)
          have htk := sizesL_take l i
          have hjl := joinA_length ((l.take i).map bytesOf)
          rw [sizesL_sumL, List.length_map, List.length_take] at hjl
          have hsl : s.length ≤ 2000 := by rw [hs, List.length_append]; omega
          have hbi := bytesOf_Bytes l[i]
          have hsi : (bytesOf l[i]).length = l[i].size := by rw [← numsStr_size, str_of]
          have hq := quoted_eq hbi (by omega)
          rw [str_of] at hq
          have hql : (quoB (bytesOf l[i])).length ≤ 2 * l[i].size + 2 := by
            have := twoB_length (bytesOf l[i])
            rw [quoB_eq]
            simp
            omega
          refine Ev.step (f := fun k => flonglaw05_LinesMacros.l1 k (strOfNums nm) l a2 (strOfNums (s ++ [32] ++ quoB (bytesOf l[i]))) ((i + 1 : Nat) : Int)) (fun k => ?_) (ih _ ?_)
          · simp only [flonglaw05_LinesMacros.l1]
            rw [if_pos (by omega), if_pos (by rw [numsStr_size]; omega), if_pos (by omega), rdOf_at l i hi, hq, Option.bind_some, show (⟨#[32]⟩ : ByteArray) = strOfNums [32] from rfl, ← numsStr_append, if_pos (by rw [numsStr_size, numsStr_size, List.length_append, List.length_singleton]; omega), ← numsStr_append, wrap_up hi (by omega)]
          · rw [hs, List.take_succ_eq_append_getElem hi, List.map_append, List.map_singleton, joinA_snoc]
            simp
    · exact ht
  · intro s i hi hs ih
    refine Ev.step (f := fun k => flonglaw05_LinesMacros.l0 k a0 l a2 (wrap64 (s + (l[i].size : Int))) ((i + 1 : Nat) : Int)) (fun k => ?_) (ih _ (fun h => ?_))
    · simp only [flonglaw05_LinesMacros.l0]
      rw [if_pos (by omega), if_pos (by omega), rdOf_at l i hi, wrap_up hi (by omega)]
    · have h1 := sizesL_le l hx
      have h3 := sizesL_take l i
      have h4 : l.length * 140737488351232 ≤ 200 * 140737488351232 := Nat.mul_le_mul_right _ h
      have h5 := hx _ (List.getElem_mem hi)
      rw [hs h, wrap_of (by omega) (by omega), List.take_succ_eq_append_getElem hi, sizesL_snoc]
      omega
end Go.Proofs.YtmfkokjbjmahkaaDoor.Pure
