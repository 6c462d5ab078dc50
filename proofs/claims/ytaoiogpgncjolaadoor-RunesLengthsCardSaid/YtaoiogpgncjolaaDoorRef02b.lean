/- The reference's reading of bytes, rune by rune as each is written: it is the same plain function. -/
import Derived.Test.YtaoiogpgncjolaaDoorRef02a
import Derived.Test.YtaoiogpgncjolaaDoorX8
import Derived.Test.YtaoiogpgncjolaaDoorX9
import Derived.Test.YtaoiogpgncjolaaDoorX10
namespace Go.Proofs.YtaoiogpgncjolaaDoor.Pure
open Go.RowKit Go.Proofs.YtaoiogpgncjolaaDoorW.PrintWords Go.Proofs.YtaoiogpgncjolaaDoorW.PrintLast Go.Proofs.YtaoiogpgncjolaaDoorW.PrintMore Go.Proofs.YtaoiogpgncjolaaDoor.X Go.Proofs.YtaoiogpgncjolaaDoor.Hand
set_option linter.unusedSimpArgs false
set_option linter.unusedVariables false

/-- What bytes are worth, as if they were one rune's. -/
def val : List Int → Int
  | [a] => a
  | [a, b] => (a - 192) * 64 + b - 128
  | [a, b, c] => ((a - 224) * 64 + b - 128) * 64 + c - 128
  | [a, b, c, d] => (((a - 240) * 64 + b - 128) * 64 + c - 128) * 64 + d - 128
  | _ => 0
theorem val_enc {r : Int} (h : validB r = true) : val (enc r) = r := by
  have h' := (validB_iff r).1 h
  unfold enc
  split
  · rfl
  · split
    · simp only [val]; omega
    · split
      · simp only [val]; omega
      · simp only [val]; omega

theorem value_step (l : List Int) (i : Nat) (x y r : Int) (hx : -1000000000 ≤ x) (hx1 : x ≤ 1000000000) (hi : l[i]? = some y) (hy : 0 ≤ y) (hy1 : y ≤ 255) (hl : l.length ≤ 4)
    (k : Ev (fun k => flongref02_value.l0 k l (x * 64 + y - 128) ((i + 1 : Nat) : Int)) r) : Ev (fun k => flongref02_value.l0 k l x (i : Int)) r := by
  obtain ⟨hlt, hiy⟩ := List.getElem?_eq_some_iff.1 hi
  refine Ev.step (f := fun k => flongref02_value.l0 k l (x * 64 + y - 128) ((i + 1 : Nat) : Int)) (fun k => ?_) k
  simp only [flongref02_value.l0]
  rw [if_pos (by omega), if_pos (by omega), rd_nat l i hlt, hiy, wrap_of (x := y) (by omega) (by omega), wrap_of (x := x * 64) (by omega) (by omega), wrap_of (x := x * 64 + y) (by omega) (by omega), wrap_of (x := x * 64 + y - 128) (by omega) (by omega), wrap_of (x := (i : Int) + 1) (by omega) (by omega)]
  rfl
theorem value_end (l : List Int) (x : Int) : Ev (fun k => flongref02_value.l0 k l x (l.length : Int)) x := by
  refine Ev.step (f := fun _ => some x) (fun k => ?_) (Ev.now _)
  simp only [flongref02_value.l0]
  rw [if_neg (by omega)]
theorem value_j (l : List Int) (x r : Int) (k : Ev (fun k => flongref02_value.l0 k l x ((1 : Nat) : Int)) r) : Ev (fun k => flongref02_value.j0 k l x) r :=
  Ev.step (f := fun k => flongref02_value.l0 k l x ((1 : Nat) : Int)) (fun k => by simp only [flongref02_value.j0]; rfl) k
theorem value_ev (l : List Int) (hb : Bytes l) (h1 : l ≠ []) (hl : l.length ≤ 4) : Ev (fun k => flongref02_value.f k l) (val l) := by
  have hpos : 0 < l.length := List.length_pos_iff.2 h1
  match l, hb, hpos, hl with
  | [a], hb, _, _ =>
    have ha := hb a (by simp)
    unfold flongref02_value.f
    refine ev_pos (by simp) (ev_neg (by simp) (ev_neg (by simp) (ev_neg (by simp) ?_)))
    rw [show rd [a] 0 = a from rfl, wrap_of (x := a) (by omega) (by omega)]
    exact value_j _ _ _ (value_end [a] a)
  | [a, b], hb, _, _ =>
    have ha := hb a (by simp)
    have hb' := hb b (by simp)
    unfold flongref02_value.f
    refine ev_pos (by simp) (ev_pos (by simp) ?_)
    rw [show rd [a, b] 0 = a from rfl, wrap_of (x := a) (by omega) (by omega), wrap_of (by omega) (by omega)]
    exact value_j _ _ _ (value_step _ 1 _ b _ (by omega) (by omega) rfl hb'.1 hb'.2 (by simp) (value_end [a, b] _))
  | [a, b, c], hb, _, _ =>
    have ha := hb a (by simp)
    have hb' := hb b (by simp)
    have hc := hb c (by simp)
    unfold flongref02_value.f
    refine ev_pos (by simp) (ev_neg (by simp) (ev_pos (by simp) ?_))
    rw [show rd [a, b, c] 0 = a from rfl, wrap_of (x := a) (by omega) (by omega), wrap_of (by omega) (by omega)]
    exact value_j _ _ _ (value_step _ 1 _ b _ (by omega) (by omega) rfl hb'.1 hb'.2 (by simp) (value_step _ 2 _ c _ (by omega) (by omega) rfl hc.1 hc.2 (by simp) (value_end [a, b, c] _)))
  | [a, b, c, d], hb, _, _ =>
    have ha := hb a (by simp)
    have hb' := hb b (by simp)
    have hc := hb c (by simp)
    have hd := hb d (by simp)
    unfold flongref02_value.f
    refine ev_pos (by simp) (ev_neg (by simp) (ev_neg (by simp) (ev_pos (by simp) ?_)))
    rw [show rd [a, b, c, d] 0 = a from rfl, wrap_of (x := a) (by omega) (by omega), wrap_of (by omega) (by omega)]
    exact value_j _ _ _ (value_step _ 1 _ b _ (by omega) (by omega) rfl hb'.1 hb'.2 (by simp) (value_step _ 2 _ c _ (by omega) (by omega) rfl hc.1 hc.2 (by simp) (value_step _ 3 _ d _ (by omega) (by omega) rfl hd.1 hd.2 (by simp) (value_end [a, b, c, d] _))))

/-- Bytes as a text: two are one just if the numbers are. -/
theorem str_eq {a b : List Int} (ha : Bytes a) (hb : Bytes b) : ((strOfNums a).toList == (strOfNums b).toList) = decide (a = b) := by
  have key : (strOfNums a).toList = (strOfNums b).toList ↔ a = b := by
    rw [ByteArray.toList_eq, ByteArray.toList_eq, strOfNums_data, strOfNums_data]
    constructor
    · intro h
      have h2 := congrArg (List.map fun u : UInt8 => (u.toNat : Int)) h
      rw [List.map_map, List.map_map] at h2
      have e : ∀ l : List Int, Bytes l → l.map ((fun u : UInt8 => (u.toNat : Int)) ∘ fun n => UInt8.ofNat n.toNat) = l := by
        intro l hl
        conv => rhs; rw [← List.map_id l]
        refine List.map_congr_left fun x hx => ?_
        have := hl x hx
        simp
        omega
      rwa [e a ha, e b hb] at h2
    · rintro rfl; rfl
  rw [Bool.eq_iff_iff, beq_iff_eq, decide_eq_true_iff]
  exact key
theorem bytes_take {l : List Int} (h : Bytes l) (n : Nat) : Bytes (l.take n) := fun x hx => h x (List.mem_of_mem_take hx)

theorem val_range (l : List Int) (hb : Bytes l) : -1000000000 ≤ val l ∧ val l ≤ 1000000000 := by
  match l, hb with
  | [], _ => simp [val]
  | [a], hb =>
    have ha := hb a (by simp)
    simp only [val]; omega
  | [a, b], hb =>
    have ha := hb a (by simp)
    have hb' := hb b (by simp)
    simp only [val]; omega
  | [a, b, c], hb =>
    have ha := hb a (by simp)
    have hb' := hb b (by simp)
    have hc := hb c (by simp)
    simp only [val]; omega
  | [a, b, c, d], hb =>
    have ha := hb a (by simp)
    have hb' := hb b (by simp)
    have hc := hb c (by simp)
    have hd := hb d (by simp)
    simp only [val]; omega
  | _ :: _ :: _ :: _ :: _ :: _, _ => simp [val]

/-- Are bytes just one rune's? -/
theorem is_ev (l : List Int) (hb : Bytes l) (h1 : l ≠ []) (hl : l.length ≤ 4) : Ev (fun k => flongref02_is.f k l) (decide (validB (val l) = true ∧ enc (val l) = l)) := by
  have hv := val_range l hb
  unfold flongref02_is.f
  refine Ev.bind (value_ev l hb h1 hl) ?_
  by_cases h : validB (val l) = true
  · have h' := (validB_iff _).1 h
    refine ev_neg (by omega) (ev_neg (by omega) ?_)
    rw [wrap32_of (by omega) (by omega)]
    refine ev_bind1 (rvalid_eq _) (ev_pos h (Ev.bind (rone_ev _) (ev_eq (Ev.now _) ?_)))
    rw [one_valid h, str_eq (enc_bytes h) hb]
    simp [h]
  · have hf : decide (validB (val l) = true ∧ enc (val l) = l) = false := by simp [h]
    rw [hf]
    refine ev_ite (fun _ => Ev.now _) (fun h2 => ev_ite (fun _ => Ev.now _) (fun h3 => ?_))
    rw [wrap32_of (by omega) (by omega)]
    exact ev_bind1 (rvalid_eq _) (ev_neg h (Ev.now _))

/-- The number of bytes that the reference finds: that of the first rune, 0 where there is none. -/
theorem is_at {l : List Int} (hb : Bytes l) (hl : l ≠ []) (m : Nat) (hm : 1 ≤ m) (hm2 : m ≤ l.length) (hm4 : m ≤ 4) :
    (validB (val (l.take m)) = true ∧ enc (val (l.take m)) = l.take m) ↔ (firstRune l).2 = m ∧ l.take m = enc (firstRune l).1 ∧ validB (firstRune l).1 = true := by
  constructor
  · rintro ⟨h1, h2⟩
    have := first_of_take h1 h2.symm hm2
    rw [this]
    exact ⟨rfl, h2.symm, h1⟩
  · rintro ⟨h1, h2, h3⟩
    rw [h2, val_enc h3]
    exact ⟨h3, rfl⟩

/-- The rest of the round: the number of bytes is found, or there is none. -/
theorem rdecode_out (x o : List Int) (i n : Nat) (m : Int) (r : List Int) (hb : Bytes x) (hi : i < x.length) (hx : x.length ≤ 1000000000) (ho : o.length < 35184372088832)
    (hn : (n = 0 ∧ (firstRune (x.drop i)) = (65533, 1)) ∨ (n = (firstRune (x.drop i)).2 ∧ (x.drop i).take n = enc (firstRune (x.drop i)).1 ∧ validB (firstRune (x.drop i)).1 = true))
    (h : Ev (fun k => flongref02_Decode.l0 k x (o ++ [(firstRune (x.drop i)).1]) ((i + (firstRune (x.drop i)).2 : Nat) : Int)) r) : Ev (fun k => flongref02_Decode.j2 k x o (i : Int) (n : Int) m false) r := by
  have hbd := bytes_drop hb i
  have hne : x.drop i ≠ [] := by
    intro e
    have := congrArg List.length e
    rw [List.length_drop] at this
    simp at this
    omega
  have hfit := first_fits hbd hne
  have h14 := first_len (x.drop i)
  rw [List.length_drop] at hfit
  rcases hn with ⟨rfl, h1⟩ | ⟨h0, h1, h2⟩
  · rw [h1] at h
    refine Ev.step (f := fun k => flongref02_Decode.l0 k x (o ++ [65533]) ((i + 1 : Nat) : Int)) (fun k => ?_) h
    simp only [flongref02_Decode.j2]
    rw [if_neg (by simp), if_pos (by omega), if_pos ho, wrap_of (by omega) (by omega)]
    rfl
  · have h2' := (validB_iff _).1 h2
    have hcut : (x.take (i + n)).drop i = (x.drop i).take n := by rw [List.drop_take, Nat.add_sub_cancel_left]
    have hv : val ((x.drop i).take n) = (firstRune (x.drop i)).1 := by rw [h1, val_enc h2]
    have hlen : ((x.drop i).take n).length = n := by rw [List.length_take, List.length_drop]; omega
    refine Ev.step (f := fun k => (flongref02_value.f k ((x.drop i).take n)).bind fun t => if o.length < 35184372088832 then flongref02_Decode.l0 k x (o ++ [wrap32 t]) ((i + n : Nat) : Int) else none) (fun k => ?_) ?_
    · simp only [flongref02_Decode.j2]
      rw [if_neg (by simp), if_neg (by omega), wrap_of (x := (i : Int) + (n : Int)) (by omega) (by omega), if_pos (by omega), if_pos (by omega), if_pos (by omega), show ((i : Int) + (n : Int)).toNat = i + n from by omega, Int.toNat_natCast, hcut]
      rfl
    · refine Ev.bind (value_ev _ (bytes_take hbd _) (fun e => by rw [e] at hlen; simp at hlen; omega) (by omega)) (ev_pos ho ?_)
      rw [hv, wrap32_of (by omega) (by omega), h0]
      exact h

theorem rdecode_round (x o : List Int) (i : Nat) (r : List Int) (hb : Bytes x) (hi : i < x.length) (hx : x.length ≤ 1000000000) (ho : o.length < 35184372088832)
    (h : Ev (fun k => flongref02_Decode.l0 k x (o ++ [(firstRune (x.drop i)).1]) ((i + (firstRune (x.drop i)).2 : Nat) : Int)) r) :
    ∀ (d m : Nat), 5 - m = d → 1 ≤ m → m ≤ 5 → (∀ q, 1 ≤ q → q < m → ¬ ((firstRune (x.drop i)).2 = q ∧ (x.drop i).take q = enc (firstRune (x.drop i)).1 ∧ validB (firstRune (x.drop i)).1 = true)) →
      Ev (fun k => flongref02_Decode.l1 k x o (i : Int) 0 (m : Int)) r := by
  have hbd := bytes_drop hb i
  have hne : x.drop i ≠ [] := by
    intro e
    have := congrArg List.length e
    rw [List.length_drop] at this
    simp at this
    omega
  have hfit := first_fits hbd hne
  have h14 := first_len (x.drop i)
  rw [List.length_drop] at hfit
  have hout0 : ∀ m : Nat, (∀ q, 1 ≤ q → q < m → ¬ ((firstRune (x.drop i)).2 = q ∧ (x.drop i).take q = enc (firstRune (x.drop i)).1 ∧ validB (firstRune (x.drop i)).1 = true)) → (4 < m ∨ x.length < i + m) →
      Ev (fun k => flongref02_Decode.j2 k x o (i : Int) ((0 : Nat) : Int) (m : Int) false) r := by
    intro m hno hend
    refine rdecode_out x o i 0 m r hb hi hx ho (.inl ⟨rfl, ?_⟩) h
    rcases first_spec hbd hne with ⟨h1, h2, h3⟩ | h1
    · exact absurd ⟨rfl, h3, h1⟩ (hno _ h14.1 (by omega))
    · exact h1
  intro d
  induction d with
  | zero =>
    intro m hd h1 h5 hno
    obtain rfl : m = 5 := by omega
    refine Ev.step (f := fun k => flongref02_Decode.j2 k x o (i : Int) ((0 : Nat) : Int) ((5 : Nat) : Int) false) (fun k => ?_) (hout0 5 hno (.inl (by omega)))
    simp only [flongref02_Decode.l1]
    rw [if_neg (by omega)]
    rfl
  | succ d ih =>
    intro m hd h1 h5 hno
    by_cases hfitm : i + m ≤ x.length
    · have hcut : (x.take (i + m)).drop i = (x.drop i).take m := by rw [List.drop_take, Nat.add_sub_cancel_left]
      have hlen : ((x.drop i).take m).length = m := by rw [List.length_take, List.length_drop]; omega
      refine Ev.step (f := fun k => flongref02_Decode.j2 k x o (i : Int) 0 (m : Int) true) (fun k => ?_) ?_
      · simp only [flongref02_Decode.l1]
        rw [if_pos (by omega), wrap_of (by omega) (by omega), if_pos (by omega)]
        rfl
      · refine Ev.step (f := fun k => (flongref02_is.f k ((x.drop i).take m)).bind fun t => if t = true then flongref02_Decode.l1 k x o (i : Int) (m : Int) ((m + 1 : Nat) : Int) else flongref02_Decode.l1 k x o (i : Int) 0 ((m + 1 : Nat) : Int)) (fun k => ?_) ?_
        · simp only [flongref02_Decode.j2, if_true]
          rw [wrap_of (x := (i : Int) + (m : Int)) (by omega) (by omega), if_pos (by omega), if_pos (by omega), if_pos (by omega), show ((i : Int) + (m : Int)).toNat = i + m from by omega, Int.toNat_natCast, hcut, wrap_of (x := (m : Int) + 1) (by omega) (by omega)]
          rfl
        · refine Ev.bind (is_ev _ (bytes_take hbd _) (fun e => by rw [e] at hlen; simp at hlen; omega) (by omega)) ?_
          have hat := is_at hbd hne m h1 (by rw [List.length_drop]; omega) (by omega)
          by_cases hq : (firstRune (x.drop i)).2 = m ∧ (x.drop i).take m = enc (firstRune (x.drop i)).1 ∧ validB (firstRune (x.drop i)).1 = true
          · refine ev_pos (decide_eq_true (hat.2 hq)) ?_
            refine Ev.step (f := fun k => flongref02_Decode.j2 k x o (i : Int) (m : Int) ((m + 1 : Nat) : Int) false) (fun k => ?_) (rdecode_out x o i m _ r hb hi hx ho (.inr ⟨hq.1.symm, hq.2⟩) h)
            simp only [flongref02_Decode.l1]
            have hm0 : ((m : Int) == 0) = false := by simp; omega
            rw [hm0]
            split
            · split <;> rfl
            · rfl
          · refine ev_neg (by rw [decide_eq_false (fun z => hq (hat.1 z))]; simp) (ih (m + 1) (by omega) (by omega) (by omega) ?_)
            intro q hq1 hq2
            by_cases e : q = m
            · subst e; exact hq
            · exact hno q hq1 (by omega)
    · refine Ev.step (f := fun k => flongref02_Decode.j2 k x o (i : Int) ((0 : Nat) : Int) (m : Int) false) (fun k => ?_) (hout0 m hno (.inr (by omega)))
      simp only [flongref02_Decode.l1]
      rw [if_pos (by omega), wrap_of (by omega) (by omega), if_neg (by omega)]
      rfl

theorem rdecode_l (x : List Int) (hb : Bytes x) (hx : x.length ≤ 1000000000) : ∀ (d i : Nat) (o : List Int), x.length - i ≤ d → i ≤ x.length → o.length + x.length < 35184372088832 + i → Ev (fun k => flongref02_Decode.l0 k x o (i : Int)) (o ++ decode (x.drop i)) := by
  intro d
  induction d with
  | zero =>
    intro i o hd hi ho
    refine Ev.step (f := fun _ => some o) (fun k => ?_) (ev_eq (Ev.now _) ?_)
    · simp only [flongref02_Decode.l0]
      rw [if_neg (by omega)]
    · rw [List.drop_eq_nil_of_le (by omega)]
      simp [decode_nil]
  | succ d ih =>
    intro i o hd hi ho
    by_cases hlt : i < x.length
    · have hbd := bytes_drop hb i
      have hne : x.drop i ≠ [] := by
        intro e
        have := congrArg List.length e
        rw [List.length_drop] at this
        simp at this
        omega
      have hfit := first_fits hbd hne
      have h14 := first_len (x.drop i)
      rw [List.length_drop] at hfit
      refine Ev.step (f := fun k => flongref02_Decode.l1 k x o (i : Int) 0 ((1 : Nat) : Int)) (fun k => ?_) ?_
      · simp only [flongref02_Decode.l0]
        rw [if_pos (by omega)]
        rfl
      · refine rdecode_round x o i _ hb hlt hx (by omega) (ev_eq (ih (i + (firstRune (x.drop i)).2) (o ++ [(firstRune (x.drop i)).1]) (by omega) (by omega) (by rw [List.length_append, List.length_singleton]; omega)) ?_) 4 1 (by omega) (by omega) (by omega) (fun q h1 h2 => by omega)
        rw [decode_cons hbd hne, List.drop_drop, List.append_assoc]
        rfl
    · refine Ev.step (f := fun _ => some o) (fun k => ?_) (ev_eq (Ev.now _) ?_)
      · simp only [flongref02_Decode.l0]
        rw [if_neg (by omega)]
      · rw [List.drop_eq_nil_of_le (by omega)]
        simp [decode_nil]
theorem rdecode_ev {l : List Int} (hb : Bytes l) (h : l.length ≤ 1000000000) : Ev (fun k => flongref02_Decode.f k l) (decode l) := by
  unfold flongref02_Decode.f
  exact ev_eq (rdecode_l l hb h l.length 0 [] (by omega) (by omega) (by simp; omega)) (by simp)
end Go.Proofs.YtaoiogpgncjolaaDoor.Pure
