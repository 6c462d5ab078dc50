/- HandR: several of this session's texts in one. -/
import Derived.Laws.CopyOwn
import Derived.Test.YtdjepocklmlnbaaDoorVMore
import Derived.Test.YtdjepocklmlnbaaDoorX0
import Derived.OwnWalk
import Derived.Deep.RegionLaw
import Derived.Laws.BitsLemmas
import Derived.Test.YtdjepocklmlnbaaDoorX5
/- 'copy' between slices whose elements have more cells than one: the kit's law (Derived/Laws/CopyOwn.lean) for any size. -/
namespace Go.Proofs.YtdjepocklmlnbaaDoor.Hand
open Go Go.RowKit Go.Proofs.YtdjepocklmlnbaaDoorW.PrintWords Go.Proofs.YtdjepocklmlnbaaDoorW.PrintLast Go.Proofs.YtdjepocklmlnbaaDoorW.PrintMore
set_option linter.unusedSimpArgs false

theorem run_copy_sized (P : Program) (w : World) (dT sT ty elem : TypeId) (size g o dLen dCap : Nat) (a : Addr) (sLen sCap n : Nat) (cur : Array Value) (t : TypeId) (cs : List Value)
    (hu : P.underlying dT = some (.slice elem)) (hs : (P.info? elem).map (·.size) = some size)
    (hg : w.heap[g]? = some (.cells cur t (0, 0))) (hm : n = Nat.min sLen dLen) (hn : cs.length = n * size)
    (hsrc : ∀ j v, cs[j]? = some v → w.cell? (a.add j) = some v) (hfit : o + cs.length ≤ cur.size) (h1 : ∀ v ∈ cs, v.oneCell' = true) :
    (Builtin.copy_ #[dT, sT] ty #[.slice (some ⟨g, o, none⟩) dLen dCap, .slice (some a) sLen sCap]).run P w =
      .ok (goInt n) (w.setRow g (cur.toList.take o ++ cs ++ cur.toList.drop (o + cs.length)).toArray) := by
  have hl := run_loadCells_list (P := P) w a cs hsrc
  have hst := run_storeCells_at P g o t cs 0 cur w hg (by simpa using hfit) h1
  cases hq : P.info? elem with
  | none => simp [hq] at hs
  | some i =>
    have hi : i.size = size := by simpa [hq] using hs
    rw [hn] at hl
    simp [Builtin.copy_, run_underlying hu, Builtin.lenOf, Builtin.firstCells, sizeOf, typeInfo, hq, hi, ← hm, hl, hst]
theorem run_copy_zero (P : Program) (w : World) (dT sT ty elem : TypeId) (size : Nat) (d a : Option Addr) (dLen dCap sLen sCap : Nat) (hu : P.underlying dT = some (.slice elem)) (hs : (P.info? elem).map (·.size) = some size) (hn : Nat.min sLen dLen = 0) :
    (Builtin.copy_ #[dT, sT] ty #[.slice d dLen dCap, .slice a sLen sCap]).run P w = .ok (goInt 0) w := by
  cases hq : P.info? elem with
  | none => simp [hq] at hs
  | some i =>
    have hl : ∀ (x : Addr), (loadCells x 0).run P w = .ok #[] w := fun x => by simpa using run_loadCells_list (P := P) w x [] (by simp)
    cases d <;> cases a <;> simp [Builtin.copy_, run_underlying hu, Builtin.lenOf, Builtin.firstCells, sizeOf, typeInfo, hq, hn, storeCells, hl]

section
variable {P : Program} {w : World} {ops : Array Oper} {rest : List Oper} {o : Oper} {a : Act} {Q : Exit → Act → World → Prop} {K : Act → World → Prop} {E : Prop}
theorem copy_run (size : Nat) (dT sT : TypeId) (elem : TypeId) (hu : P.underlying dT = some (.slice elem)) (hsz : (P.info? elem).map (·.size) = some size)
    (dp sp : Option Addr) (dLen dCap sLen sCap : Nat) (ty : TypeId)
    (g off : Nat) (cur : List Value) (t : TypeId) (hg : w.heap[g]? = some (.cells cur.toArray t (0, 0))) (n : Nat) (hm : n = Nat.min sLen dLen) (cs : List Value) (hn : cs.length = n * size)
    (hpos : 0 < n → dp = some ⟨g, off, none⟩ ∧ ∃ ad, sp = some ad ∧ ∀ j v, cs[j]? = some v → w.cell? (ad.add j) = some v)
    (hfit : off + cs.length ≤ cur.length) (h1 : ∀ v ∈ cs, v.oneCell' = true) (B : Nat) (w0 : World) (hb : Below B w0 w) (hBg : B ≤ g) :
    ∃ w', (Builtin.copy_ #[dT, sT] ty #[.slice dp dLen dCap, .slice sp sLen sCap]).run P w = .ok (goInt n) w' ∧ w'.heap[g]? = some (.cells (splice cur off cs).toArray t (0, 0)) ∧ Below B w0 w' := by
  by_cases h0 : n = 0
  · subst h0
    obtain rfl : cs = [] := List.eq_nil_of_length_eq_zero (by simpa using hn)
    exact ⟨w, run_copy_zero P w dT sT ty elem size dp sp dLen dCap sLen sCap hu hsz (by simpa using hm.symm), by simpa [splice] using hg, hb⟩
  · obtain ⟨rfl, ad, rfl, hsrc⟩ := hpos (by omega)
    exact ⟨_, run_copy_sized P w dT sT ty elem size g off dLen dCap ad sLen sCap n cur.toArray t cs hu hsz hg hm hn hsrc (by simpa using hfit) h1, by simpa [splice] using setRow_heap w g _ _ t _ hg, below_setRow hb hBg _⟩
theorem wpList_copy_sized (hgd : o.guard = none) (d s : Operand) (dT sT : TypeId)
    (ho : o.op = .call { callee := .builtin .copy, args := #[d, s], argTypes := #[dT, sT] }) (size : Nat) (elem : TypeId) (hu : P.underlying dT = some (.slice elem)) (hsz : (P.info? elem).map (·.size) = some size)
    (dp sp : Option Addr) (dLen dCap sLen sCap : Nat) (hd : a.eval d = .slice dp dLen dCap) (hs : a.eval s = .slice sp sLen sCap)
    (g off : Nat) (cur : List Value) (t : TypeId) (hg : w.heap[g]? = some (.cells cur.toArray t (0, 0))) (n : Nat) (hm : n = Nat.min sLen dLen) (cs : List Value) (hn : cs.length = n * size)
    (hpos : 0 < n → dp = some ⟨g, off, none⟩ ∧ ∃ ad, sp = some ad ∧ ∀ j v, cs[j]? = some v → w.cell? (ad.add j) = some v)
    (hfit : off + cs.length ≤ cur.length) (h1 : ∀ v ∈ cs, v.oneCell' = true) (B : Nat) (w0 : World) (hb : Below B w0 w) (hBg : B ≤ g)
    (h : ∀ w', Aside0 (w'.heap[g]? = some (.cells (splice cur off cs).toArray t (0, 0))) → Aside0 (Below B w0 w') → wpList P ops Q rest (a.put o.dst (goInt n)) w') :
    wpList P ops Q (o :: rest) a w := by
  obtain ⟨w', hrun, h2, h3⟩ := copy_run size dT sT elem hu hsz dp sp dLen dCap sLen sCap o.type g off cur t hg n hm cs hn hpos hfit h1 B w0 hb hBg
  refine wpList_plain hgd fun K hK => ?_
  unfold Oper.wp
  simp [execOp, ho, resolve, invoke, builtin, hd, hs, hrun, Result.andThen]
  exact hK _ _ (h w' ⟨h2⟩ ⟨h3⟩)
theorem step_copy_sized (hgd : o.guard = none) (d s : Operand) (dT sT : TypeId)
    (ho : o.op = .call { callee := .builtin .copy, args := #[d, s], argTypes := #[dT, sT] }) (size : Nat) (elem : TypeId) (hu : P.underlying dT = some (.slice elem)) (hsz : (P.info? elem).map (·.size) = some size)
    (dp sp : Option Addr) (dLen dCap sLen sCap : Nat) (hd : a.eval d = .slice dp dLen dCap) (hs : a.eval s = .slice sp sLen sCap)
    (g off : Nat) (cur : List Value) (t : TypeId) (hg : w.heap[g]? = some (.cells cur.toArray t (0, 0))) (n : Nat) (hm : n = Nat.min sLen dLen) (cs : List Value) (hn : cs.length = n * size)
    (hpos : 0 < n → dp = some ⟨g, off, none⟩ ∧ ∃ ad, sp = some ad ∧ ∀ j v, cs[j]? = some v → w.cell? (ad.add j) = some v)
    (hfit : off + cs.length ≤ cur.length) (h1 : ∀ v ∈ cs, v.oneCell' = true) (B : Nat) (w0 : World) (hb : Below B w0 w) (hBg : B ≤ g)
    (h : ∀ w', Aside0 (w'.heap[g]? = some (.cells (splice cur off cs).toArray t (0, 0))) → Aside0 (Below B w0 w') → K (a.put o.dst (goInt n)) w') :
    if Region.wanted o (yielded ops a.tmps) = true then Oper.wp P o a w K Q else E := by
  obtain ⟨w', hrun, h2, h3⟩ := copy_run size dT sT elem hu hsz dp sp dLen dCap sLen sCap o.type g off cur t hg n hm cs hn hpos hfit h1 B w0 hb hBg
  have hw : Region.wanted o (yielded ops a.tmps) = true := by simp [Region.wanted, hgd]
  rw [if_pos hw]
  unfold Oper.wp
  simp [execOp, ho, resolve, invoke, builtin, hd, hs, hrun, Result.andThen]
  exact h w' ⟨h2⟩ ⟨h3⟩
end
end Go.Proofs.YtdjepocklmlnbaaDoor.Hand

/- slices.Repeat of one glyph, walked by hand: the library's own text: a row is made, the glyph is laid at its head, and what is laid is laid behind itself until the row is full. -/
namespace Go.Proofs.YtdjepocklmlnbaaDoor.Hand
open Go.RowKit Go.Proofs.YtdjepocklmlnbaaDoorW.PrintWords Go.Proofs.YtdjepocklmlnbaaDoorW.PrintLast Go.Proofs.YtdjepocklmlnbaaDoorW.PrintMore Go.Proofs.YtdjepocklmlnbaaDoor.X
set_option linter.unusedVariables false
set_option linter.unusedSimpArgs false

def repeat_G.f (l : List S44) (n : Int) : Option (List S44) := if l.length = 1 ∧ 0 ≤ n ∧ n ≤ 65535 then some (List.replicate n.toNat (rd_T44 l 0)) else none

theorem mul_one {n : Int} (h0 : 0 ≤ n) (h1 : n ≤ 65535) : bits_Mul.f 1 n = some (0, n) := by
  have hw : ∀ x : Int, 0 ≤ x → x ≤ 18446744073709551615 → IntKind.u64.wrap x = x := by
    intro x hx hx1
    rw [IntKind.wrap_u64]
    omega
  have hm : Go.bits .and .u64 n 4294967295 = n := by
    have h := bits_mask .u64 64 (by decide) (fun x a b => hw x a (by omega)) 32 (by decide) n h0 (by omega)
    have e : (2 : Int) ^ 32 - 1 = 4294967295 := by decide
    have e2 : (2 : Int) ^ 32 = 4294967296 := by decide
    rw [e, e2] at h
    rw [h]
    omega
  have h11 : Go.bits .and .u64 1 4294967295 = 1 := by decide +kernel
  unfold bits_Mul.f bits_Mul64.f
  have d1 : n / 4294967296 = 0 := by omega
  simp only [hm, h11, d1, show (1 : Int) / 4294967296 = 0 from by decide, show (0 : Int) / 4294967296 = 0 from by decide, Int.zero_mul, Int.mul_zero, Int.one_mul, Int.zero_add, Int.add_zero, hw 0 (by omega) (by omega), hw n h0 (by omega), Option.bind_some, show Go.bits .and .u64 0 4294967295 = 0 from by decide +kernel]

/-- Cell by cell, a row of one glyph. -/
def cellOf (x : S44) (j : Nat) : Value := if j % 2 = 0 then .int .i32 x.f0 else .int .u8 x.f1
def cellsOf (x : S44) (m : Nat) : List Value := (List.range m).map (cellOf x)
theorem cellsOf_length (x : S44) (m : Nat) : (cellsOf x m).length = m := by simp [cellsOf]
theorem cellsOf_get (x : S44) (m j : Nat) (v : Value) (h : (cellsOf x m)[j]? = some v) : j < m ∧ v = cellOf x j := by
  unfold cellsOf at h
  rw [List.getElem?_map, Option.map_eq_some_iff] at h
  obtain ⟨i, hi, rfl⟩ := h
  obtain ⟨hlt, e⟩ := List.getElem?_eq_some_iff.1 hi
  simp at hlt e
  exact ⟨hlt, by rw [e]⟩
theorem cellsOf_one (x : S44) (m : Nat) : ∀ v ∈ cellsOf x m, v.oneCell' = true := by
  intro v hv
  obtain ⟨j, _, rfl⟩ := List.mem_map.1 hv
  unfold cellOf
  split <;> rfl
/-- The row's first m elements are laid. -/
def LaidTo (x : S44) (cur : List Value) (m : Nat) : Prop := ∀ j, j < 2 * m → cur[j]? = some (cellOf x j)
theorem LaidTo.splice {x : S44} {cur : List Value} {m k : Nat} (h : LaidTo x cur m) (hm : 2 * (m + k) ≤ cur.length) : LaidTo x (splice cur (2 * m) (cellsOf x (2 * k))) (m + k) := by
  intro j hj
  unfold Go.splice
  by_cases h1 : j < 2 * m
  · rw [List.getElem?_append_left (by rw [List.length_take]; omega), List.getElem?_take_of_lt h1]
    exact h j h1
  · rw [List.getElem?_append_right (by rw [List.length_take]; omega), List.length_take, Nat.min_eq_left (by omega), List.getElem?_append_left (by rw [cellsOf_length]; omega)]
    unfold cellsOf
    rw [List.getElem?_map, List.getElem?_range (by omega), Option.map_some]
    unfold cellOf
    rw [show (j - 2 * m) % 2 = j % 2 by omega]
theorem LaidTo.row {x : S44} {cur : List Value} {n : Nat} (h : LaidTo x cur n) (hl : cur.length = n * 2) (w : World) (g base : Nat) (hb : base ≤ g) (hn : n ≤ 65535) (hg : w.heap[g]? = some (.cells cur.toArray 44 (0, 0))) :
    Kd.R k44 44 w base (fun _ => True) (.slice (some ⟨g, 0, none⟩) n n) (List.replicate n x) := by
  refine ⟨fun _ _ => trivial, cur, ⟨by rw [List.length_replicate, hl]; rfl, .inr ⟨g, n, cur.toArray, by rw [List.length_replicate], hb, hg, by rw [List.length_replicate]; omega, by unfold maxLen; omega, by show cur.toArray.size = n * 2; simpa using hl, ?_⟩⟩, ?_⟩
  · rw [List.length_replicate]
    exact List.take_of_length_le (by rw [hl]; exact Nat.le_refl _)
  · refine ⟨by rw [List.length_replicate]; exact hl, fun j p hp => ?_⟩
    obtain ⟨hj, e⟩ := List.getElem?_eq_some_iff.1 hp
    rw [List.length_replicate] at hj
    rw [List.getElem_replicate] at e
    subst e
    have e : (cur.drop (j * 2)).take 2 = [.int .i32 x.f0, .int .u8 x.f1] := by
      apply List.ext_getElem?
      intro i
      rw [List.getElem?_take, List.getElem?_drop]
      by_cases h0 : i = 0
      · subst h0
        rw [if_pos (by omega), h (j * 2 + 0) (by omega)]
        unfold cellOf
        rw [if_pos (by omega)]
        rfl
      · by_cases h1 : i = 1
        · subst h1
          rw [if_pos (by omega), h (j * 2 + 1) (by omega)]
          unfold cellOf
          rw [if_neg (by omega)]
          rfl
        · rw [if_neg (by omega)]
          symm
          apply List.getElem?_eq_none
          simp only [List.length_cons, List.length_nil]
          omega
    show k44.M w base _ x ((cur.drop (j * 2)).take 2)
    rw [e]
    exact k44_mkM w base _ x

def repeat_G.T9 : Bool × List (List Nat × List Nat) := (true, [([], []), ([], []), ([], []), ([1, 2], [1, 2]), ([], []), ([], []), ([4, 5], [4, 5]), ([3, 6], [3, 6]), ([0, 7], [0, 7]), ([8, 7, 0, 1, 2, 3, 4, 5, 6, 7, 8], [0, 2, 5, 8])])
def repeat_G.B9 : List Nat := [0, 0, 0, 6, 0, 0, 48, 126, 255, 511]
theorem repeat_G.tab9 : rtab .any (opsOf Tryd.f81 9) = repeat_G.T9 := by kernel_rfl
theorem repeat_G.bits9 : waitsOk repeat_G.T9.2 repeat_G.B9 = true := by kernel_rfl
set_option maxHeartbeats 8000000 in
set_option maxRecDepth 100000 in
theorem repeat_G.calls (A0 : Option Addr) (c0 : Nat) (l0 : List (S44)) (a1 : Int) (r : List (S44)) (w : World) (hr0 : Kd.C k44 w A0 l0.length l0) (hc0 : l0.length ≤ c0) (h : repeat_G.f l0 a1 = some r) :
    Calls Tryd.prog 81 #[.slice A0 l0.length c0, .int .i64 a1] w fun e w' => ∃ v0_ : Value, e = .returned (v0_) ∧ Kd.R k44 44 w' w.heap.size (fun _ => True) v0_ r ∧ Below w.heap.size w w' := by
  unfold repeat_G.f at h
  split at h
  · rename_i hl
    obtain ⟨hl1, h0, h1⟩ := hl
    obtain rfl := Option.some.inj h
    clear h
    obtain ⟨ad, e, hx0, hx1⟩ := at_T44 hr0 0 (by omega) (by omega)
    generalize rd_T44 l0 0 = x at hx0 hx1 ⊢
    subst e
    have HX : Aside0 (∀ j, j < 2 → w.cell? (ad.add j) = some (cellOf x j)) := ⟨fun j hj => by
      rcases (show j = 0 ∨ j = 1 by omega) with rfl | rfl
      · simpa [cellOf] using hx0
      · have : ad.add 1 = ⟨(ad.add ((0 : Int).toNat * 2)).block, (ad.add ((0 : Int).toNat * 2)).off + 1, none⟩ := by simp [Addr.add]
        rw [this]
        simpa [cellOf] using hx1⟩
    clear hx0 hx1 hr0
    obtain ⟨N, rfl⟩ := Int.eq_ofNat_of_zero_le h0
    have hN : N ≤ 65535 := by omega
    simp only [Int.toNat_natCast]
    have hmul := mul_one h0 h1
    have HM := Aside0.mk hmul
    clear hmul
    have wn : IntKind.u64.wrap (N : Int) = (N : Int) := by rw [IntKind.wrap_u64]; omega
    have wi : IntKind.i64.wrap (N : Int) = (N : Int) := by rw [IntKind.wrap_i64]; omega
    have w1 : IntKind.u64.wrap ((l0.length : Nat) : Int) = 1 := by rw [hl1]; decide
    have hlt : ¬ ((N : Int) < 0) := by omega
    have hgt : ¬ ((N : Int) > 9223372036854775807) := by omega
    obtain ⟨i0, hi0, hz0, hz1, hz2⟩ := info_parts info44
    go_enter Tryd.func81, Tryd.ntmps81
    go_wp2_with (first | (go_at_call 86; refine (bits_Mul.calls 1 (N : Int) 0 (N : Int) _ HM.out).mono ?_; rintro e w' ⟨rfl, ⟨nd, rfl⟩⟩) | ((with_reducible refine gate_dst (N := 30) rfl ?_); refine wpList_make_full _ rfl (.tmp 29) (.tmp 29) 33 rfl w.heap.size 44 i0 (.agg #[(.int .i32 0), (.int .u8 0)]) 2 Tryd.underlying33 hi0 hz0 hz1 .i64 .i64 (N : Int) (N : Int) N rfl rfl rfl rfl ?b2 ?b3 ?b4 ?_))
    case b2 => rw [hz2]; omega
    case b3 => unfold maxLen; omega
    case b4 => exact Nat.le_refl _
    intro w1 hown hgr
    have HB := Aside0.mk ((pw_below_drewN (Below.refl w.heap.size w) nd).grown hgr (Nat.le_refl _) (by intro k hk; cases hk))
    obtain ⟨cur, hcur, hcl⟩ : ∃ cur : List Value, w1.heap[w.heap.size]? = some (.cells cur.toArray 44 (0, 0)) ∧ cur.length = N * 2 := by
      rcases hown.2 with ⟨hv, _⟩ | ⟨g, cap, cu, hv, hg1, hg2, _, _, hsz, _⟩
      · cases hv
      · injection hv with hv1 hv2 hv3
        injection hv1 with hv1
        injection hv1 with hv1
        subst hv1
        subst hv3
        exact ⟨cu.toList, by simpa using hg2, by simpa using hsz⟩
    clear hown hgr
    have HC := Aside0.mk hcur
    have HL := Aside0.mk hcl
    clear hcur hcl
    have hsz : (Tryd.prog.info? 44).map (·.size) = some 2 := by rw [hi0]; simp [hz1]
    obtain ⟨m0, hm0⟩ : ∃ m0 : Nat, m0 = Nat.min 1 N := ⟨_, rfl⟩
    have HM0 := Aside0.mk hm0
    clear hm0
    go_wp2_with ((with_reducible refine gate_dst (N := 33) rfl ?_); refine wpList_copy_sized rfl (.tmp 31) (.tmp 32) 33 33 rfl 2 44 Tryd.underlying33 hsz _ _ _ _ _ _ rfl rfl w.heap.size 0 cur 44 HC.out m0 HM0.out (cellsOf x (2 * m0)) (by rw [cellsOf_length]; omega) ?pos ?fit (cellsOf_one _ _) w.heap.size w HB.out (Nat.le_refl _) ?_)
    case pos =>
      intro hp j v hj
      obtain ⟨h1, rfl⟩ := cellsOf_get _ _ _ _ hj
      have h2 : Nat.min 1 N ≤ 1 := Nat.min_le_left _ _
      have h3 := HM0.out
      exact pw_cell_below HB.out (HX.out j (by omega))
    case fit =>
      have h3 := HM0.out
      have h2 : Nat.min 1 N ≤ N := Nat.min_le_right _ _
      rw [cellsOf_length, HL.out]
      omega
    intro w2 HC2 HB2
    clear HC HB
    go_wp2
    have HI : Aside0 (N - m0 ≤ N ∧ m0 ≤ N ∧ (m0 = 0 → N = 0) ∧ (Go.splice cur 0 (cellsOf x (2 * m0))).length = N * 2 ∧ LaidTo x (Go.splice cur 0 (cellsOf x (2 * m0))) m0) := by
      have h3 := HM0.out
      have h2 : Nat.min 1 N ≤ N := Nat.min_le_right _ _
      have h4 : Nat.min 1 N = 0 → N = 0 := by
        intro h
        rcases Nat.eq_zero_or_pos N with h5 | h5
        · exact h5
        · rw [show Nat.min 1 N = 1 from Nat.min_eq_left h5] at h
          cases h
      have hs := LaidTo.splice (x := x) (cur := cur) (m := 0) (k := m0) (fun j hj => by omega) (by rw [HL.out]; omega)
      rw [Nat.zero_add] at hs
      exact ⟨⟨by omega, by omega, by rw [h3]; exact h4, by rw [length_splice _ _ _ (by rw [cellsOf_length, HL.out]; omega)]; exact HL.out, hs⟩⟩
    go_loopg [8] N (fun kq v8 w' => ∃ (m : Nat) (cu : List Value), v8 = .int .i64 m ∧ Aside0 (N - m ≤ kq ∧ m ≤ N ∧ (m = 0 → N = 0) ∧ cu.length = N * 2 ∧ LaidTo x cu m) ∧ Aside0 (w'.heap[w.heap.size]? = some (.cells cu.toArray 44 (0, 0))) ∧ Aside0 (Below w.heap.size w w'))
    case atStart => exact ⟨m0, _, rfl, HI, HC2, HB2⟩
    case round =>
      clear HI HC2 HB2 HL
      obtain ⟨m, cu, rfl, HI, HC, HB⟩ := hrel
      by_cases hlt : m < N
      · have c1 : decide ((m : Int) < (N : Int)) = true := decide_eq_true (by omega)
        have c2 : (m : Int) ≤ (N : Int) := by omega
        have c3 : ¬ (N = m) := by omega
        have c4 : (0 : Int) ≤ (m : Int) := by omega
        go_wp2_with (fail)
        obtain ⟨kk, hkk⟩ : ∃ kk : Nat, kk = Nat.min m (N - m) := ⟨_, rfl⟩
        have hk1 : kk ≤ m := by rw [hkk]; exact Nat.min_le_left _ _
        have hk2 : kk ≤ N - m := by rw [hkk]; exact Nat.min_le_right _ _
        have hk3 : m ≠ 0 → kk ≠ 0 := by
          intro h
          rw [hkk]
          intro e
          rcases Nat.le_total m (N - m) with h5 | h5
          · rw [show Nat.min m (N - m) = m from Nat.min_eq_left h5] at e
            omega
          · rw [show Nat.min m (N - m) = N - m from Nat.min_eq_right h5] at e
            omega
        have HP : Aside0 (0 < kk → (some ⟨w.heap.size, m * 2, none⟩ : Option Addr) = some ⟨w.heap.size, m * 2, none⟩ ∧ ∃ ad : Addr, (some ⟨w.heap.size, 0, none⟩ : Option Addr) = some ad ∧ ∀ j v, (cellsOf x (2 * kk))[j]? = some v → wr.drew.cell? (ad.add j) = some v) := ⟨fun _ => ⟨rfl, _, rfl, fun j v hj => by
          obtain ⟨h5, rfl⟩ := cellsOf_get _ _ _ _ hj
          have h6 := HI.out.2.2.2.2 j (by omega)
          rw [Addr.add_lit, Nat.zero_add]
          unfold World.cell?
          rw [show wr.drew.heap = wr.heap from rfl, HC.out]
          simpa using h6⟩⟩
        have HF : Aside0 (m * 2 + (cellsOf x (2 * kk)).length ≤ cu.length) := ⟨by rw [cellsOf_length, HI.out.2.2.2.1]; omega⟩
        have HN : Aside0 ((cellsOf x (2 * kk)).length = kk * 2) := ⟨by rw [cellsOf_length]; omega⟩
        have HCd : Aside0 (wr.drew.heap[w.heap.size]? = some (.cells cu.toArray 44 (0, 0))) := ⟨HC.out⟩
        have HBd : Aside0 (Below w.heap.size w wr.drew) := ⟨below_drew HB.out⟩
        have HK : Aside0 (kk = Nat.min m (N - m)) := ⟨hkk⟩
        clear hkk
        have hcutA := cut_from (P := Tryd.prog) 33 44 .i64 Tryd.underlying33 hi0 2 hz1 (some ⟨w.heap.size, 0, none⟩) N N (m : Int) (by omega) (by omega)
        have hcutB := cut_to (P := Tryd.prog) 33 44 .i64 Tryd.underlying33 hi0 (some ⟨w.heap.size, 0, none⟩) N N (m : Int) (by omega) (by omega) (Nat.le_refl _)
        rw [if_neg (by rw [Int.toNat_natCast]; omega)] at hcutA
        simp only [Int.toNat_natCast, Option.map_some, Addr.add_lit, Nat.zero_add] at hcutA hcutB
        refine start_ (n := 10) (S := fun w' => True) (ds := []) #[false, false, false, false, false, false, false, false, false, false] (by kernel_rfl) rfl rfl trivial (fun hHeld => ?_)
        refine with_tabW repeat_G.tab9 repeat_G.bits9 (fun HT_ HW_ => ?_)
        generalize wr.drew = w20 at HP HCd HBd hHeld ⊢
        refine pure_ (i := 0) (N := some 38) (v := ?_) (a' := ?_) #[true, false, false, false, false, false, false, false, false, false] rfl rfl (any_of HT_.out (by kernel_rfl)) (fun _ _ _ h => h) (Or.inl ⟨by rfl, ?_⟩) ?_ ?_
        rotate_left
        · intro w'
          go_simp
          with_reducible rfl
        rotate_left
        · simp only [Act.put, List.setIfInBounds_toArray, List.set_cons_zero, List.set_cons_succ, i64_w, i32_w]
          rfl
        refine pure_ (i := 1) (N := some 39) (v := ?_) (a' := ?_) #[true, true, false, false, false, false, false, false, false, false] rfl rfl (any_of HT_.out (by kernel_rfl)) (fun _ _ _ h => h) (Or.inl ⟨by rfl, ?_⟩) ?_ ?_
        rotate_left
        · intro w'
          go_simp
          with_reducible rfl
        rotate_left
        · simp only [Act.put, List.setIfInBounds_toArray, List.set_cons_zero, List.set_cons_succ, i64_w, i32_w]
          rfl
        refine pure_ (i := 2) (N := some 40) (v := ?_) (a' := ?_) #[true, true, true, false, false, false, false, false, false, false] rfl rfl (any_of HT_.out (by kernel_rfl)) (fun _ _ _ h => h) (Or.inl ⟨by rfl, ?_⟩) ?_ ?_
        rotate_left
        · intro w'
          go_simp
          with_reducible rfl
        rotate_left
        · simp only [Act.put, List.setIfInBounds_toArray, List.set_cons_zero, List.set_cons_succ, i64_w, i32_w]
          rfl
        refine pure_ (i := 3) (N := some 41) (v := ?_) (a' := ?_) #[true, true, true, true, false, false, false, false, false, false] rfl rfl (any_of HT_.out (by kernel_rfl)) (fun _ _ _ h => h) (Or.inl ⟨by rfl, ?_⟩) ?_ ?_
        rotate_left
        · intro w'
          go_simp
          with_reducible rfl
        rotate_left
        · simp only [Act.put, List.setIfInBounds_toArray, List.set_cons_zero, List.set_cons_succ, i64_w, i32_w]
          rfl
        refine pure_ (i := 4) (N := some 42) (v := ?_) (a' := ?_) #[true, true, true, true, true, false, false, false, false, false] rfl rfl (any_of HT_.out (by kernel_rfl)) (fun _ _ _ h => h) (Or.inl ⟨by rfl, ?_⟩) ?_ ?_
        rotate_left
        · intro w'
          go_simp
          with_reducible rfl
        rotate_left
        · simp only [Act.put, List.setIfInBounds_toArray, List.set_cons_zero, List.set_cons_succ, i64_w, i32_w]
          rfl
        refine pure_ (i := 5) (N := some 43) (v := ?_) (a' := ?_) #[true, true, true, true, true, true, false, false, false, false] rfl rfl (any_of HT_.out (by kernel_rfl)) (fun _ _ _ h => h) (Or.inl ⟨by rfl, ?_⟩) ?_ ?_
        rotate_left
        · intro w'
          go_simp
          with_reducible rfl
        rotate_left
        · simp only [Act.put, List.setIfInBounds_toArray, List.set_cons_zero, List.set_cons_succ, i64_w, i32_w]
          rfl
        refine pure_ (i := 6) (N := some 44) (v := ?_) (a' := ?_) #[true, true, true, true, true, true, true, false, false, false] rfl rfl (any_of HT_.out (by kernel_rfl)) (fun _ _ _ h => h) (Or.inl ⟨by rfl, ?_⟩) ?_ ?_
        rotate_left
        · intro w'
          go_simp
          with_reducible rfl
        rotate_left
        · simp only [Act.put, List.setIfInBounds_toArray, List.set_cons_zero, List.set_cons_succ, i64_w, i32_w]
          rfl
        refine one_ (i := 7) (N := some 45) #[true, true, true, true, true, true, true, true, false, false] rfl rfl (one_of HT_.out (by kernel_rfl)) (by decide) (fun K hK => ?_)
        refine step_copy_sized rfl (.tmp 41) (.tmp 44) 33 33 rfl 2 44 Tryd.underlying33 hsz (some ⟨w.heap.size, m * 2, none⟩) (some ⟨w.heap.size, 0, none⟩) (N - m) (N - m) m N rfl rfl w.heap.size (m * 2) cu 44 HCd.out kk HK.out (cellsOf x (2 * kk)) HN.out HP.out HF.out (cellsOf_one _ _) w.heap.size w HBd.out (Nat.le_refl _) ?_
        intro w3 HC3 HB3
        refine hK.out _ _ trivial (fun hHeld => ?_)
        clear hK K
        refine norm_ (a' := ?_) ?_ ?_
        rotate_left
        · show Act.put _ (some 45) _ = _
          simp only [Act.put, List.setIfInBounds_toArray, List.set_cons_zero, List.set_cons_succ, i64_w, i32_w]
          rfl
        have wk : IntKind.i64.wrap ((m : Int) + (kk : Int)) = ((m + kk : Nat) : Int) := by rw [IntKind.wrap_i64]; have := HI.out.2.1; omega
        refine pure_ (i := 8) (N := some 46) (v := ?_) (a' := ?_) #[true, true, true, true, true, true, true, true, true, false] rfl rfl (any_of HT_.out (by kernel_rfl)) (fun _ _ _ h => h) (Or.inl ⟨by rfl, ?_⟩) ?_ ?_
        rotate_left
        · intro w'
          go_simp
          with_reducible rfl
        rotate_left
        · simp only [Act.put, List.setIfInBounds_toArray, List.set_cons_zero, List.set_cons_succ, i64_w, i32_w]
          rfl
        refine pure_ (i := 9) (N := some 8) (v := ?_) (a' := ?_) #[true, true, true, true, true, true, true, true, true, true] rfl rfl (any_of HT_.out (by kernel_rfl)) (fun _ _ _ h => h) (Or.inl ⟨by rfl, ?_⟩) ?_ ?_
        rotate_left
        · intro w'
          go_simp
          with_reducible rfl
        rotate_left
        · simp only [Act.put, List.setIfInBounds_toArray, List.set_cons_zero, List.set_cons_succ, i64_w, i32_w]
          rfl
        refine done_ (done_of HT_.out (by kernel_rfl)) ?_
        try go_wp2
        obtain ⟨k1, rfl⟩ : ∃ k1, gk = k1 + 1 := ⟨gk - 1, by have := HI.out.1; omega⟩
        go_roundg k1
        case measure => omega
        case rel =>
          obtain ⟨i1, i2, i3, i4, i5⟩ := HI.out
          have hm : m ≠ 0 := fun e => by have := i3 e; omega
          have hk := hk3 hm
          refine ⟨m + kk, _, by first | rfl | (simp; done), ⟨by omega, by omega, by omega, ?_, ?_⟩, HC3, HB3⟩
          · rw [length_splice _ _ _ HF.out]
            exact i4
          · rw [Nat.mul_comm m 2]
            exact LaidTo.splice i5 (by omega)
      · have c1 : decide ((m : Int) < (N : Int)) = false := decide_eq_false (by omega)
        obtain rfl : m = N := by have := HI.out.2.1; omega
        go_wp2
        go_ret
        exact ⟨_, rfl, LaidTo.row HI.out.2.2.2.2 HI.out.2.2.2.1 _ _ _ (Nat.le_refl _) hN HC.out, HB.out⟩
  · cases h
end Go.Proofs.YtdjepocklmlnbaaDoor.Hand
