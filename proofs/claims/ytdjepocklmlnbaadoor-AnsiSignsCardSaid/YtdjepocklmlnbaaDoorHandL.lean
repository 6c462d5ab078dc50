/- HandL: several of this session's texts in one. -/
import Derived.Test.YtdjepocklmlnbaaDoorHandA
import Derived.ArgAppend
import Derived.Deep.AppendSrc
import Derived.Deep.Upon
import Derived.Lib.Builder
import Derived.Test.YtdjepocklmlnbaaDoorHandW
import Derived.Test.YtdjepocklmlnbaaDoorX2
import Derived.Test.YtdjepocklmlnbaaDoorX4
import Derived.Test.YtdjepocklmlnbaaDoorX5
/- append(x, b...) where x is what []byte(s) has made: by its run, the row's mark standing behind its cells. -/
namespace Go.Proofs.YtdjepocklmlnbaaDoor.Hand
open Go Go.RowKit Go.Proofs.YtdjepocklmlnbaaDoorW.PrintWords Go.Proofs.YtdjepocklmlnbaaDoorW.PrintLast Go.Proofs.YtdjepocklmlnbaaDoorW.PrintMore
set_option linter.unusedVariables false
set_option linter.unusedSimpArgs false
section
variable {P : Program} {ops : Array Oper} {Q : Exit → Act → World → Prop}
theorem gate_append {rest : List Oper} {o : Oper} {a : Act} {W : World} {t : TypeId} {x y : Operand} (_ho : o.op = .call { callee := .builtin .append, args := #[x, y], argTypes := #[t, t] }) (h : wpList P ops Q (o :: rest) a W) : wpList P ops Q (o :: rest) a W := h
theorem appL_ {rest : List Oper} {oi : Oper} {a : Act} {w : World} (N : Option Tmp) (hd : oi.dst = N) (hg : oi.guard = none) {t : TypeId} {x y : Operand} (vx vy : Value) (hop : oi.op = .call { callee := .builtin .append, args := #[x, y], argTypes := #[t, t] }) (hx : a.eval x = vx) (hy : a.eval y = vy)
    (h : ∃ v' w', (Builtin.append_ #[t, t] oi.type #[vx, vy]).run P w = .ok v' w' ∧ wpList P ops Q rest (a.put N v') w') : wpList P ops Q (oi :: rest) a w := by
  obtain ⟨v', w', hrun, hk⟩ := h
  refine wpList_plain hg fun K hK => ?_
  unfold Oper.wp
  subst hd
  simp [execOp, hop, resolve, invoke, builtin, hx, hy, hrun, Result.andThen]
  exact hK _ _ hk
end
/-- What []byte(s) has made: a row in block g, its mark behind its cells. -/
structure ConvRow (T : TypeId) (g m : Nat) (xs : List Int) (W : World) : Prop where
  cells : ∃ cs : Array Value, W.heap[g]? = some (.cells cs T (m, m + 1)) ∧ cs.size = m ∧ ∀ (j : Nat) (p : Int), xs[j]? = some p → cs[j]? = some (Value.int .u8 p)
  le : xs.length ≤ m
theorem ConvRow.start (s : ByteArray) (w : World) (T : TypeId) : ConvRow T w.heap.size (grownCap w s.size 0 T) (bytesOf s) (Lib.bytesWorld w T s) := by
  have hge := grownCap_ge w s.size 0 T
  have hsz : (Lib.bytesCells w T s).size = grownCap w s.size 0 T := by
    simp [Lib.bytesCells]
    omega
  have hn := Lib.bytesWorld_at_new w T s
  rw [hsz] at hn
  refine ⟨⟨_, hn, hsz, fun j p hp => ?_⟩, by rw [bytesOf_length]; exact hge⟩
  have hj : j < s.data.toList.length := by
    have := (List.getElem?_eq_some_iff.1 hp).1
    simpa [bytesOf] using this
  simp [bytesOf, List.getElem?_eq_getElem hj] at hp
  have hj' : j < s.data.size := by simpa using hj
  have hj2 : j < s.size := hj'
  simp [Lib.bytesCells, Array.getElem?_append, hj2, Array.getElem?_eq_getElem hj', hp]
theorem ConvRow.below {T : TypeId} {g m : Nat} {xs : List Int} {W W' : World} (h : ConvRow T g m xs W) (hb : Below W.heap.size W W') : ConvRow T g m xs W' := by
  obtain ⟨⟨cs, h1, h2, h3⟩, h4⟩ := h
  exact ⟨⟨cs, blk_below h1 hb, h2, h3⟩, h4⟩
theorem below_setCells {B : Nat} {a w : World} (g : Nat) (hg : B ≤ g) : ∀ (vs : List Value) (o : Nat) (w : World), Below B a w → Below B a (w.setCells g o vs)
  | [], _, _, h => h
  | v :: r, o, w, h => below_setCells (w := w) g hg r (o + 1) _ (h.setCell (p := ⟨g, o, none⟩) hg v)
/-- Bytes that lie in a row of memory are read. -/
theorem C_of_cells {W : World} {g : Nat} {xs : List Int} (hm : xs.length ≤ 9223372036854775807) (h : ∀ (j : Nat) (p : Int), xs[j]? = some p → W.cell? ⟨g, j, none⟩ = some (.int .u8 p)) : Kd.C (Kd.int .u8) W (some ⟨g, 0, none⟩) xs.length xs := by
  refine ⟨rfl, hm, fun _ => ⟨_, rfl, fun j p hp => ⟨[.int .u8 p], rfl, rfl, fun i u hu => ?_⟩⟩⟩
  have hi : i = 0 := by
    have := (List.getElem?_eq_some_iff.1 hu).1
    simp at this
    exact this
  subst hi
  simp at hu
  subst hu
  rw [add_plain]
  show W.cell? ⟨g, j * 1 + 0, none⟩ = _
  rw [show j * 1 + 0 = j from by omega]
  exact h j p hp
theorem ConvRow.cell {T : TypeId} {g m : Nat} {xs : List Int} {W : World} (h : ConvRow T g m xs W) (j : Nat) : (j < m → (W.cell? ⟨g, j, none⟩).isSome = true ∧ W.frozen? ⟨g, j, none⟩ = false) ∧ ∀ p, xs[j]? = some p → W.cell? ⟨g, j, none⟩ = some (.int .u8 p) := by
  obtain ⟨⟨cs, h1, h2, h3⟩, h4⟩ := h
  have hc : W.cell? ⟨g, j, none⟩ = cs[j]? := by simp [World.cell?, h1]
  refine ⟨fun hj => ⟨?_, ?_⟩, fun p hp => hc.trans (h3 j p hp)⟩
  · rw [hc, Array.getElem?_eq_getElem (by omega)]
    rfl
  · simp [World.frozen?, h1]
    omega
theorem append_conv {g m : Nat} {xs : List Int} {W : World} (h : ConvRow 5 g m xs W) {A1 : Option Addr} {l1 : List Int} (c1 : Nat) (hr : Kd.C (Kd.int .u8) W A1 l1.length l1) (hmax : xs.length + l1.length ≤ 1000000) (ty : TypeId) :
    ∃ v' w', (Builtin.append_ #[22, 22] ty #[.slice (some ⟨g, 0, none⟩) xs.length m, .slice A1 l1.length c1]).run Tryd.prog W = .ok v' w' ∧ ∃ A c, v' = .slice A (xs ++ l1).length c ∧ (xs ++ l1).length ≤ c ∧ Kd.C (Kd.int .u8) w' A (xs ++ l1).length (xs ++ l1) ∧ ∀ B, B ≤ g → B ≤ W.heap.size → Below B W w' := by
  have hib : (Tryd.prog.info? 5).map (fun i => (i.zero, i.size, i.bytes)) = some (some (.int .u8 0), 1, 1) := by kernel_rfl
  obtain ⟨i, hi, hz0, hz1, hz2⟩ := info_parts hib
  have ht := Tryd.underlying22
  by_cases h0 : l1 = []
  · subst h0
    have hs : Src Tryd.prog i.size 22 (.slice A1 0 c1) 0 [] W := by
      cases A1 with
      | none => exact Src.ofNil W ht c1
      | some a => exact Src.ofSlice W ht a 0 c1 [] (by simp) (by simp) (by simp)
    refine ⟨_, _, run_append_nothing (P := Tryd.prog) W 22 22 ty 5 i ht hi (some ⟨g, 0, none⟩) xs.length m h.le _ hs, _, _, by rw [List.append_nil], by rw [List.append_nil]; exact h.le, ?_, fun B _ _ => Below.refl _ _⟩
    rw [List.append_nil]
    exact C_of_cells (by omega) (fun j p hp => (h.cell j).2 p hp)
  · have hpos : 0 < l1.length := List.length_pos_iff.2 h0
    obtain ⟨ad, rfl, -⟩ := Kd.at_int hr 0 (by omega) (by omega)
    have hnews : ∀ (j : Nat) (u : Value), (l1.map fun n => Value.int .u8 n)[j]? = some u → W.cell? (ad.add j) = some u := by
      intro j u hu
      have hj : j < l1.length := by
        have := (List.getElem?_eq_some_iff.1 hu).1
        simpa using this
      obtain ⟨ad', e', hc⟩ := Kd.at_int hr (j : Int) (by omega) (by omega)
      obtain rfl := Option.some.inj e'
      rw [Int.toNat_natCast] at hc
      rw [hc]
      simp [List.getElem?_eq_getElem hj] at hu
      rw [← hu]
      simp [rd, List.getD_eq_getElem?_getD, List.getElem?_eq_getElem hj]
    have h1 : ∀ u ∈ (l1.map fun n => Value.int .u8 n), u.oneCell' = true := by
      intro u hu
      obtain ⟨n, _, rfl⟩ := List.mem_map.1 hu
      rfl
    have hlen : (xs ++ l1).length = xs.length + l1.length := List.length_append
    by_cases hroom : xs.length + l1.length ≤ m
    · have hrun := run_append_room_cells (P := Tryd.prog) W 22 ty 5 i ht hi g 0 xs.length m ad l1.length c1 (l1.map fun n => Value.int .u8 n) (by rw [List.length_map, hz1, Nat.mul_one]) hnews h1 hroom
        (fun j hj => by
          rw [List.length_map] at hj
          exact ((h.cell _).1 (by rw [hz1]; omega)).1)
        (fun j hj => by
          rw [List.length_map] at hj
          exact ((h.cell _).1 (by rw [hz1]; omega)).2)
      refine ⟨_, _, hrun, _, _, by rw [hlen], by rw [hlen]; exact hroom, ?_, fun B hB _ => below_setCells (w := W) g hB _ _ _ (Below.refl _ _)⟩
      refine C_of_cells (by omega) (fun j p hp => ?_)
      rw [show 0 + xs.length * i.size = xs.length from by rw [hz1]; omega]
      by_cases hj : j < xs.length
      · rw [World.cell?_setCells_out g _ _ W _ (fun _ _ => .inl hj)]
        rw [List.getElem?_append_left hj] at hp
        exact (h.cell j).2 p hp
      · rw [List.getElem?_append_right (by omega)] at hp
        have hj2 := (List.getElem?_eq_some_iff.1 hp).1
        have hin := World.cell?_setCells_in g (l1.map fun n => Value.int .u8 n) xs.length W (fun k hk => ((h.cell _).1 (by rw [List.length_map] at hk; omega)).1) (j - xs.length) (by rw [List.length_map]; exact hj2)
        rw [show xs.length + (j - xs.length) = j from by omega] at hin
        rw [hin]
        rw [List.getElem?_eq_getElem hj2] at hp
        simp [Option.some.inj hp]
    · obtain ⟨v', w', hrun, hown, hgrow⟩ := run_append_arg_grows (P := Tryd.prog) W 22 ty 5 i (.int .u8 0) 1 1 ht hi hz0 hz1 hz2 rfl (by decide) ⟨g, 0, none⟩ xs.length m (xs.map fun n => Value.int .u8 n) (by rw [List.length_map, Nat.mul_one])
        (fun j u hu => by
          have hj : j < xs.length := by
            have := (List.getElem?_eq_some_iff.1 hu).1
            simpa using this
          rw [show (⟨g, 0, none⟩ : Addr).add j = ⟨g, j, none⟩ from by unfold Addr.add; split <;> simp_all]
          simp [List.getElem?_eq_getElem hj] at hu
          rw [← hu]
          exact (h.cell j).2 _ (List.getElem?_eq_getElem hj))
        ad l1.length c1 (l1.map fun n => Value.int .u8 n) (by rw [List.length_map, Nat.mul_one]) hnews (by omega) (by simp only [maxLen]; omega) (by omega)
      refine ⟨v', w', hrun, ?_⟩
      have hcells := fun g' hg' => World.ownsRow.cells hown (g := g') hg'
      rcases hown.2 with ⟨_, hz⟩ | ⟨g', c', cur, rfl, _, _, hnc, _⟩
      · omega
      · refine ⟨_, _, by rw [hlen], by rw [hlen]; exact hnc, ?_, fun B _ hB => (Below.refl B W).grown hgrow hB (fun k hk => by cases hk)⟩
        refine C_of_cells (by omega) (fun j p hp => ?_)
        have := hcells g' rfl j (Value.int .u8 p) (by rw [← List.map_append, List.getElem?_map, hp]; rfl)
        rwa [show (⟨g', 0, none⟩ : Addr).add j = ⟨g', j, none⟩ from by unfold Addr.add; split <;> simp_all] at this
end Go.Proofs.YtdjepocklmlnbaaDoor.Hand

/- The law AnsiSigns, walked by hand: an append to what []byte(s) has made. -/
namespace Go.Proofs.YtdjepocklmlnbaaDoor.X
open Go Go.RowKit Go.Proofs.YtdjepocklmlnbaaDoorW.PrintWords Go.Proofs.YtdjepocklmlnbaaDoorW.PrintLast Go.Proofs.YtdjepocklmlnbaaDoorW.PrintMore Go.Proofs.YtdjepocklmlnbaaDoor.Hand
set_option linter.unusedVariables false
set_option linter.unusedSimpArgs false
theorem conv_row (s : ByteArray) (w : World) : ConvCalls Tryd.prog 9 22 s w fun e w' => ∃ m : Nat, e = .returned (.slice (some ⟨w.heap.size, 0, none⟩) (bytesOf s).length m) ∧ ConvRow 5 w.heap.size m (bytesOf s) w' ∧ Below w.heap.size w w' :=
  ⟨_, _, print_bytes (P := Tryd.prog) 9 22 5 Tryd.underlying9 Tryd.underlying22 Tryd.underlying5 s w, _, by rw [bytesOf_length], ConvRow.start s w 5, bytes_below (Below.refl _ _) (Nat.le_refl _) _ _⟩
def flonglaw19_AnsiSigns.f (k : Nat) (a0 : Int) (l1 : List Int) : Option Bool :=
  if (l1.length : Int) > 500 then flonglaw19_known.f k
  else (ansi_Sign.f a0).bind fun s => (ansi_Signs.f (bytesOf s ++ l1)).bind fun q =>
    if q.2.2 = true ∧ q.2.1 = (s.size : Int) ∧ q.1 = Int.tmod a0 4 ∧ s.size ≤ 1000 then
      (ansi_Strip.f k (bytesOf s ++ l1)).bind fun sx => (ansi_Strip.f k l1).bind fun sl => (flongref00_Same.f sx sl).bind fun t =>
        if t = true then (if 27 ∈ l1 then flonglaw19_known.f k else (ansi_Strip.f k l1).bind fun s2 => (flongref00_Same.f s2 l1).bind fun t2 => if t2 = true then flonglaw19_known.f k else none) else none
    else none
set_option maxHeartbeats 8000000 in
set_option maxRecDepth 100000 in
theorem flonglaw19_AnsiSigns.calls (k : Nat) (a0 : Int) (A1 : Option Addr) (c1 : Nat) (l1 : List Int) (r : Bool) (w : World) (hr1 : Kd.C (Kd.int .u8) w A1 l1.length l1) (hc1 : l1.length ≤ c1) (hG : GOK [0,1,2] w) (h : flonglaw19_AnsiSigns.f k a0 l1 = some r) :
    Calls Tryd.prog 3 #[.int .u8 a0, .slice A1 l1.length c1] w fun e w' => e = .returned (.bool r) ∧ Below w.heap.size w w' := by
  have HR1 := Aside0.mk hr1
  have HL1 := Aside0.mk hc1
  have HG := Aside0.mk hG
  clear hr1 hG hc1
  unfold flonglaw19_AnsiSigns.f at h
  split at h
  · rename_i hlen
    have d1 : decide ((500 : Int) < (l1.length : Int)) = true := decide_eq_true hlen
    have HK := Aside0.mk h
    clear h
    go_enter Tryd.func3, Tryd.ntmps3
    go_wp2_with (fail)
    refine (flonglaw19_known.calls k r _ HG.out HK.out).mono ?_
    rintro e w' ⟨rfl, hb⟩
    have HB := Aside0.mk hb
    clear hb
    go_wp2
    go_ret
    exact ⟨rfl, HB.out⟩
  · rename_i hlen
    have d1 : decide ((500 : Int) < (l1.length : Int)) = false := decide_eq_false hlen
    obtain ⟨s, hS, h⟩ := Option.bind_eq_some_iff.1 h
    obtain ⟨⟨q1, q2, q3⟩, hQ, h⟩ := Option.bind_eq_some_iff.1 h
    split at h
    · rename_i hh
      obtain ⟨h3, h2, h1, h4⟩ := hh
      simp only at h3 h2 h1
      subst h3 h2 h1
      obtain ⟨sx, hsx, h⟩ := Option.bind_eq_some_iff.1 h
      obtain ⟨sl, hsl, h⟩ := Option.bind_eq_some_iff.1 h
      obtain ⟨t, ht, h⟩ := Option.bind_eq_some_iff.1 h
      split at h
      · rename_i htt
        subst htt
        obtain ⟨X, hX⟩ : ∃ X, X = bytesOf s ++ l1 := ⟨_, rfl⟩
        rw [← hX] at hQ hsx
        have HX := Aside0.mk hX
        clear hX
        have HS := Aside0.mk hS
        have HQ := Aside0.mk hQ
        have HSX := Aside0.mk hsx
        have HSL := Aside0.mk hsl
        have HT := Aside0.mk ht
        have HH := Aside0.mk h
        have HMX := Aside0.mk (show (bytesOf s).length + l1.length ≤ 1000000 by rw [bytesOf_length]; omega)
        clear hS hQ hsx hsl ht h
        go_enter Tryd.func3, Tryd.ntmps3
        go_wp2_with (first
          | (go_at_call 11; refine (ansi_Sign.calls a0 s _ (GOK.sub HG.out rfl) HS.out).mono ?_; rintro e w1 ⟨rfl, hd⟩; have HB1 := Aside0.mk hd.below; clear hd)
          | ((with_reducible refine gate_convert (src := 9) (dst := 22) rfl ?_); refine convL_ _ rfl rfl s rfl rfl ?_; refine (conv_row s _).mono ?_; rintro e w2 ⟨m, rfl, hrow, hb2⟩; refine ⟨_, rfl, ?_⟩; have HROW := Aside0.mk hrow; have HB2 := Aside0.mk (below_step HB1.out hb2); have HLE := Aside0.mk HB1.out.size; clear hrow hb2)
          | ((with_reducible refine gate_append (t := 22) rfl ?_); refine appL_ _ rfl rfl (.slice (some ⟨w1.heap.size, 0, none⟩) (bytesOf s).length m) (.slice A1 l1.length c1) rfl rfl rfl ?_; obtain ⟨v3, w3, hrun, A3, c3, hv3, hc3, hC3, hb3⟩ := append_conv HROW.out c1 (Kd.C_below HR1.out HB2.out) HMX.out 22; rw [← HX.out] at hv3 hc3 hC3; subst hv3; refine ⟨_, _, hrun, ?_⟩; have HC3 := Aside0.mk hC3; have HL3 := Aside0.mk hc3; have HB3 := Aside0.mk (HB2.out.trans (hb3 _ HLE.out HB2.out.size)); clear hrun hC3 hc3 hb3)
          | (go_at_call 12; refine (ansi_Signs.calls A3 c3 X _ _ _ _ HC3.out HL3.out (GOK.of_below (GOK.sub HG.out rfl) HB3.out) HQ.out).mono ?_; rintro e w4 ⟨rfl, hd4⟩; have HB4 := Aside0.mk (below_step HB3.out hd4.below); have HC4 := Aside0.mk (Kd.C_below HC3.out hd4.below); clear hd4))
        refine (ansi_Strip.calls k (fun q => q < w4.heap.size) A3 c3 X sx _ (Kd.V_mk HL3.out (Kd.C_F (Kd.heap_int .u8) HC4.out)) (GOK.of_below (GOK.sub HG.out rfl) HB4.out) HSX.out).mono ?_
        rintro e w5 ⟨v5, rfl, ho5, hb5⟩
        obtain ⟨A5, c5, rfl⟩ := Kd.R_slice ho5
        have HO5 := Aside0.mk ho5
        have HB5 := Aside0.mk (below_step HB4.out hb5)
        clear ho5 hb5
        go_wp2_with (fail)
        refine (ansi_Strip.calls k (fun q => q < w5.heap.size) A1 c1 l1 sl _ (Kd.V_mk HL1.out (Kd.C_F (Kd.heap_int .u8) (Kd.C_below HR1.out HB5.out))) (GOK.of_below (GOK.sub HG.out rfl) HB5.out) HSL.out).mono ?_
        rintro e w6 ⟨v6, rfl, ho6, hb6⟩
        obtain ⟨A6, c6, rfl⟩ := Kd.R_slice ho6
        have HO6 := Aside0.mk ho6
        have HO56 := Aside0.mk (Kd.R_below HO5.out hb6)
        have HB6 := Aside0.mk (below_step HB5.out hb6)
        clear ho6 hb6
        go_wp2_with (fail)
        refine (flongref00_Same.calls A5 c5 sx A6 c6 sl true _ (Kd.R_reads' HO56.out).2.2 (Kd.R_reads' HO56.out).2.1 (Kd.R_reads' HO6.out).2.2 (Kd.R_reads' HO6.out).2.1 HT.out).mono ?_
        rintro e w7 ⟨rfl, hd7⟩
        have HB7 := Aside0.mk (below_step HB6.out hd7.below)
        clear hd7
        go_wp2_with (fail)
        go_loopg [10] l1.length (fun kq v10 w' => ∃ i : Nat, v10 = .int .i64 i ∧ Aside0 (i ≤ l1.length ∧ l1.length - i ≤ kq ∧ ∀ j (hj : j < l1.length), j < i → l1[j] ≠ 27) ∧ Aside0 (Below w.heap.size w w'))
        case atStart => exact ⟨0, rfl, ⟨by omega, by omega, fun j _ h => absurd h (by omega)⟩, HB7⟩
        case round =>
          obtain ⟨i, rfl, HI, HB⟩ := hrel
          by_cases hlt : i < l1.length
          · have e1 : decide ((i : Int) < (l1.length : Int)) = true := decide_eq_true (by omega)
            have e2 : (0 : Int) ≤ (i : Int) := by omega
            have e3 : (i : Int) < (l1.length : Int) := by omega
            obtain ⟨ad, ea, hx0⟩ := Kd.at_int HR1.out (i : Int) (by omega) (by omega)
            have hrd : rd l1 (i : Int) = l1[i] := by simp [rd, List.getD_eq_getElem?_getD, List.getElem?_eq_getElem hlt]
            rw [hrd, Int.toNat_natCast] at hx0
            subst ea
            replace hx0 := pw_cell_below HB.out hx0
            by_cases h27 : l1[i] = 27
            · have q0 : (l1[i] == 27) = true := beq_iff_eq.2 h27
              have hh := HH.out
              rw [if_pos (h27 ▸ List.getElem_mem hlt)] at hh
              have HK := Aside0.mk hh
              rw [h27] at hx0
              clear hh hrd h27 q0
              go_wp2_with (fail)
              refine (flonglaw19_known.calls k r _ (GOK.of_below HG.out HB.out) HK.out).mono ?_
              rintro e w' ⟨rfl, hb⟩
              have HBB := Aside0.mk (below_step HB.out hb)
              clear hb
              go_wp2
              go_ret
              exact ⟨rfl, HBB.out⟩
            · have q0 : (l1[i] == 27) = false := beq_eq_false_iff_ne.2 h27
              have H27 := Aside0.mk h27
              have wi : IntKind.i64.wrap ((i : Int) + 1) = ((i + 1 : Nat) : Int) := by rw [IntKind.wrap_i64]; omega
              obtain ⟨k1, rfl⟩ : ∃ k1, gk = k1 + 1 := ⟨gk - 1, by have := HI.out.2.1; omega⟩
              clear hrd h27
              go_wp2
              go_roundg k1
              case measure => omega
              case rel =>
                refine ⟨i + 1, by first | rfl | (simp; done), ⟨by omega, by have := HI.out.2.1; omega, fun j hj hji => ?_⟩, HB⟩
                by_cases e : j = i
                · subst e
                  exact H27.out
                · exact HI.out.2.2 j hj (by omega)
          · have e1 : decide ((i : Int) < (l1.length : Int)) = false := decide_eq_false (by omega)
            have hno : ¬ (27 : Int) ∈ l1 := by
              intro hm
              obtain ⟨j, hj, e⟩ := List.getElem_of_mem hm
              exact HI.out.2.2 j hj (by omega) e
            have hh := HH.out
            rw [if_neg hno] at hh
            obtain ⟨s2, hs2, hh⟩ := Option.bind_eq_some_iff.1 hh
            obtain ⟨t2, ht2, hh⟩ := Option.bind_eq_some_iff.1 hh
            split at hh
            · rename_i htt2
              subst htt2
              have HS2 := Aside0.mk hs2
              have HT2 := Aside0.mk ht2
              have HK := Aside0.mk hh
              clear hs2 ht2 hh hno
              go_wp2_with (fail)
              refine (ansi_Strip.calls k (fun q => q < wr.heap.size) A1 c1 l1 s2 _ (Kd.V_mk HL1.out (Kd.C_F (Kd.heap_int .u8) (Kd.C_below HR1.out HB.out))) (GOK.of_below (GOK.sub HG.out rfl) HB.out) HS2.out).mono ?_
              rintro e w8 ⟨v8, rfl, ho8, hb8⟩
              obtain ⟨A8, c8, rfl⟩ := Kd.R_slice ho8
              have HO8 := Aside0.mk ho8
              have HB8 := Aside0.mk (below_step HB.out hb8)
              clear ho8 hb8
              go_wp2_with (fail)
              refine (flongref00_Same.calls A8 c8 s2 A1 c1 l1 true _ (Kd.R_reads' HO8.out).2.2 (Kd.R_reads' HO8.out).2.1 (Kd.C_below HR1.out HB8.out) HL1.out HT2.out).mono ?_
              rintro e w9 ⟨rfl, hd9⟩
              have HB9 := Aside0.mk (below_step HB8.out hd9.below)
              clear hd9
              go_wp2_with (fail)
              refine (flonglaw19_known.calls k r _ (GOK.of_below HG.out HB9.out) HK.out).mono ?_
              rintro e w' ⟨rfl, hb⟩
              have HBB := Aside0.mk (below_step HB9.out hb)
              clear hb
              go_wp2
              go_ret
              exact ⟨by first | rfl | (cases r <;> rfl), HBB.out⟩
            · cases hh
      · cases h
    · cases h
end Go.Proofs.YtdjepocklmlnbaaDoor.X
