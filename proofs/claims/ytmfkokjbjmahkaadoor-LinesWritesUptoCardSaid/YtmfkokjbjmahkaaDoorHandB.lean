/- HandB: several of this session's texts in one. -/
import Derived.Test.YtmfkokjbjmahkaaDoorHandS
import Derived.Shelf.Strings.BuilderK
import Derived.Test.YtmfkokjbjmahkaaDoorX2
import Derived.Test.YtmfkokjbjmahkaaDoorX3
import Derived.Test.YtmfkokjbjmahkaaDoorX5
/- lines.Write, walked by hand: rows, and their arguments, by a builder. -/
namespace Go.Proofs.YtmfkokjbjmahkaaDoor.Hand
open Go Go.RowKit Go.Proofs.YtmfkokjbjmahkaaDoorW.PrintWords Go.Proofs.YtmfkokjbjmahkaaDoorW.PrintLast Go.Proofs.YtmfkokjbjmahkaaDoorW.PrintMore Go.Proofs.YtmfkokjbjmahkaaDoor.X
set_option linter.unusedVariables false
set_option linter.unusedSimpArgs false
/-- What stands while the call writes: the world below is as it was; the builder holds the text. -/
structure WS (w : World) (s : ByteArray) (W : World) : Prop where
  below : Below w.heap.size w W
  bld : Lib.IsBuilderF 67 5 w.heap.size w.heap.size (Lib.strCells s) W
  le : w.heap.size < W.heap.size
theorem WS.call {w W W' : World} {s : ByteArray} (h : WS w s W) (hb : Below W.heap.size W W') : WS w s W' := by
  refine ⟨below_step h.below hb, ?_, Nat.lt_of_lt_of_le h.le hb.size⟩
  have key : ∀ p, Lib.BuilderAtF 67 5 w.heap.size w.heap.size p (Lib.strCells s) W → Lib.BuilderAtF 67 5 w.heap.size w.heap.size p (Lib.strCells s) W' := by
    rintro p ⟨h0, v, h1, h2, h3⟩
    exact ⟨h0, v, blk_below h1 hb, h2.kept (grown_of_below hb none) (by cases v.ownBlock <;> simp), h3⟩
  exact h.bld.imp (key _) (key _)
theorem WS.alloc {w W : World} {s : ByteArray} (h : WS w s W) (o : Obj) : WS w s (W.alloc o) := h.call (below_alloc (Below.refl _ _) o)
theorem WS.start (w : World) : WS w ⟨#[]⟩ (w.alloc (.cells #[.pointer none, .slice none 0 0] 67)) :=
  ⟨below_alloc (Below.refl _ _) _, Lib.IsBuilderF.of (Lib.fresh_isBuilder _ _ w), by simp⟩
theorem strCells_append (s t : ByteArray) : Lib.strCells (s ++ t) = Lib.strCells s ++ Lib.strCells t := by
  simp [Lib.strCells, Lib.byteCells, ByteArray.data_append]
theorem strCells_len (s : ByteArray) : (Lib.strCells s).length = s.size := by
  simp [Lib.strCells, Lib.byteCells]
theorem WS.write {w W : World} {s : ByteArray} (h : WS w s W) (t : ByteArray) (hl : s.size + t.size ≤ 140737488355328) :
    Calls Tryd.prog 40 #[.pointer (some ⟨w.heap.size, 0, none⟩), .string t] W fun e W' => e = .returned (.tuple #[.int .i64 t.size, .nilIface]) ∧ WS w (s ++ t) W' ∧ ∀ (k : Nat) (cs : Array Value) (fz : Nat × Nat), W.heap[k]? = some (Obj.cells cs 35 fz) → W'.heap[k]? = some (Obj.cells cs 35 fz) := by
  refine (Any.Builder_WriteString_k Tryd.lays166 Tryd.Builder_Extra_155 w.heap.size w.heap.size (Lib.strCells s) t W h.bld (by rw [strCells_len]; exact hl) (Nat.le_of_lt h.le)).mono ?_
  rintro e W' ⟨h1, h2, h3, h4⟩
  refine ⟨h1, ⟨h.below.trans h3, ?_, Nat.lt_of_lt_of_le h.le h3.size⟩, fun k cs fz hk => h4 k _ hk ?_ ?_⟩
  · rw [strCells_append]
    exact .inr h2
  · intro e
    obtain rfl := Option.some.inj e
    have key : ∀ p, ¬ Lib.BuilderAtF 67 5 w.heap.size w.heap.size p (Lib.strCells s) W := by
      rintro p ⟨_, v, hb, _⟩
      have := hk.symm.trans hb
      injection this with this
      injection this with _ h2 _
      exact absurd h2 (by decide)
    exact h.bld.elim (key _) (key _)
  · intro c fz' e
    injection e with _ h2 _
    exact absurd h2 (by decide)
theorem WS.text {w W : World} {s : ByteArray} (h : WS w s W) :
    Calls Tryd.prog 41 #[.pointer (some ⟨w.heap.size, 0, none⟩)] W fun e W' => e = .returned (.string s) ∧ Below w.heap.size w W' := by
  have e : Lib.strCells s = Lib.byteCells s.data.toList := rfl
  have hb := h.bld
  rw [e] at hb
  by_cases h0 : s.data.toList = []
  · rw [h0] at hb
    have hs : s = ⟨#[]⟩ := by
      apply ByteArray.ext
      apply Array.ext'
      rw [h0]
    refine (Any.Builder_String_empty_k Tryd.lays169 Tryd.Builder_Extra_169 w.heap.size w.heap.size W hb (Nat.le_of_lt h.le)).mono ?_
    rintro e W' ⟨h1, _, h3, _⟩
    exact ⟨by rw [h1, hs], h.below.trans h3⟩
  · refine (Any.Builder_String_k Tryd.lays169 Tryd.Builder_Extra_169 w.heap.size w.heap.size s.data.toList W hb h0).mono ?_
    rintro e W' ⟨h1, _, h3, _⟩
    exact ⟨by rw [h1], h.below.trans h3⟩
/-- Arguments, written. -/
def argsW : ByteArray → List ByteArray → Option ByteArray
  | s, [] => some s
  | s, x :: t => (lines_Quoted.f x).bind fun q => if s.size + q.size + 1 ≤ 1000000000 then argsW (s ++ ((⟨#[32]⟩ : ByteArray) ++ q)) t else none
def dotW (s m : ByteArray) : ByteArray := if m.toList = [] then s else s ++ ((⟨#[46]⟩ : ByteArray) ++ m)
/-- A row, written. -/
def rowW (s : ByteArray) (r : S35) : Option ByteArray :=
  if s.size + r.f1.size + 1 ≤ 1000000000 then (argsW (dotW s r.f1) r.f2).bind fun u => if u.size + r.f3.size + 1 ≤ 1000000000 then some (u ++ (r.f3 ++ (⟨#[10]⟩ : ByteArray))) else none else none
def lines_Write.l (k : Nat) : ByteArray → List S35 → Option ByteArray
  | s, [] => some s
  | s, r :: t => (lines_Check.f k r.f0 r.f1 r.f2 r.f3).bind fun c => if c = 0 then (rowW s r).bind fun u => lines_Write.l k u t else lines_Write.l k s t
def lines_Write.f (k : Nat) (l : List S35) : Option ByteArray := lines_Write.l k ⟨#[]⟩ l
theorem lines_Write.mono_l : ∀ (l : List S35) (s : ByteArray) (k : Nat), LeO (lines_Write.l k s l) (lines_Write.l (k + 1) s l)
  | [], s, k => LeO.refl _
  | r :: t, s, k => by
    unfold lines_Write.l
    exact LeO.bind (lines_Check.mono _ _ _ _ _) fun c => LeO.ite (LeO.bind (LeO.refl _) fun u => lines_Write.mono_l t u k) (lines_Write.mono_l t s k)
theorem lines_Write.mono : ∀ a0 k, LeO (lines_Write.f k a0) (lines_Write.f (k + 1) a0) := fun a0 k => lines_Write.mono_l a0 _ k
set_option maxHeartbeats 8000000 in
set_option maxRecDepth 100000 in
theorem lines_Write.calls (k : Nat) (A0 : Option Addr) (c0 : Nat) (l0 : List S35) (r : ByteArray) (w : World) (hr0 : Kd.C k35 w A0 l0.length l0) (hc0 : l0.length ≤ c0) (hG : GOK [0] w) (h : lines_Write.f k l0 = some r) :
    Calls Tryd.prog 21 #[.slice A0 l0.length c0] w fun e w' => e = .returned (.string r) ∧ Below w.heap.size w w' := by
  have HR0 := Aside0.mk hr0
  have HM := Aside0.mk hr0.2.1
  have HG := Aside0.mk hG
  have HW0 := Aside0.mk (WS.start w)
  have H0 := Aside0.mk (show lines_Write.l k ⟨#[]⟩ l0 = some r from h)
  clear hr0 hG h
  go_enter Tryd.func21, Tryd.ntmps21
  go_wp2_with (fail)
  go_loopg [5, 7, 10] l0.length (fun kq v5 v7 v10 w' => ∃ (i : Nat) (s : ByteArray), v10 = .int .i64 i ∧ Aside0 (lines_Write.l k s (l0.drop i) = some r) ∧ Aside0 (i ≤ l0.length ∧ l0.length - i ≤ kq) ∧ Aside0 (WS w s w'))
  case atStart => exact ⟨0, ⟨#[]⟩, rfl, H0, ⟨by omega, by omega⟩, HW0⟩
  case round =>
    obtain ⟨i, s, rfl, H, HI, HW⟩ := hrel
    by_cases hlt : i < l0.length
    · have c1 : decide ((i : Int) < (l0.length : Int)) = true := decide_eq_true (by omega)
      have c2 : (0 : Int) ≤ (i : Int) := by omega
      have c3 : (i : Int) < (l0.length : Int) := by omega
      obtain ⟨ad, A2, d2, e, hx0, hx1, hx2, hx3, hl2, hi2⟩ := at_T35 HR0.out (i : Int) (by omega) (by omega)
      have hrd : rd_T35 l0 (i : Int) = l0[i] := by simp [rd_T35, List.getD_eq_getElem?_getD, List.getElem?_eq_getElem hlt]
      have H' := H.out
      rw [List.drop_eq_getElem_cons hlt, lines_Write.l] at H'
      rw [hrd] at hx0 hx1 hx2 hx3 hl2 hi2
      generalize l0[i] = row at H' hx0 hx1 hx2 hx3 hl2 hi2
      subst e
      replace hx0 := pw_cell_below HW.out.below hx0
      replace hx1 := pw_cell_below HW.out.below hx1
      replace hx2 := pw_cell_below HW.out.below hx2
      replace hx3 := pw_cell_below HW.out.below hx3
      have HI2 := Aside0.mk hi2
      have HL2 := Aside0.mk hl2
      rw [Int.toNat_natCast] at hx0 hx1 hx2 hx3
      obtain ⟨c, hC, hH⟩ := Option.bind_eq_some_iff.1 H'
      have HC := Aside0.mk hC
      have HH := Aside0.mk hH
      clear H' hrd hi2 hl2 hC hH
      go_wp2_with (fail)
      refine (lines_Check.calls k row.f0 row.f1 A2 d2 row.f2 row.f3 c _ (Kd.C_below HI2.out (below_alloc HW.out.below _)) HL2.out HC.out).mono ?_
      have HX := Aside0.mk (blk_new wr (.cells #[.int .i64 row.f0, .string row.f1, .slice A2 row.f2.length d2, .string row.f3] 35))
      have HW1 := Aside0.mk (HW.out.alloc (.cells #[.int .i64 row.f0, .string row.f1, .slice A2 row.f2.length d2, .string row.f3] 35))
      clear hx0 hx1 hx2 hx3
      generalize wr.alloc (.cells #[.int .i64 row.f0, .string row.f1, .slice A2 row.f2.length d2, .string row.f3] 35) = w1 at HX HW1 ⊢
      generalize wr.heap.size = b5 at HX ⊢
      rintro e w2 ⟨rfl, hb2⟩
      have HX2 := Aside0.mk (blk_below HX.out hb2)
      have HW2 := Aside0.mk (HW1.out.call hb2)
      clear hb2 HX HW1
      by_cases hc : c = 0
      · subst hc
        have hh := HH.out
        rw [if_pos rfl] at hh
        obtain ⟨u, hU, hN⟩ := Option.bind_eq_some_iff.1 hh
        unfold rowW at hU
        split at hU
        · rename_i hg1
          obtain ⟨v, hA, hB⟩ := Option.bind_eq_some_iff.1 hU
          split at hB
          · rename_i hg2
            obtain rfl := Option.some.inj hB
            have HN := Aside0.mk hN
            have HA := Aside0.mk hA
            clear hh hU hN hA hB HH
            have k1 : (9223372036854775807 < 1 + row.f1.size) = False := eq_false (by omega)
            have k2 : (9223372036854775807 < row.f3.size + 1) = False := eq_false (by omega)
            have HM2 := Aside0.mk HI2.out.2.1
            have y1 : w2.cell? ⟨b5, 1, none⟩ = some (.string row.f1) := (blk_cell HX2.out 1).trans rfl
            have y2 : w2.cell? ⟨b5, 2, none⟩ = some (.slice A2 row.f2.length d2) := (blk_cell HX2.out 2).trans rfl
            obtain ⟨g1, rfl⟩ : ∃ g1, gk = g1 + 1 := ⟨gk - 1, by have := HI.out.2; omega⟩
            cases hq : (row.f1.toList == ([] : List UInt8)) with
            | true =>
              have q1 : (row.f1.toList != ([] : List UInt8)) = false := by rw [bne, hq]; rfl
              have hd : dotW s row.f1 = s := if_pos (by simpa using hq)
              have HWt : Aside0 (WS w (dotW s row.f1) w2) := ⟨by rw [hd]; exact HW2.out⟩
              have HXt := HX2
              clear hd HW2 HX2
              go_wp2_with (fail)
              go_loopg [7, 27] row.f2.length (fun kq v7 v27 w' => ∃ (j : Nat) (u : ByteArray), v27 = .int .i64 j ∧ Aside0 (argsW u (row.f2.drop j) = some v) ∧ Aside0 (j ≤ row.f2.length ∧ row.f2.length - j ≤ kq) ∧ Aside0 (WS w u w') ∧ Aside0 (w'.heap[b5]? = some (.cells #[.int .i64 row.f0, .string row.f1, .slice A2 row.f2.length d2, .string row.f3] 35)))
              case atStart => exact ⟨0, _, rfl, HA, ⟨by omega, by omega⟩, HWt, HXt⟩
              case round =>
                clear HWt HXt
                obtain ⟨j, x, rfl, HJ, HJI, HWj, HXj⟩ := hrel
                have z3 : wr.cell? ⟨b5, 3, none⟩ = some (.string row.f3) := (blk_cell HXj.out 3).trans rfl
                by_cases hj : j < row.f2.length
                · have j1 : decide ((j : Int) < (row.f2.length : Int)) = true := decide_eq_true (by omega)
                  have j2 : (0 : Int) ≤ (j : Int) := by omega
                  have j3 : (j : Int) < (row.f2.length : Int) := by omega
                  obtain ⟨ad2, e2, hs0⟩ := Kd.at_string HI2.out (j : Int) (by omega) (by omega)
                  have hrd : rdOf ByteArray.empty row.f2 (j : Int) = row.f2[j] := by simp [rdOf, List.getD_eq_getElem?_getD, List.getElem?_eq_getElem hj]
                  have ha := HJ.out
                  rw [List.drop_eq_getElem_cons hj, argsW] at ha
                  rw [hrd] at hs0
                  generalize row.f2[j] = y at ha hs0
                  obtain ⟨q, hQ, ha2⟩ := Option.bind_eq_some_iff.1 ha
                  split at ha2
                  · rename_i hg3
                    subst e2
                    replace hs0 := pw_cell_below HWj.out.below hs0
                    rw [Int.toNat_natCast] at hs0
                    have HQ := Aside0.mk hQ
                    have HN3 := Aside0.mk ha2
                    have k3 : (9223372036854775807 < 1 + q.size) = False := eq_false (by omega)
                    have hsz : ((⟨#[32]⟩ : ByteArray) ++ q).size = 1 + q.size := by rw [ByteArray.size_append]; rfl
                    have HS3 := Aside0.mk (show x.size + ((⟨#[32]⟩ : ByteArray) ++ q).size ≤ 140737488355328 by omega)
                    have wi : IntKind.i64.wrap ((j : Int) + 1) = ((j + 1 : Nat) : Int) := by rw [IntKind.wrap_i64]; have := HM2.out; omega
                    clear ha hQ ha2 hrd hsz z3
                    go_wp2_with (fail)
                    refine (lines_Quoted.calls y q _ (GOK.of_below HG.out HWj.out.below) HQ.out).mono ?_
                    rintro e w4 ⟨rfl, hb4⟩
                    have HW4 := Aside0.mk (HWj.out.call hb4)
                    have HX4 := Aside0.mk (blk_below HXj.out hb4)
                    clear hb4
                    go_wp2_with (fail)
                    refine (HW4.out.write _ HS3.out).mono ?_
                    rintro e w5 ⟨rfl, hw5, hk5⟩
                    have HW5 := Aside0.mk hw5
                    have HX5 := Aside0.mk (hk5 _ _ _ HX4.out)
                    clear hw5 hk5
                    go_wp2
                    obtain ⟨k4, rfl⟩ : ∃ k4, gk = k4 + 1 := ⟨gk - 1, by have := HJI.out.2; omega⟩
                    go_roundg k4
                    case measure => omega
                    case rel => exact ⟨j + 1, _, by first | rfl | (simp; done), HN3, ⟨by omega, by have := HJI.out.2; omega⟩, HW5, HX5⟩
                  · cases ha2
                · have j1 : decide ((j : Int) < (row.f2.length : Int)) = false := decide_eq_false (by omega)
                  have hxv : x = v := by
                    have := HJ.out
                    rw [List.drop_eq_nil_of_le (by omega)] at this
                    exact Option.some.inj this
                  subst hxv
                  have hsz : (row.f3 ++ (⟨#[10]⟩ : ByteArray)).size = row.f3.size + 1 := by rw [ByteArray.size_append]; rfl
                  have HS3 := Aside0.mk (show x.size + (row.f3 ++ (⟨#[10]⟩ : ByteArray)).size ≤ 140737488355328 by omega)
                  have wi : IntKind.i64.wrap ((i : Int) + 1) = ((i + 1 : Nat) : Int) := by rw [IntKind.wrap_i64]; have := HM.out; omega
                  clear hsz
                  go_wp2_with (fail)
                  refine (HWj.out.write _ HS3.out).mono ?_
                  rintro e w5 ⟨rfl, hw5, hk5⟩
                  have HW5 := Aside0.mk hw5
                  clear hw5 hk5
                  go_wp2
                  go_roundg g1
                  case measure => omega
                  case rel => exact ⟨i + 1, _, by first | rfl | (simp; done), HN, ⟨by omega, by have := HI.out.2; omega⟩, HW5⟩
            | false =>
              have q1 : (row.f1.toList != ([] : List UInt8)) = true := by rw [bne, hq]; rfl
              have hd : dotW s row.f1 = s ++ ((⟨#[46]⟩ : ByteArray) ++ row.f1) := if_neg (by simpa using hq)
              have hsz : ((⟨#[46]⟩ : ByteArray) ++ row.f1).size = 1 + row.f1.size := by rw [ByteArray.size_append]; rfl
              have HS1 := Aside0.mk (show s.size + ((⟨#[46]⟩ : ByteArray) ++ row.f1).size ≤ 140737488355328 by omega)
              have HD := Aside0.mk hd
              clear hd hsz
              go_wp2_with (fail)
              refine (HW2.out.write _ HS1.out).mono ?_
              rintro e w3 ⟨rfl, hw3, hk3⟩
              have HWt : Aside0 (WS w (dotW s row.f1) w3) := ⟨by rw [HD.out]; exact hw3⟩
              have HXt := Aside0.mk (hk3 _ _ _ HX2.out)
              clear hw3 hk3 HW2 HX2 HD y1 y2
              have y2 : w3.cell? ⟨b5, 2, none⟩ = some (.slice A2 row.f2.length d2) := (blk_cell HXt.out 2).trans rfl
              go_wp2_with (fail)
              go_loopg [7, 27] row.f2.length (fun kq v7 v27 w' => ∃ (j : Nat) (u : ByteArray), v27 = .int .i64 j ∧ Aside0 (argsW u (row.f2.drop j) = some v) ∧ Aside0 (j ≤ row.f2.length ∧ row.f2.length - j ≤ kq) ∧ Aside0 (WS w u w') ∧ Aside0 (w'.heap[b5]? = some (.cells #[.int .i64 row.f0, .string row.f1, .slice A2 row.f2.length d2, .string row.f3] 35)))
              case atStart => exact ⟨0, _, rfl, HA, ⟨by omega, by omega⟩, HWt, HXt⟩
              case round =>
                clear HWt HXt
                obtain ⟨j, x, rfl, HJ, HJI, HWj, HXj⟩ := hrel
                have z3 : wr.cell? ⟨b5, 3, none⟩ = some (.string row.f3) := (blk_cell HXj.out 3).trans rfl
                by_cases hj : j < row.f2.length
                · have j1 : decide ((j : Int) < (row.f2.length : Int)) = true := decide_eq_true (by omega)
                  have j2 : (0 : Int) ≤ (j : Int) := by omega
                  have j3 : (j : Int) < (row.f2.length : Int) := by omega
                  obtain ⟨ad2, e2, hs0⟩ := Kd.at_string HI2.out (j : Int) (by omega) (by omega)
                  have hrd : rdOf ByteArray.empty row.f2 (j : Int) = row.f2[j] := by simp [rdOf, List.getD_eq_getElem?_getD, List.getElem?_eq_getElem hj]
                  have ha := HJ.out
                  rw [List.drop_eq_getElem_cons hj, argsW] at ha
                  rw [hrd] at hs0
                  generalize row.f2[j] = y at ha hs0
                  obtain ⟨q, hQ, ha2⟩ := Option.bind_eq_some_iff.1 ha
                  split at ha2
                  · rename_i hg3
                    subst e2
                    replace hs0 := pw_cell_below HWj.out.below hs0
                    rw [Int.toNat_natCast] at hs0
                    have HQ := Aside0.mk hQ
                    have HN3 := Aside0.mk ha2
                    have k3 : (9223372036854775807 < 1 + q.size) = False := eq_false (by omega)
                    have hsz : ((⟨#[32]⟩ : ByteArray) ++ q).size = 1 + q.size := by rw [ByteArray.size_append]; rfl
                    have HS3 := Aside0.mk (show x.size + ((⟨#[32]⟩ : ByteArray) ++ q).size ≤ 140737488355328 by omega)
                    have wi : IntKind.i64.wrap ((j : Int) + 1) = ((j + 1 : Nat) : Int) := by rw [IntKind.wrap_i64]; have := HM2.out; omega
                    clear ha hQ ha2 hrd hsz z3
                    go_wp2_with (fail)
                    refine (lines_Quoted.calls y q _ (GOK.of_below HG.out HWj.out.below) HQ.out).mono ?_
                    rintro e w4 ⟨rfl, hb4⟩
                    have HW4 := Aside0.mk (HWj.out.call hb4)
                    have HX4 := Aside0.mk (blk_below HXj.out hb4)
                    clear hb4
                    go_wp2_with (fail)
                    refine (HW4.out.write _ HS3.out).mono ?_
                    rintro e w5 ⟨rfl, hw5, hk5⟩
                    have HW5 := Aside0.mk hw5
                    have HX5 := Aside0.mk (hk5 _ _ _ HX4.out)
                    clear hw5 hk5
                    go_wp2
                    obtain ⟨k4, rfl⟩ : ∃ k4, gk = k4 + 1 := ⟨gk - 1, by have := HJI.out.2; omega⟩
                    go_roundg k4
                    case measure => omega
                    case rel => exact ⟨j + 1, _, by first | rfl | (simp; done), HN3, ⟨by omega, by have := HJI.out.2; omega⟩, HW5, HX5⟩
                  · cases ha2
                · have j1 : decide ((j : Int) < (row.f2.length : Int)) = false := decide_eq_false (by omega)
                  have hxv : x = v := by
                    have := HJ.out
                    rw [List.drop_eq_nil_of_le (by omega)] at this
                    exact Option.some.inj this
                  subst hxv
                  have hsz : (row.f3 ++ (⟨#[10]⟩ : ByteArray)).size = row.f3.size + 1 := by rw [ByteArray.size_append]; rfl
                  have HS3 := Aside0.mk (show x.size + (row.f3 ++ (⟨#[10]⟩ : ByteArray)).size ≤ 140737488355328 by omega)
                  have wi : IntKind.i64.wrap ((i : Int) + 1) = ((i + 1 : Nat) : Int) := by rw [IntKind.wrap_i64]; have := HM.out; omega
                  clear hsz
                  go_wp2_with (fail)
                  refine (HWj.out.write _ HS3.out).mono ?_
                  rintro e w5 ⟨rfl, hw5, hk5⟩
                  have HW5 := Aside0.mk hw5
                  clear hw5 hk5
                  go_wp2
                  go_roundg g1
                  case measure => omega
                  case rel => exact ⟨i + 1, _, by first | rfl | (simp; done), HN, ⟨by omega, by have := HI.out.2; omega⟩, HW5⟩
          · cases hB
        · cases hU
      · have hh := HH.out
        rw [if_neg hc] at hh
        have HN := Aside0.mk hh
        have q1 : (c != 0) = true := by simpa using hc
        clear hh HH
        have wi : IntKind.i64.wrap ((i : Int) + 1) = ((i + 1 : Nat) : Int) := by rw [IntKind.wrap_i64]; have := HM.out; omega
        go_wp2
        obtain ⟨k1, rfl⟩ : ∃ k1, gk = k1 + 1 := ⟨gk - 1, by have := HI.out.2; omega⟩
        go_roundg k1
        case measure => omega
        case rel => exact ⟨i + 1, s, by first | rfl | (simp; done), HN, ⟨by omega, by have := HI.out.2; omega⟩, HW2⟩
    · have c1 : decide ((i : Int) < (l0.length : Int)) = false := decide_eq_false (by omega)
      have hs : s = r := by
        have := H.out
        rw [List.drop_eq_nil_of_le (by omega)] at this
        exact Option.some.inj this
      subst hs
      go_wp2_with (fail)
      refine HW.out.text.mono ?_
      rintro e w' ⟨rfl, hb'⟩
      have HB := Aside0.mk hb'
      clear hb'
      go_wp2
      go_ret
      exact ⟨rfl, HB.out⟩
end Go.Proofs.YtmfkokjbjmahkaaDoor.Hand
