/- HandA: several of this session's texts in one. -/
import Derived.Test.YtdjepocklmlnbaaDoorProg
import Derived.Test.YtdjepocklmlnbaaDoorWMore
import Derived.Lib.ConvBytes
import Derived.Laws.AppendOwn
import Derived.WalkKit
import Derived.Lib.Hide
import Derived.Test.YtdjepocklmlnbaaDoorX0
import Derived.Lib.SliceRun
/- A text turned into bytes, as if that were a call: new memory that is read. -/
namespace Go.Proofs.YtdjepocklmlnbaaDoor.Hand
open Go.RowKit Go.Proofs.YtdjepocklmlnbaaDoorW.PrintWords Go.Proofs.YtdjepocklmlnbaaDoorW.PrintLast Go.Proofs.YtdjepocklmlnbaaDoorW.PrintMore
set_option linter.unusedVariables false

/-- The conversion's run, told as a call's is. -/
def ConvCalls (P : Program) (src dst : TypeId) (s : ByteArray) (w : World) (Q : Ending → World → Prop) : Prop := ∃ v w', (convert src dst (.string s)).run P w = .ok v w' ∧ Q (.returned v) w'
theorem ConvCalls.mono {P : Program} {src dst : TypeId} {s : ByteArray} {w : World} {Q Q' : Ending → World → Prop} (h : ConvCalls P src dst s w Q) (k : ∀ e w', Q e w' → Q' e w') : ConvCalls P src dst s w Q' := by
  obtain ⟨v, w', hr, hq⟩ := h
  exact ⟨v, w', hr, k _ _ hq⟩
section
variable {P : Program} {ops : Array Oper} {Q : Exit → Act → World → Prop}
theorem gate_convert {rest : List Oper} {o : Oper} {a : Act} {W : World} {src dst : TypeId} {x : Operand} (_ho : o.op = .convert src dst x) (h : wpList P ops Q (o :: rest) a W) : wpList P ops Q (o :: rest) a W := h
theorem convL_ {rest : List Oper} {oi : Oper} {a : Act} {w : World} (N : Option Tmp) (hd : oi.dst = N) (hg : oi.guard = none) {src dst : TypeId} {x : Operand} (s : ByteArray) (hop : oi.op = .convert src dst x) (hx : a.eval x = .string s)
    (h : ConvCalls P src dst s w fun e w' => ∃ v, e = .returned v ∧ wpList P ops Q rest (a.put N v) w') : wpList P ops Q (oi :: rest) a w := by
  obtain ⟨v, w', hr, v', hv, hk⟩ := h
  injection hv with hv
  subst hv
  refine wpList_plain hg fun K hK => ?_
  unfold Oper.wp execOp
  simp only [hop, Sem.run_bind, Sem.run_pure, Result.andThen_ok, hx, hr]
  subst hd
  exact hK _ _ hk
theorem conv_ {oi : Oper} {N : Option Tmp} {a : Act} {w : World} {K : Act → World → Prop} {src dst : TypeId} {x : Operand} (s : ByteArray) (hw : Region.wanted oi (yielded ops a.tmps) = true) (hN : oi.dst = N) (hop : oi.op = .convert src dst x) (hx : a.eval x = .string s)
    (h : ConvCalls P src dst s w fun e w' => ∃ v, e = .returned v ∧ K (a.put N v) w') : if Region.wanted oi (yielded ops a.tmps) = true then Oper.wp P oi a w K Q else K (a.put N undef) w := by
  obtain ⟨v, w', hr, v', hv, hk⟩ := h
  injection hv with hv
  subst hv
  refine value_ (w1 := w') (v := v) hw hN ?_ hk
  unfold execOp
  simp only [hop, Sem.run_bind, Sem.run_pure, Result.andThen_ok, hx, hr]
end

/-- A text made of bytes that are told as shared. -/
theorem V_string {P : Program} {w : World} {src dst e : TypeId} {e' base : Nat} {ok : Nat → Prop} {v : Value} {xs : List Int} (hs : P.underlying src = some (.slice e)) (he : P.underlying e = some (.int .u8)) (hd : P.underlying dst = some .string)
    (h : Kd.V (Kd.int .u8) e' w base ok v xs) : (convert src dst v).run P w = .ok (.string (strOfNums xs)) w := by
  obtain ⟨A, c, rfl⟩ := Kd.V_slice h
  exact Kd.C_string hs he hd (Kd.V_reads' h).2.2
/-- A draw ahead of a store is a draw behind it. -/
theorem drewN_setCell (w : World) (n : Nat) (p : Addr) (v : Value) : (w.drewN n).setCell p v = (w.setCell p v).drewN n := by
  rfl
def conv_bytes.f (a0 : ByteArray) : Option (List Int) := if a0.size ≤ 9223372036854775807 then some (bytesOf a0) else none
theorem cell_same {w w' : World} {b o : Nat} (h : w'.heap[b]? = w.heap[b]?) : w'.cell? ⟨b, o, none⟩ = w.cell? ⟨b, o, none⟩ := by
  unfold World.cell?
  simp only [h]
theorem conv_bytes.calls (a0 : ByteArray) (r : List Int) (w : World) (h : conv_bytes.f a0 = some r) :
    ConvCalls Tryd.prog 9 22 a0 w fun e w' => ∃ v0_ : Value, e = .returned (v0_) ∧ Kd.V (Kd.int .u8) 5 w' w.heap.size (fun k_ => (w.heap.size ≤ k_)) v0_ r ∧ Below w.heap.size w w' := by
  unfold conv_bytes.f at h
  split at h
  · rename_i hs
    obtain rfl := Option.some.inj h
    refine ⟨_, _, print_bytes (P := Tryd.prog) 9 22 5 Tryd.underlying9 Tryd.underlying22 Tryd.underlying5 a0 w, _, rfl, ?_, bytes_below (Below.refl _ _) (Nat.le_refl _) _ _⟩
    refine ⟨some ⟨w.heap.size, 0, none⟩, _, by rw [bytesOf_length], ?_, ?_⟩
    · rw [bytesOf_length]
      exact grownCap_ge _ _ _ _
    · intro W' hW
      have hb : W'.heap[w.heap.size]? = (Lib.bytesWorld w 5 a0).heap[w.heap.size]? := hW _ (Nat.le_refl _) (by rw [Lib.bytesWorld_size]; omega)
      refine ⟨rfl, by rw [bytesOf_length]; exact hs, fun _ => ⟨_, rfl, fun j p hp => ⟨[.int .u8 p], rfl, rfl, fun i u hu => ?_⟩⟩⟩
      have hi : i = 0 := by
        have := (List.getElem?_eq_some_iff.1 hu).1
        simp at this
        exact this
      subst hi
      simp at hu
      subst hu
      have hj : j < a0.size := by
        have := (List.getElem?_eq_some_iff.1 hp).1
        rwa [bytesOf_length] at this
      rw [add_plain, cell_same hb]
      show (Lib.bytesWorld w 5 a0).cell? ⟨w.heap.size, j * 1 + 0, none⟩ = _
      rw [show j * 1 + 0 = j from by omega, Lib.bytesWorld_cell w _ a0 j hj]
      have h' : j < a0.data.toList.length := by rw [data_length]; exact hj
      simp [bytesOf, List.getElem?_eq_getElem h'] at hp
      simp [List.getD_eq_getElem?_getD, List.getElem?_eq_getElem h', hp]
  · cases h
end Go.Proofs.YtdjepocklmlnbaaDoor.Hand

/- The two tables of package runes, and what a binary search over a table of ranges answers: the hand-proved half of runes.in. -/
namespace Go.Proofs.YtdjepocklmlnbaaDoor.Hand
open Go.RowKit Go.Proofs.YtdjepocklmlnbaaDoorW.PrintWords Go.Proofs.YtdjepocklmlnbaaDoorW.PrintLast Go.Proofs.YtdjepocklmlnbaaDoorW.PrintMore

/-- A range's begin, and its end. -/
def lowAt (ls : List Int) (j : Nat) : Int := ls.getD (j * 2) 0
def highAt (ls : List Int) (j : Nat) : Int := ls.getD (j * 2 + 1) 0
/-- Ranges, two numbers each, that rise. -/
structure Rises (ls : List Int) (n : Nat) : Prop where
  ends : ∀ j k, j ≤ k → k < n → highAt ls j ≤ highAt ls k
  next : ∀ j k, j < k → k < n → highAt ls j < lowAt ls k

/-- A number lies in a range. -/
def InRange (ls : List Int) (n : Nat) (r : Int) : Prop := ∃ j, j < n ∧ lowAt ls j ≤ r ∧ r ≤ highAt ls j

theorem inRange_iff {ls : List Int} {n lo : Nat} {r : Int} (hr : Rises ls n) (h1 : ∀ j, j < lo → highAt ls j < r) (h2 : ∀ j, lo ≤ j → j < n → r ≤ highAt ls j) :
    InRange ls n r ↔ lo < n ∧ lowAt ls lo ≤ r := by
  constructor
  · rintro ⟨j, hj, ha, hb⟩
    have hlo : lo ≤ j := by
      rcases Nat.lt_or_ge j lo with h | h
      · have := h1 j h
        omega
      · exact h
    rcases Nat.lt_or_ge lo j with h | h
    · have h3 := hr.next lo j h hj
      have h4 := h2 lo (Nat.le_refl _) (by omega)
      omega
    · obtain rfl : lo = j := by omega
      exact ⟨hj, ha⟩
  · rintro ⟨h3, h4⟩
    exact ⟨lo, h3, h4, h2 lo (Nat.le_refl _) h3⟩

theorem ret_bool {a b : Bool} (h : a = b) : Ending.returned (.bool a) = .returned (.bool b) := by rw [h]

set_option maxHeartbeats 1000000 in
theorem runes_in.calls (a0 : Int) (g n : Nat) (ls : List Int) (r : Bool) (w : World) (hb : r = true ↔ InRange ls n a0) (hn : n ≤ 1000000) (hr : Rises ls n)
    (hc : ∀ j, j < n → w.cell? ⟨g, j * 2, none⟩ = some (.int .i32 (lowAt ls j)) ∧ w.cell? ⟨g, j * 2 + 1, none⟩ = some (.int .i32 (highAt ls j))) :
    Calls Tryd.prog 70 #[.int .i32 a0, .slice (some ⟨g, 0, none⟩) n n] w fun e w' => e = .returned (.bool r) ∧ w' = w := by
  have HR := Lib.hid hr
  have HC := Lib.hid hc
  have HB := Lib.hid hb
  clear hr hc hb
  go_enter Tryd.func70, Tryd.ntmps70
  go_wp2
  go_loop [5, 6] (fun lo hi => ∃ l h : Nat, l ≤ h ∧ h ≤ n ∧ lo = .int .i64 l ∧ hi = .int .i64 h ∧ Aside0 (∀ j, j < l → highAt ls j < a0) ∧ Aside0 (∀ j, h ≤ j → j < n → a0 ≤ highAt ls j))
    (fun lo hi => (intOf hi).toNat - (intOf lo).toNat)
  case atStart => exact ⟨0, n, Nat.zero_le _, Nat.le_refl _, rfl, rfl, ⟨fun j h => absurd h (Nat.not_lt_zero _)⟩, ⟨fun j h1 h2 => by omega⟩⟩
  case round =>
    obtain ⟨l, h, hlh, hh, rfl, rfl, h1, h2⟩ := hrel
    by_cases hlt : l < h
    · have hm : (l + h) / 2 < n := by omega
      have hcell := (HC.out ((l + h) / 2) hm).2
      by_cases hq : highAt ls ((l + h) / 2) < a0
      · go_wp2
        go_round
        case rel => exact ⟨(l + h) / 2 + 1, h, by omega, hh, by go_num, rfl, ⟨fun j hj => Int.lt_of_le_of_lt (HR.out.ends j ((l + h) / 2) (by omega) hm) hq⟩, h2⟩
        case measure => simp only [intOf]; omega
      · go_wp2
        go_round
        case rel => exact ⟨l, (l + h) / 2, by omega, by omega, rfl, by go_num, h1, ⟨fun j hj hj2 => Int.le_trans (by omega) (HR.out.ends ((l + h) / 2) j hj hj2)⟩⟩
        case measure => simp only [intOf]; omega
    · obtain rfl : l = h := by omega
      have HI := Lib.hid (HB.out.trans (inRange_iff HR.out h1.out h2.out))
      by_cases hl : l < n
      · have hcell := (HC.out l hl).1
        go_wp2
        go_ret
        exact ⟨ret_bool (by rw [Bool.eq_iff_iff, HI.out]; simp [hl]), rfl⟩
      · go_wp2
        go_ret
        exact ⟨ret_bool (by rw [Bool.eq_iff_iff, HI.out]; simp [hl]), rfl⟩
end Go.Proofs.YtdjepocklmlnbaaDoor.Hand

/- Package runes' two tables, what they say of a rune, and Valid and Control walked by hand. -/
namespace Go.Proofs.YtdjepocklmlnbaaDoor.Hand
open Go.RowKit Go.Proofs.YtdjepocklmlnbaaDoorW.PrintWords Go.Proofs.YtdjepocklmlnbaaDoorW.PrintLast Go.Proofs.YtdjepocklmlnbaaDoorW.PrintMore
set_option linter.unusedSimpArgs false

def noneL : List Int := [768, 879, 1155, 1161, 1425, 1469, 1552, 1562, 1611, 1631, 6832, 6911, 7616, 7679, 8203, 8207, 8400, 8447, 65024, 65039, 65056, 65071, 917760, 917999]
def wideL : List Int := [4352, 4447, 9001, 9002, 11904, 12350, 12353, 13311, 13312, 19903, 19968, 42191, 43360, 43391, 44032, 55203, 63744, 64255, 65072, 65135, 65280, 65376, 65504, 65510, 127744, 128591, 129280, 129535, 131072, 196605, 196608, 262141]

theorem rises_of {ls : List Int} {n : Nat} (h : ((List.range n).all fun k => (List.range n).all fun j => (decide (j ≤ k → highAt ls j ≤ highAt ls k)) && decide (j < k → highAt ls j < lowAt ls k)) = true) : Rises ls n := by
  simp only [List.all_eq_true, List.mem_range, Bool.and_eq_true, decide_eq_true_eq] at h
  exact ⟨fun j k hjk hk => (h k hk j (by omega)).1 hjk, fun j k hjk hk => (h k hk j (by omega)).2 hjk⟩
theorem none_rises : Rises noneL 12 := rises_of (by decide +kernel)
theorem wide_rises : Rises wideL 16 := rises_of (by decide +kernel)

/-- The two tables lie in memory as the program's text lays them. -/
structure TabOK (w : World) : Prop where
  tabNone : ∀ j, j < 24 → w.cell? ⟨2, j, none⟩ = some (.int .i32 (noneL.getD j 0))
  tabWide : ∀ j, j < 32 → w.cell? ⟨3, j, none⟩ = some (.int .i32 (wideL.getD j 0))
theorem TabOK.of_below {w w1 : World} (h : TabOK w) (hb : Below w.heap.size w w1) : TabOK w1 :=
  ⟨fun j hj => pw_cell_below hb (h.tabNone j hj), fun j hj => pw_cell_below hb (h.tabWide j hj)⟩

def inRange (ls : List Int) (n : Nat) (r : Int) : Bool := (List.range n).any fun j => decide (lowAt ls j ≤ r) && decide (r ≤ highAt ls j)
theorem inRange_true (ls : List Int) (n : Nat) (r : Int) : inRange ls n r = true ↔ InRange ls n r := by
  simp only [inRange, InRange, List.any_eq_true, List.mem_range, Bool.and_eq_true, decide_eq_true_eq]
def validB (r : Int) : Bool := decide (0 ≤ r) && (decide (r ≤ 1114111) && (decide (r < 55296) || decide (57343 < r)))
def controlB (r : Int) : Bool := (decide (0 ≤ r) && decide (r < 32)) || ((decide (127 ≤ r) && decide (r ≤ 159)) || (decide (r = 8232) || decide (r = 8233)))
def wid (r : Int) : Int := if validB r = false then 0 else if controlB r = true then 0 else if inRange noneL 12 r = true then 0 else if inRange wideL 16 r = true then 2 else 1
def runes_Width.f (a0 : Int) : Option Int := some (wid a0)

theorem valid_calls (a0 : Int) (w : World) : Calls Tryd.prog 68 #[.int .i32 a0] w fun e w' => e = .returned (.bool (validB a0)) ∧ w' = w := by
  by_cases h1 : 0 ≤ a0
  · by_cases h2 : a0 ≤ 1114111
    · by_cases h3 : a0 < 55296
      · go_enter Tryd.func68, Tryd.ntmps68
        go_wp2
        go_ret
        exact ⟨ret_bool (by rw [Bool.eq_iff_iff]; simp [validB]; omega), rfl⟩
      · go_enter Tryd.func68, Tryd.ntmps68
        go_wp2
        go_ret
        exact ⟨ret_bool (by rw [Bool.eq_iff_iff]; simp [validB]; omega), rfl⟩
    · go_enter Tryd.func68, Tryd.ntmps68
      go_wp2
      go_ret
      exact ⟨ret_bool (by rw [Bool.eq_iff_iff]; simp [validB]; omega), rfl⟩
  · go_enter Tryd.func68, Tryd.ntmps68
    go_wp2
    go_ret
    exact ⟨ret_bool (by rw [Bool.eq_iff_iff]; simp [validB]; omega), rfl⟩

theorem control_calls (a0 : Int) (w : World) : Calls Tryd.prog 69 #[.int .i32 a0] w fun e w' => e = .returned (.bool (controlB a0)) ∧ w' = w := by
  by_cases h1 : 0 ≤ a0 <;> by_cases h2 : a0 < 32 <;> by_cases h3 : 127 ≤ a0 <;> by_cases h4 : a0 ≤ 159
  all_goals first
    | (exfalso; omega)
    | (by_cases h5 : a0 = 8232
       · have e5 : (a0 == 8232) = true := by simpa using h5
         have H5 := Lib.hid h5
         clear h5
         go_enter Tryd.func69, Tryd.ntmps69
         go_wp2
         go_ret
         exact ⟨ret_bool (by simp [controlB, h1, h2, h3, h4, H5.out]), rfl⟩
       · have e5 : (a0 == 8232) = false := by simpa using h5
         by_cases h6 : a0 = 8233
         · have e6 : (a0 == 8233) = true := by simpa using h6
           have H6 := Lib.hid h6
           clear h6
           go_enter Tryd.func69, Tryd.ntmps69
           go_wp2
           go_ret
           exact ⟨ret_bool (by simp [controlB, h1, h2, h3, h4, H6.out]), rfl⟩
         · have e6 : (a0 == 8233) = false := by simpa using h6
           go_enter Tryd.func69, Tryd.ntmps69
           go_wp2
           go_ret
           exact ⟨ret_bool (by simp [controlB, h1, h2, h3, h4, h5, h6]), rfl⟩)

end Go.Proofs.YtdjepocklmlnbaaDoor.Hand

/- What the walks of this seat ask of the package variables, group by group. -/
namespace Go.Proofs.YtdjepocklmlnbaaDoor.Hand
open Go.RowKit Go.Proofs.YtdjepocklmlnbaaDoorW.PrintWords Go.Proofs.YtdjepocklmlnbaaDoorW.PrintLast Go.Proofs.YtdjepocklmlnbaaDoorW.PrintMore

/-- The signs that there are. -/
def signS : Nat → ByteArray
  | 0 => ⟨#[27, 91, 48, 109]⟩
  | 1 => ⟨#[27, 91, 49, 109]⟩
  | 2 => ⟨#[27, 91, 52, 109]⟩
  | _ => ⟨#[27, 91, 49, 59, 52, 109]⟩
/-- 0: the tables of package runes; 1: cells.blank; 2: ansi.signs. -/
def Glob : Nat → World → Prop
  | 0, w => TabOK w
  | 1, w => w.cell? ⟨1, 0, none⟩ = some (.int .i32 32) ∧ w.cell? ⟨1, 1, none⟩ = some (.int .u8 0)
  | 2, w => ∀ i, i < 4 → w.cell? ⟨0, i, none⟩ = some (.string (signS i))
  | _, _ => True
theorem Glob.of_below {w w1 : World} (hb : Below w.heap.size w w1) : ∀ (i : Nat), Glob i w → Glob i w1
  | 0, h => TabOK.of_below h hb
  | 1, h => ⟨pw_cell_below hb h.1, pw_cell_below hb h.2⟩
  | 2, h => fun i hi => pw_cell_below hb (h i hi)
  | _ + 3, _ => trivial
def GOK (s : List Nat) (w : World) : Prop := ∀ i ∈ s, Glob i w
theorem GOK.of_below {s : List Nat} {w w1 : World} (h : GOK s w) (hb : Below w.heap.size w w1) : GOK s w1 := fun i hi => Glob.of_below hb i (h i hi)
theorem GOK.of_drawn {s : List Nat} {w w1 : World} (h : GOK s w) (hb : Drawn0 w w1) : GOK s w1 := h.of_below hb.below
theorem GOK.sub {s s' : List Nat} {w : World} (h : GOK s w) (hs : s'.all (s.contains ·) = true) : GOK s' w := fun i hi => h i (by simpa using List.all_eq_true.1 hs i hi)
theorem GOK.nil (w : World) : GOK [] w := fun _ hi => by cases hi
theorem GOK.cons {i : Nat} {s : List Nat} {w : World} (h0 : Glob i w) (h : GOK s w) : GOK (i :: s) w := fun j hj => by
  rcases List.mem_cons.1 hj with rfl | hj
  · exact h0
  · exact h j hj
theorem blank_0 {s : List Nat} {w : World} (h : GOK s w) (hs : s.contains 1 = true) : w.cell? ⟨1, 0, none⟩ = some (.int .i32 32) := (h 1 (by simpa using hs)).1
theorem blank_1 {s : List Nat} {w : World} (h : GOK s w) (hs : s.contains 1 = true) : w.cell? ⟨1, 1, none⟩ = some (.int .u8 0) := (h 1 (by simpa using hs)).2
theorem sign_at {s : List Nat} {w : World} (h : GOK s w) (hs : s.contains 2 = true) (i : Nat) (hi : i < 4) : w.cell? ⟨0, i, none⟩ = some (.string (signS i)) := h 2 (by simpa using hs) i hi
end Go.Proofs.YtdjepocklmlnbaaDoor.Hand

/- How wide a rune is: package runes' Width, walked by hand, under the hypothesis that its two tables lie in memory as the program's text lays them. -/
namespace Go.Proofs.YtdjepocklmlnbaaDoor.Hand
open Go.RowKit Go.Proofs.YtdjepocklmlnbaaDoorW.PrintWords Go.Proofs.YtdjepocklmlnbaaDoorW.PrintLast Go.Proofs.YtdjepocklmlnbaaDoorW.PrintMore
set_option linter.unusedSimpArgs false

theorem none_cells {w : World} (h : TabOK w) : ∀ j, j < 12 → w.cell? ⟨2, j * 2, none⟩ = some (.int .i32 (lowAt noneL j)) ∧ w.cell? ⟨2, j * 2 + 1, none⟩ = some (.int .i32 (highAt noneL j)) :=
  fun j hj => ⟨h.tabNone (j * 2) (by omega), h.tabNone (j * 2 + 1) (by omega)⟩
theorem wide_cells {w : World} (h : TabOK w) : ∀ j, j < 16 → w.cell? ⟨3, j * 2, none⟩ = some (.int .i32 (lowAt wideL j)) ∧ w.cell? ⟨3, j * 2 + 1, none⟩ = some (.int .i32 (highAt wideL j)) :=
  fun j hj => ⟨h.tabWide (j * 2) (by omega), h.tabWide (j * 2 + 1) (by omega)⟩

set_option maxHeartbeats 1000000 in
theorem runes_Width.calls (a0 : Int) (r : Int) (w : World) (hG0 : GOK [0] w) (h : runes_Width.f a0 = some r) :
    Calls Tryd.prog 53 #[.int .i32 a0] w fun e w' => e = .returned (.int .i64 r) ∧ Drawn0 w w' := by
  obtain rfl := Option.some.inj h
  clear h
  have hG : TabOK w := hG0 0 (by simp)
  clear hG0
  have HN := Lib.hid (none_cells hG)
  have HW := Lib.hid (wide_cells hG)
  clear hG
  by_cases h1 : validB a0 = true
  · by_cases h2 : controlB a0 = true
    · go_enter Tryd.func53, Tryd.ntmps53
      go_wp2_with (first | (go_at_call 68; refine (valid_calls _ _).mono ?_; rintro e w' ⟨rfl, rfl⟩) | (go_at_call 69; refine (control_calls _ _).mono ?_; rintro e w' ⟨rfl, rfl⟩))
      go_ret
      exact ⟨by simp [wid, h1, h2], Drawn0.refl _⟩
    · by_cases h3 : inRange noneL 12 a0 = true
      · go_enter Tryd.func53, Tryd.ntmps53
        go_wp2_with (first | (go_at_call 68; refine (valid_calls _ _).mono ?_; rintro e w' ⟨rfl, rfl⟩) | (go_at_call 69; refine (control_calls _ _).mono ?_; rintro e w' ⟨rfl, rfl⟩) | (go_at_call 70; refine (runes_in.calls _ _ _ noneL _ _ (inRange_true _ _ _) (by omega) none_rises HN.out).mono ?_; rintro e w' ⟨rfl, rfl⟩))
        go_ret
        exact ⟨by simp [wid, h1, h2, h3], Drawn0.refl _⟩
      · by_cases h4 : inRange wideL 16 a0 = true
        · go_enter Tryd.func53, Tryd.ntmps53
          go_wp2_with (first | (go_at_call 68; refine (valid_calls _ _).mono ?_; rintro e w' ⟨rfl, rfl⟩) | (go_at_call 69; refine (control_calls _ _).mono ?_; rintro e w' ⟨rfl, rfl⟩) | (go_at_call 70; with_reducible refine (runes_in.calls _ 2 12 noneL _ _ (inRange_true _ _ _) (by omega) none_rises HN.out).mono ?_; rintro e w' ⟨rfl, rfl⟩) | (go_at_call 70; with_reducible refine (runes_in.calls _ 3 16 wideL _ _ (inRange_true _ _ _) (by omega) wide_rises HW.out).mono ?_; rintro e w' ⟨rfl, rfl⟩))
          go_ret
          exact ⟨by simp [wid, h1, h2, h3, h4], Drawn0.refl _⟩
        · go_enter Tryd.func53, Tryd.ntmps53
          go_wp2_with (first | (go_at_call 68; refine (valid_calls _ _).mono ?_; rintro e w' ⟨rfl, rfl⟩) | (go_at_call 69; refine (control_calls _ _).mono ?_; rintro e w' ⟨rfl, rfl⟩) | (go_at_call 70; with_reducible refine (runes_in.calls _ 2 12 noneL _ _ (inRange_true _ _ _) (by omega) none_rises HN.out).mono ?_; rintro e w' ⟨rfl, rfl⟩) | (go_at_call 70; with_reducible refine (runes_in.calls _ 3 16 wideL _ _ (inRange_true _ _ _) (by omega) wide_rises HW.out).mono ?_; rintro e w' ⟨rfl, rfl⟩))
          go_ret
          exact ⟨by simp [wid, h1, h2, h3, h4], Drawn0.refl _⟩
  · go_enter Tryd.func53, Tryd.ntmps53
    go_wp2_with (first | (go_at_call 68; refine (valid_calls _ _).mono ?_; rintro e w' ⟨rfl, rfl⟩) | (go_at_call 69; refine (control_calls _ _).mono ?_; rintro e w' ⟨rfl, rfl⟩))
    go_ret
    exact ⟨by simp [wid, h1], Drawn0.refl _⟩
end Go.Proofs.YtdjepocklmlnbaaDoor.Hand

/- slices.Clone of glyphs, walked by hand: the library's own text; nil stays nil, anything else is laid anew. -/
namespace Go.Proofs.YtdjepocklmlnbaaDoor.Hand
open Go.RowKit Go.Proofs.YtdjepocklmlnbaaDoorW.PrintWords Go.Proofs.YtdjepocklmlnbaaDoorW.PrintLast Go.Proofs.YtdjepocklmlnbaaDoorW.PrintMore Go.Proofs.YtdjepocklmlnbaaDoor.X
set_option linter.unusedVariables false
set_option linter.unusedSimpArgs false

def clone_G.f (l : List S44) : Option (List S44) := if l.length < 17592186044416 then some l else none

set_option maxHeartbeats 8000000 in
set_option maxRecDepth 100000 in
theorem clone_G.calls (A0 : Option Addr) (c0 : Nat) (l0 : List (S44)) (r : List (S44)) (w : World) (hr0 : Kd.C k44 w A0 l0.length l0) (hc0 : l0.length ≤ c0) (h : clone_G.f l0 = some r) :
    Calls Tryd.prog 50 #[.slice A0 l0.length c0] w fun e w' => ∃ v0_ : Value, e = .returned (v0_) ∧ Kd.R k44 44 w' w.heap.size (fun _ => True) v0_ r ∧ Below w.heap.size w w' := by
  have q22 : ∀ (w : World) (a : Option Addr) (n c n' c' : Nat), (binOp .eql 33 (.slice a n c) (.slice none n' c')).run Tryd.prog w = .ok (.bool a.isNone) w := fun w a n c n' c' => Lib.run_eql_slice_nil w _ _ a n c n' c' Tryd.underlying33
  unfold clone_G.f at h
  split at h
  · rename_i hl
    obtain rfl := Option.some.inj h
    clear h
    have HR0 := Aside0.mk hr0
    have HL := Aside0.mk hl
    clear hl
    rcases A0 with _ | ad
    · have h0 : l0 = [] := by
        rcases Nat.eq_zero_or_pos l0.length with h0 | h0
        · exact List.eq_nil_of_length_eq_zero h0
        · obtain ⟨ad, h, _⟩ := hr0.2.2 h0
          cases h
      subst h0
      clear hr0
      go_enter Tryd.func50, Tryd.ntmps50
      go_wp2
      go_ret
      exact ⟨_, rfl, Kd.R_nil _ _ _ _ _, Below.refl _ _⟩
    · clear hr0
      go_enter Tryd.func50, Tryd.ntmps50
      go_wp2_with (first | ((with_reducible refine gate_builtin (b := .append) (xs := #[.tmp 5, .tmp 6]) rfl ?_); at_builtin; refine Kd.R_append_rows k44 (w0 := w) w.heap.size rfl (.tmp 5) (.tmp 6) 33 44 (.agg #[(.int .i32 0), (.int .u8 0)]) 8 rfl Tryd.underlying33 info44 rfl (by decide) (by omega) _ ([] : List (S44)) l0 _ _ _ (fun _ => True) (fun _ => False) rfl rfl ?aO ?aR (fun _ _ h => h) (fun _ h => h.elim) ?aF ?aB ?aS ?aL ?_))
      case aO => exact ⟨fun _ _ => trivial, [], World.ownsRow_made w #[] 0 (Nat.le_refl _) (Nat.zero_le _) rfl, Reps.none _ _⟩
      case aR => exact Kd.C_alloc HR0.out _
      case aF => exact fun _ _ => trivial
      case aB => exact below_alloc (Below.refl _ _) _
      case aS => exact below_size (below_alloc (Below.refl _ _) _)
      case aL => have := HL.out; simp only [List.length_nil]; omega
      intro v1 w1 ho hb hg hat
      have HO := Aside0.mk ho
      have HB := Aside0.mk hb
      clear ho hb hg hat
      go_wp2
      go_ret
      exact ⟨_, rfl, by have := HO.out; simpa using this, HB.out⟩
  · cases h
end Go.Proofs.YtdjepocklmlnbaaDoor.Hand
