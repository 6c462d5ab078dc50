/- HandS: several of this session's texts in one. -/
import Derived.Test.YtadejblahbebdaaDoorX0
import Derived.RangeFuncFrom
import Derived.RangeFuncNested
import Derived.RangeFuncBound
import Derived.RangeFuncCalls
import Derived.RangeFuncLeaves
import Derived.Test.YtadejblahbebdaaDoorWMore
import Derived.Shelf.RegionOpen
import Derived.OwnWalkIn
import Derived.TacticsInMore
import Derived.LoopNIn
import Derived.LoopIn
import Derived.WalkKit
import Derived.Lib.Strings
import Derived.Lib.Slices
import Derived.Lib.Walk
import Derived.Lib.Bytealg
import Derived.Shelf.Abstract
import Derived.Test.YtadejblahbebdaaDoorSpecA
import Derived.Test.YtadejblahbebdaaDoorX2
import Derived.Test.YtadejblahbebdaaDoorX13
import Derived.Test.YtadejblahbebdaaDoorX15
/- The place of the first element that passes a test. -/
namespace Go.Proofs.YtadejblahbebdaaDoor.Hand
open Go.RowKit Go.Proofs.YtadejblahbebdaaDoorW.PrintWords Go.Proofs.YtadejblahbebdaaDoorW.PrintLast Go.Proofs.YtadejblahbebdaaDoorW.PrintMore Go.Proofs.YtadejblahbebdaaDoor.X
/-- The place of the first that passes. -/
def placeOf {α : Type} (p : α → Bool) (l : List α) : Int := match l.findIdx? p with | some i => (i : Int) | none => -1
theorem placeOf_hit {α : Type} {p : α → Bool} {l : List α} {i : Nat} (hi : i < l.length) (hp : p l[i] = true) (h : ∀ j (hj : j < i), p (l[j]'(by omega)) = false) : placeOf p l = i := by
 unfold placeOf
 rw [List.findIdx?_eq_some_iff_getElem.2 ⟨hi, hp, fun j hj => by simpa using h j hj⟩]
theorem placeOf_none {α : Type} {p : α → Bool} {l : List α} (h : ∀ x ∈ l, p x = false) : placeOf p l = -1 := by
 unfold placeOf
 rw [List.findIdx?_eq_none_iff.2 h]

end Go.Proofs.YtadejblahbebdaaDoor.Hand

/- A range over a function whose iterator writes cells of its own, and whose body always goes on: the caller's invariant is told of a state that both may turn. -/
namespace Go.Proofs.YtadejblahbebdaaDoor.Hand
open Go Go.RowKit Go.Proofs.YtadejblahbebdaaDoorW.PrintWords
set_option linter.unusedVariables false
variable {F : Fence} {n : Nat} {P : Program}
/-- A round that goes on. -/
def goesOn {σ : Type} (I : σ → World → Prop) (s : σ) (W : World) : Exit → Act → World → Prop
 | .normal, _, W' => KeepsOthers W W' ∧ I s W'
 | _, _, _ => False
/-- What lies in no cells lies on. -/
def Rest (W W' : World) : Prop := ∀ (k : Nat) (o : Obj), W.heap[k]? = some o → o.isCells = false → W'.heap[k]? = some o
theorem Rest.trans {A B C : World} (h : Rest A B) (k : Rest B C) : Rest A C := fun i o hi ho => k i o (h i o hi ho) ho
theorem Rest.refl (A : World) : Rest A A := fun _ _ h _ => h
theorem Rest.drewN (A : World) (m : Nat) : Rest A (A.drewN m) := fun _ _ h _ => h
theorem Rest.below {A B : World} (h : Below A.heap.size A B) : Rest A B := fun k o hk _ => (h.block k (Array.getElem?_eq_some_iff.1 hk).1).trans hk
theorem Rest.set {A : World} {g j : Nat} {t : TypeId} {cs : Array Value} (hb : A.heap[g]? = some (.cells cs t (0, 0))) (u : Value) : Rest A (A.setCell ⟨g, j, none⟩ u) := fun k o hk ho => by
 have hne : k ≠ g := by
  intro e
  subst e
  rw [hb] at hk
  obtain rfl := Option.some.inj hk
  cases ho
 exact (Below.heap_setCell A ⟨g, j, none⟩ u k hne).trans hk
theorem range_runs {α σ : Type} {g : Operand} {ps : Array Tmp} {assign body : Code} {Q : Exit → Act → World → Prop} {a : Act} {w : World}
  (hro : F.round = none) (h1 : 1 ≤ n) {gf : Nat} {lb : Array Value} (hg : a.eval g = .func (.func gf) #[] lb) (hFg : F.fn gf) (eg : ∀ args w, (callFunc gf args).run P w = .ok (.enter gf args) w)
  {encs : α → Array Value} (hps : ∀ x, (encs x).size = ps.size)
  (I : σ → World → Prop) (nx : σ → α → σ → Prop) (S : σ → Prop) (hI : OwnFrom w.heap.size I) (s0 : σ) (h0 : I s0 w) (a₁ : α → Act)
  (hassign : ∀ (l : Nat) (x : α) (W : World) (K : Act → World → Prop), K (a₁ x) W →
   assign.wpIn (F.inRound l) (n - 1 - 1) P (Exit.then K (fun _ _ _ => False)) { tmps := (ps.zip (encs x)).foldl (fun t (p, v) => t.setIfInBounds p v) a.tmps, defers := [] } W)
  (hbody : ∀ (l : Nat) (s : σ) (x : α) (s' : σ) (W : World), I s W → nx s x s' → body.wpIn (F.inRound l) (n - 1 - 1) P (goesOn I s' W) (a₁ x) W)
  (hiter : ∀ (l : Nat) (J : σ → World → Prop) (W : World), (∀ s W, J s W → I s W) → (∀ s s' W W', J s W → I s' W' → Rest W W' → J s' W') →
   (∀ s x s' W, J s W → nx s x s' → YieldAt F (n - 1 - 1) P l (encs x) W fun e W' => e = .returned (.bool true) ∧ J s' W') → J s0 W →
   CallsIn F (n - 1) P gf (#[.func (.yield l) #[] #[]] ++ lb) W fun e W' => (∃ v, e = .returned v) ∧ ∃ s, S s ∧ J s W')
  (hdone : ∀ (D : Nat) (s : σ) (W : World), w.heap.size ≤ D → S s → I s W → W.heap[D]? = some (.deferred (some [])) → Q .normal { a with defers := { target := .collected D, args := #[] } :: a.defers } W) :
  (Code.rangeFunc g ps assign body).wpIn F n P Q a w := by
 refine wpIn_rangeFunc ?_
 intro fn hfn
 rw [hro]
 obtain ⟨rec, hrec⟩ : ∃ rec : LoopState → Option Code → Loop, rec = fun st pe => { state := st, pending := pe, fn, tmps := a.tmps, params := ps, assign, body, defers := w.heap.size } := ⟨_, rfl⟩
 obtain ⟨W1, hW1⟩ : ∃ W1, (w.alloc (.deferred (some []))).alloc (.loop (rec .ready none)) = W1 := ⟨_, rfl⟩
 have hL1 : W1.heap[w.heap.size + 1]? = some (.loop (rec .ready none)) := by
  have := World.alloc_heap_new (w.alloc (.deferred (some []))) (.loop (rec .ready none))
  rw [World.size_alloc] at this
  rw [← hW1]
  exact this
 have hK1 : W1.heap[w.heap.size]? = some (.deferred (some [])) := by
  rw [← hW1]
  exact (Below.heap_alloc _ _ _ (by simp)).trans (World.alloc_heap_new w _)
 have hI1 : I s0 W1 := by
  rw [← hW1]
  exact hI.alloc _ (hI.alloc _ h0)
 refine ⟨w.heap.size + 1, [{ target := .collected w.heap.size, args := #[] }], W1, { target := .fn (.func gf) lb, args := #[.func (.yield (w.heap.size + 1)) #[] #[]] }, W1, gf,
  #[.func (.yield (w.heap.size + 1)) #[] #[]] ++ lb, W1, ?_, ?_, ?_, ?_, fun _ => h1, ?_⟩
 ·rw [← hW1, hrec]
  exact run_enterLoop_outer _ _ _ _ _
 ·simp only [resolve, hg]
  simp [go_sem]
 ·intro f' hf'
  simp [Target.leads] at hf'
  subst hf'
  exact hFg
 ·simp [invoke, go_sem, eg]
 ·refine (hiter (w.heap.size + 1) (fun s W => I s W ∧ W.heap[w.heap.size + 1]? = some (.loop (rec .ready none)) ∧ W.heap[w.heap.size]? = some (.deferred (some []))) W1 (fun _ _ h => h.1)
   (fun s s' W W' h hi hr => ⟨hi, hr _ _ h.2.1 rfl, hr _ _ h.2.2 rfl⟩) ?_ ⟨hI1, hL1, hK1⟩).mono ?_
  ·rintro s x s' W ⟨hi, hl, hk⟩ hn
   have hlt : w.heap.size + 1 < W.heap.size := (Array.getElem?_eq_some_iff.1 hl).1
   have hy := run_yield (P := P) (args := encs x) hl (by rw [hrec]; exact hps x)
   rw [hrec] at hy
   refine ⟨fn, _, assign, body, hy, roundIn_of_wpIn hfn (hassign _ x W _ ⟨_, run_beginRound hl (by rw [hrec]), ?_⟩)⟩
   have hl2 : (W.putObj (w.heap.size + 1) (.loop { rec .ready none with state := .busy })).heap[w.heap.size + 1]? = some (.loop { rec .ready none with state := .busy }) := World.putObj_heap_same hlt
   have hk2 : (W.putObj (w.heap.size + 1) (.loop { rec .ready none with state := .busy })).heap[w.heap.size]? = some (.deferred (some [])) := (World.putObj_heap_other (by omega)).trans hk
   refine wpIn_mono (hbody _ s x s' _ (hI.putObj _ hi (by omega) hl rfl) hn) ?_
   rintro e a3 W3 hp
   cases e with
   | normal =>
    obtain ⟨hk3, hi3⟩ := hp
    have hl3 := hk3.same _ _ hl2 rfl
    have hr := run_endRound (P := P) none hl3
    rw [hrec] at hl3 hr
    refine ⟨_, _, hr, rfl, hI.putObj _ hi3 (by omega) hl3 rfl, ?_, (World.putObj_heap_other (by omega)).trans (hk3.same _ _ hk2 rfl)⟩
    rw [hrec]
    exact World.putObj_heap_same (Array.getElem?_eq_some_iff.1 hl3).1
   | ret => exact hp.elim
   | exit id => exact hp.elim
   | goto t => exact hp.elim
   | panic ch => exact hp.elim
   | outgrown => exact hp.elim
  ·rintro e W2 ⟨⟨v, rfl⟩, s, hS, hi, hl, hk⟩
   have hr := run_endLoop (P := P) hl (by rw [hrec]; simp)
   rw [hrec] at hr hl
   exact ⟨none, _, hr, hdone _ s _ (Nat.le_refl _) hS (hI.putObj _ hi (by omega) hl rfl) ((World.putObj_heap_other (by omega)).trans hk)⟩
end Go.Proofs.YtadejblahbebdaaDoor.Hand

/- strings.SplitSeq at one line feed, walked by hand: the library's own text. -/
namespace Go.Proofs.YtadejblahbebdaaDoor.Hand
open Go Go.RowKit Go.Shelf Go.Proofs.YtadejblahbebdaaDoorW.PrintWords Go.Proofs.YtadejblahbebdaaDoorW.PrintLast Go.Proofs.YtadejblahbebdaaDoorW.PrintMore Go.Proofs.YtadejblahbebdaaDoor.X
set_option linter.unusedVariables false
set_option linter.unusedSimpArgs false

set_option maxHeartbeats 4000000 in
set_option maxRecDepth 100000 in
theorem lite_IndexByte (s : ByteArray) (c : Int) (w : World) :
  Calls Tryd.prog 80 #[.string s, .int .u8 c] w fun e w' => e = .returned (.int .i64 (Lib.indexByte s.data.toList c.toNat.toUInt8)) ∧ w' = w := by
 go_enter Tryd.func80, Tryd.ntmps80
 go_wp2
 rw [run_callFunc_extern (show Tryd.prog.funcs[84]? = some Tryd.f84 from Tryd.func84) (by kernel_rfl) (by kernel_rfl) (by kernel_rfl) (e := Extern.BytealgIndexByte.indexByte) (by kernel_rfl), Lib.run_indexByteString]
 simp only [Result.andThen]
 rw [Oper.upon_value]
 go_wp2
 go_ret
 exact ⟨rfl, rfl⟩
set_option maxHeartbeats 4000000 in
set_option maxRecDepth 100000 in
theorem lite_Index (s : ByteArray) (w : World) :
  Calls Tryd.prog 77 #[.string s, .string ⟨#[10]⟩] w fun e w' => e = .returned (.int .i64 (Lib.indexByte s.data.toList 10)) ∧ w' = w := by
 have h1 : (⟨#[10]⟩ : ByteArray).size = 1 := rfl
 go_enter Tryd.func77, Tryd.ntmps77
 go_wp2_with (go_at_call 80; refine (lite_IndexByte _ _ _).mono ?_; rintro e w' ⟨rfl, rfl⟩)
 all_goals go_ret
 ·have h2 : ([10] == s.toList) = true := by assumption
  have h3 : s.data.toList = [10] := by rw [← ByteArray.toList_eq]; exact (eq_of_beq h2).symm
  exact ⟨by rw [h3]; rfl, rfl⟩
 ·exact ⟨rfl, rfl⟩
set_option maxHeartbeats 4000000 in
set_option maxRecDepth 100000 in
theorem str_Index (s : ByteArray) (w : World) :
  Calls Tryd.prog 74 #[.string s, .string ⟨#[10]⟩] w fun e w' => e = .returned (.int .i64 (Lib.indexByte s.data.toList 10)) ∧ w' = w := by
 go_enter Tryd.func74, Tryd.ntmps74
 go_wp2_with (go_at_call 77; refine (lite_Index _ _).mono ?_; rintro e w' ⟨rfl, rfl⟩)
 go_ret
 exact ⟨rfl, rfl⟩
/-- The world behind strings.SplitSeq: three variables. -/
def splitW (s : ByteArray) (w : World) : World := ((w.alloc (.cells #[.string s] 9)).alloc (.cells #[.string ⟨#[10]⟩] 9)).alloc (.cells #[.int .i64 0] 3)
def splitV (g : Nat) : Value := .func (.func 72) #[] #[.pointer (some ⟨g + 1, 0, none⟩), .pointer (some ⟨g, 0, none⟩), .pointer (some ⟨g + 1 + 1, 0, none⟩)]
set_option maxHeartbeats 4000000 in
set_option maxRecDepth 100000 in
theorem split_seq (s : ByteArray) (w : World) :
  Calls Tryd.prog 65 #[.string s, .string ⟨#[10]⟩, .int .i64 0] w fun e w' => e = .returned (splitV w.heap.size) ∧ w' = splitW s w := by
 have hmf : ∀ (fn : Fn) (first cap : Array Value) (w : World), (Instr.makeFunc fn first cap).run Tryd.prog w = .ok (.func fn first cap) w := fun _ _ _ _ => rfl
 go_enter Tryd.func65, Tryd.ntmps65
 go_wp2
 go_ret
 exact ⟨rfl, rfl⟩
set_option maxHeartbeats 4000000 in
set_option maxRecDepth 100000 in
theorem Split_Seq (s : ByteArray) (w : World) :
  Calls Tryd.prog 50 #[.string s, .string ⟨#[10]⟩] w fun e w' => e = .returned (splitV w.heap.size) ∧ w' = splitW s w := by
 go_enter Tryd.func50, Tryd.ntmps50
 go_wp2_with (go_at_call 65; refine (split_seq _ _).mono ?_; rintro e w' ⟨rfl, rfl⟩)
 go_ret
 exact ⟨rfl, rfl⟩
/-- The variables of the iterator, as they stand when r is left. -/
def SplitAt (g : Nat) (r : ByteArray) (W : World) : Prop :=
 W.heap[g]? = some (.cells #[.string r] 9 (0, 0)) ∧ W.heap[g + 1]? = some (.cells #[.string ⟨#[10]⟩] 9 (0, 0)) ∧ W.heap[g + 1 + 1]? = some (.cells #[.int .i64 0] 3 (0, 0))
/-- A text's pieces, at line feeds. -/
def nextLf (s : ByteArray) : Int := Lib.indexByte s.data.toList 10
def piecesN : Nat → ByteArray → List ByteArray
 | 0, s => [s]
 | n + 1, s => if nextLf s < 0 then [s] else s.extract 0 (nextLf s).toNat :: piecesN n (s.extract ((nextLf s).toNat + 1) s.size)
def pieces (s : ByteArray) : List ByteArray := piecesN s.size s
theorem nextLf_lt (s : ByteArray) : nextLf s < s.size ∨ nextLf s < 0 := by
 unfold nextLf
 have h : ∀ l : List UInt8, Lib.indexByte l 10 < l.length ∨ Lib.indexByte l 10 < 0 := by
  intro l
  induction l with
  | nil => exact .inr (by decide)
  | cons b l ih =>
   unfold Lib.indexByte
   split
   ·exact .inl (by simp)
   ·split
    ·exact .inr (by decide)
    ·rename_i h
     have h2 := Lib.indexByte_ge l 10
     simp only [beq_iff_eq] at h
     simp only [List.length_cons]
     omega
 have := h s.data.toList
 simpa using this
theorem piecesN_enough : ∀ (n m : Nat) (s : ByteArray), s.size ≤ n → s.size ≤ m → piecesN n s = piecesN m s
 | 0, 0, _, _, _ => rfl
 | 0, m + 1, s, h, _ => by
  have := nextLf_lt s
  rw [piecesN, piecesN, if_pos (by omega)]
 | n + 1, 0, s, _, h => by
  have := nextLf_lt s
  rw [piecesN, piecesN, if_pos (by omega)]
 | n + 1, m + 1, s, h1, h2 => by
  rw [piecesN, piecesN]
  split
  ·rfl
  ·rename_i h
   have := nextLf_lt s
   rw [piecesN_enough n m _ (by rw [ByteArray.size_extract]; omega) (by rw [ByteArray.size_extract]; omega)]
theorem pieces_end {s : ByteArray} (h : nextLf s < 0) : pieces s = [s] := by
 unfold pieces
 cases hs : s.size with
 | zero => rfl
 | succ n => rw [piecesN, if_pos h]
theorem pieces_more {s : ByteArray} (h : 0 ≤ nextLf s) : pieces s = s.extract 0 (nextLf s).toNat :: pieces (s.extract ((nextLf s).toNat + 1) s.size) := by
 have h2 := nextLf_lt s
 unfold pieces
 cases hs : s.size with
 | zero => omega
 | succ n =>
  rw [piecesN, if_neg (by omega), ← hs, piecesN_enough n _ (s.extract ((nextLf s).toNat + 1) s.size) (by rw [ByteArray.size_extract]; omega) (Nat.le_refl _)]
/-- How much is left, told by the world. -/
def leftAt (g : Nat) (W : World) : Nat := match W.cell? ⟨g, 0, none⟩ with
 | some (Value.string r) => r.size
 | _ => 0
theorem leftAt_eq {g : Nat} {r : ByteArray} {W : World} (h : SplitAt g r W) : leftAt g W = r.size := by
 unfold leftAt
 rw [show W.cell? ⟨g, 0, none⟩ = some (Value.string r) from (blk_cell h.1 0).trans rfl]
/-- One value more has come. -/
def cameS (s : List ByteArray × ByteArray) (x : ByteArray) (s' : List ByteArray × ByteArray) : Prop := s' = (s.1 ++ [x], s.2)

set_option maxHeartbeats 8000000 in
set_option maxRecDepth 100000 in
theorem split_iter (n : Nat) (hn : 1 ≤ n) (l g : Nat) (s0 : ByteArray) (J : List ByteArray × ByteArray → World → Prop) (W : World)
  (hread : ∀ s W, J s W → SplitAt g s.2 W) (hset : ∀ pre r r' W, J (pre, r) W → J (pre, r') (W.setCell ⟨g, 0, none⟩ (.string r')))
  (hY : ∀ s x s' W, J s W → cameS s x s' → (∃ t, pieces s0 = s.1 ++ x :: t) → YieldAt Fence.wide (n - 1) Tryd.prog l #[.string x] W fun e W' => e = .returned (.bool true) ∧ J s' W') (h0 : J ([], s0) W) (hs : s0.size ≤ 140737488355328) :
  CallsIn Fence.wide n Tryd.prog 72 #[.func (.yield l) #[] #[], .pointer (some ⟨g + 1, 0, none⟩), .pointer (some ⟨g, 0, none⟩), .pointer (some ⟨g + 1 + 1, 0, none⟩)] W fun e W' => (∃ v, e = .returned v) ∧ ∃ s : List ByteArray × ByteArray, s.1 = pieces s0 ∧ J s W' := by
 refine callsIn_of_wp Tryd.func72 rfl trivial ?_ rfl
 simp only [Tryd.ntmps72, List.size_toArray, List.length_cons, List.length_nil, Nat.reduceAdd, Nat.reduceSub, Array.replicate_succ, Array.replicate_zero, List.push_toArray, List.append_toArray, List.nil_append, List.cons_append]
 have h1 := hread _ _ h0
 have hsep : W.cell? ⟨g + 1, 0, none⟩ = some (.string ⟨#[10]⟩) := (blk_cell h1.2.1 0).trans rfl
 have hsz : (⟨#[10]⟩ : ByteArray).size = 1 := rfl
 gi_wp2
 gi_loopw [7] (fun _ wr => ∃ (pre : List ByteArray) (r : ByteArray), J (pre, r) wr ∧ r.size ≤ s0.size ∧ pre ++ pieces r = pieces s0) (fun _ wr => leftAt g wr)
 case atStart => exact ⟨[], s0, h0, Nat.le_refl _, rfl⟩
 case round =>
  obtain ⟨pre, r, hj, hle, hp⟩ := hrel
  have hc := hread _ _ hj
  have hc0 : wr.cell? ⟨g, 0, none⟩ = some (.string r) := (blk_cell hc.1 0).trans rfl
  have hc1 : wr.cell? ⟨g + 1, 0, none⟩ = some (.string ⟨#[10]⟩) := (blk_cell hc.2.1 0).trans rfl
  have hc2 : wr.cell? ⟨g + 1 + 1, 0, none⟩ = some (.int .i64 0) := (blk_cell hc.2.2 0).trans rfl
  have hidx := str_Index r wr
  rw [show Lib.indexByte r.data.toList 10 = nextLf r from rfl] at hidx
  by_cases hi : nextLf r < 0
  ·obtain ⟨fn, tmps, assign, body, hy, hR⟩ := hY (pre, r) r (pre ++ [r], r) wr hj rfl ⟨[], by rw [← hp, pieces_end hi]⟩
   gi_wp2_with (refine ⟨trivial, ?_⟩; gi_at_call 74; refine (callsIn_wide.2 hidx).mono ?_; rintro e w' ⟨rfl, rfl⟩)
   refine hR.mono ?_
   rintro e W3 ⟨rfl, hj3⟩
   gi_wp2
   go_end0
   exact ⟨⟨_, rfl⟩, (pre ++ [r], r), by rw [← hp, pieces_end hi], hj3⟩
  ·have hlt := nextLf_lt r
   have c1 : ¬ (nextLf r < 0) := hi
   obtain ⟨fn, tmps, assign, body, hy, hR⟩ := hY (pre, r) (r.extract 0 (nextLf r).toNat) (pre ++ [r.extract 0 (nextLf r).toNat], r) wr hj rfl ⟨_, by rw [← hp, pieces_more (s := r) (by omega)]⟩
   gi_wp2_with (refine ⟨trivial, ?_⟩; gi_at_call 74; refine (callsIn_wide.2 hidx).mono ?_; rintro e w' ⟨rfl, rfl⟩)
   refine hR.mono ?_
   rintro e W3 ⟨rfl, hj3⟩
   have hc3 := hread _ _ hj3
   have hd0 : W3.cell? ⟨g, 0, none⟩ = some (.string r) := (blk_cell hc3.1 0).trans rfl
   have hd1 : W3.cell? ⟨g + 1, 0, none⟩ = some (.string ⟨#[10]⟩) := (blk_cell hc3.2.1 0).trans rfl
   have hf0 := blk_frozen hc3.1 0
   have wi : wrap64 (nextLf r + 1) = nextLf r + 1 := by unfold wrap64; omega
   have d1 : (0 : Int) ≤ nextLf r + 1 := by omega
   have d2 : nextLf r + 1 ≤ (r.size : Int) := by omega
   have ht : (nextLf r + 1).toNat = (nextLf r).toNat + 1 := by omega
   clear ht hidx hy hlt hc0 hc1 hc2
   gi_wp2
   have ht : (nextLf r + 1).toNat = (nextLf r).toNat + 1 := by omega
   refine ⟨⟨pre ++ [r.extract 0 (nextLf r).toNat], r.extract (nextLf r + 1).toNat r.size, hset _ _ _ _ hj3, by rw [ByteArray.size_extract]; omega, ?_⟩, ?_⟩
   ·rw [← hp, pieces_more (s := r) (by omega), ht, List.append_assoc]
    rfl
   ·rw [leftAt_eq (hread _ _ (hset _ _ _ _ hj3)), leftAt_eq hc, ByteArray.size_extract]
    omega
end Go.Proofs.YtadejblahbebdaaDoor.Hand

/- plain.Safe, walked by hand: a test of runes handed to the library. -/
namespace Go.Proofs.YtadejblahbebdaaDoor.Hand
open Go.RowKit Go.Proofs.YtadejblahbebdaaDoorW.PrintWords Go.Proofs.YtadejblahbebdaaDoorW.PrintLast Go.Proofs.YtadejblahbebdaaDoorW.PrintMore Go.Proofs.YtadejblahbebdaaDoor.X Go.Proofs.YtadejblahbebdaaDoor.Pure
set_option linter.unusedVariables false
set_option linter.unusedSimpArgs false

/-- A control, but a line feed. -/
def badR (r : Int) : Bool := r != 10 && controlB r
/-- What is asked of a test of runes. -/
def TestR (g : Nat) (lb : Array Value) (p : Int → Bool) (w : World) : Prop :=
 ∀ (W : World) (x : Int), Below w.heap.size w W → Calls Tryd.prog g (#[.int .i32 x] ++ lb) W fun e w' => e = .returned (.bool (p x)) ∧ Below w.heap.size w w'
theorem rune_at {w : World} {A : Option Addr} {n : Nat} {xs : List Int} (h : Kd.C (Kd.int .i32) w A n xs) (i : Nat) (h1 : i < n) (h2 : i < xs.length) : ∃ ad, A = some ad ∧ w.cell? (ad.add i) = some (.int .i32 xs[i]) := by
 obtain ⟨ad, c, e, hl, hk, hc⟩ := Kd.C_get h (0 : Int) (i : Int) (by omega) (by omega)
 have hk' : c = [.int .i32 (xs.getD (i : Int).toNat 0)] := hk
 subst hk'
 refine ⟨ad, e, ?_⟩
 have := hc 0 _ rfl
 rw [Int.toNat_natCast, show (Kd.int .i32).sz = 1 from rfl, Nat.mul_one, Nat.add_zero, List.getD_eq_getElem?_getD, List.getElem?_eq_getElem h2] at this
 exact this

set_option maxHeartbeats 8000000 in
set_option maxRecDepth 100000 in
theorem index_R (A0 : Option Addr) (c0 : Nat) (l0 : List Int) (w : World) (hr0 : Kd.C (Kd.int .i32) w A0 l0.length l0) (p : Int → Bool) (g : Nat) (lb : Array Value)
  (eg : ∀ args w, (callFunc g args).run Tryd.prog w = .ok (.enter g args) w) (hp : TestR g lb p w) :
  Calls Tryd.prog 62 #[.slice A0 l0.length c0, .func (.func g) #[] lb] w fun e w' => e = .returned (.int .i64 (placeOf p l0)) ∧ Below w.heap.size w w' := by
 have HR0 := Aside0.mk hr0
 have hmax := hr0.2.1
 have HM := Aside0.mk hmax
 clear hr0 hmax
 have HP := Aside0.mk hp
 clear hp
 go_enter Tryd.func62, Tryd.ntmps62
 go_wp2
 go_loopg [5, 8] l0.length (fun kq v5 v8 w' => ∃ i : Nat, v8 = .int .i64 i ∧ Aside0 (i ≤ l0.length ∧ l0.length - i ≤ kq ∧ ∀ j (hj : j < l0.length), j < i → p l0[j] = false) ∧ Aside0 (Below w.heap.size w w'))
 case atStart => exact ⟨0, rfl, ⟨by omega, by omega, fun j _ h => absurd h (by omega)⟩, ⟨Below.refl _ _⟩⟩
 case round =>
  obtain ⟨i, rfl, HI, HB⟩ := hrel
  by_cases hlt : i < l0.length
  ·have c1 : decide ((i : Int) < (l0.length : Int)) = true := decide_eq_true (by omega)
   have c2 : (0 : Int) ≤ (i : Int) := by omega
   have c3 : (i : Int) < (l0.length : Int) := by omega
   obtain ⟨ad, e, hx0⟩ := rune_at HR0.out i hlt hlt
   have hcall := HP.out wr l0[i] HB.out
   subst e
   replace hx0 := (HB.out.cell (World.block_lt_of_cell? w _ hx0)).trans hx0
   cases hq : p l0[i] with
   | true =>
    rw [hq] at hcall
    have HC := Aside0.mk hcall
    have HQ := Aside0.mk hq
    clear hcall hq
    go_wp2_with (fail)
    refine HC.out.mono ?_
    rintro e w' ⟨rfl, hb'⟩
    have HBB := Aside0.mk hb'
    clear hb'
    go_wp2
    go_ret
    exact ⟨by rw [placeOf_hit hlt HQ.out (fun j hj => HI.out.2.2 j (by omega) hj)]; rfl, HBB.out⟩
   | false =>
    rw [hq] at hcall
    have HC := Aside0.mk hcall
    have HQ := Aside0.mk hq
    clear hcall hq
    have wi : IntKind.i64.wrap ((i : Int) + 1) = ((i + 1 : Nat) : Int) := by rw [IntKind.wrap_i64]; have := HM.out; omega
    go_wp2_with (fail)
    refine HC.out.mono ?_
    rintro e w' ⟨rfl, hb'⟩
    have HBB := Aside0.mk hb'
    clear hb'
    go_wp2
    obtain ⟨k1, rfl⟩ : ∃ k1, gk = k1 + 1 := ⟨gk - 1, by have := HI.out.2.1; omega⟩
    go_roundg k1
    case measure => omega
    case rel =>
     refine ⟨i + 1, by first | rfl | (simp; done), ⟨by omega, by have := HI.out.2.1; omega, fun j hj hji => ?_⟩, HBB⟩
     by_cases e : j = i
     ·subst e
      exact HQ.out
     ·exact HI.out.2.2 j hj (by omega)
  ·have c1 : decide ((i : Int) < (l0.length : Int)) = false := decide_eq_false (by omega)
   go_wp2
   go_ret
   have hno : ∀ x ∈ l0, p x = false := by
    intro x hx
    obtain ⟨j, hj, rfl⟩ := List.getElem_of_mem hx
    exact HI.out.2.2 j hj (by omega)
   exact ⟨by rw [placeOf_none hno]; rfl, HB.out⟩

theorem bad_test (w : World) : TestR 44 #[] badR w := by
 intro W x hb
 have HB := Aside0.mk hb
 clear hb
 obtain ⟨K, hK⟩ := control_ev x
 have HK := Aside0.mk (hK K (Nat.le_refl _))
 clear hK
 show Calls Tryd.prog 44 #[.int .i32 x] W _
 by_cases h : x = 10
 ·subst h
  go_enter Tryd.func44, Tryd.ntmps44
  go_wp2
  go_ret
  exact ⟨rfl, HB.out⟩
 ·have hc : decide (x = 10) = false := decide_eq_false h
  have HNE := Aside0.mk h
  go_enter Tryd.func44, Tryd.ntmps44
  go_wp2_with (go_at_call 45; refine (runes_Control.calls K x (controlB x) W HK.out).mono ?_; rintro e w' ⟨rfl, ⟨nd, rfl⟩⟩)
  go_ret
  exact ⟨by simp [badR, HNE.out], by repeat (first | exact HB.out | apply below_drew | apply pw_below_drewN)⟩

theorem placeOf_any (p : Int → Bool) (l : List Int) : decide (0 ≤ placeOf p l) = l.any p := by
 unfold placeOf
 cases h : l.findIdx? p with
 | none =>
  have := List.findIdx?_eq_none_iff.1 h
  symm
  simp only [show decide ((0 : Int) ≤ -1) = false from rfl, List.any_eq_false]
  exact fun x hx => by simpa using this x hx
 | some i =>
  obtain ⟨h1, h2, _⟩ := List.findIdx?_eq_some_iff_getElem.1 h
  symm
  simp only [show decide ((0 : Int) ≤ (i : Int)) = true from decide_eq_true (by omega), List.any_eq_true]
  exact ⟨l[i], List.getElem_mem h1, h2⟩

set_option maxHeartbeats 8000000 in
set_option maxRecDepth 100000 in
theorem contains_bad (A0 : Option Addr) (c0 : Nat) (l0 : List Int) (w : World) (hr0 : Kd.C (Kd.int .i32) w A0 l0.length l0) :
  Calls Tryd.prog 47 #[.slice A0 l0.length c0, .func (.func 44) #[] #[]] w fun e w' => e = .returned (.bool (l0.any badR)) ∧ Below w.heap.size w w' := by
 have eg : ∀ args w, (callFunc 44 args).run Tryd.prog w = .ok (.enter 44 args) w := enters_of Tryd.func44 (by kernel_rfl) rfl
 have HI := Aside0.mk (index_R A0 c0 l0 w hr0 badR _ _ eg (bad_test w))
 have HP := Aside0.mk (placeOf_any badR l0)
 clear hr0
 go_enter Tryd.func47, Tryd.ntmps47
 go_wp2_with (go_at_call 62; refine HI.out.mono ?_; rintro e w' ⟨rfl, hb⟩; have HB := Aside0.mk hb; clear hb)
 go_ret
 exact ⟨by rw [← HP.out]; rfl, HB.out⟩

def plain_Safe.f (k : Nat) (b : List Int) : Option Bool := (runes_Right.f k b).bind fun t => if t = true then ((runes_Decode.f k b).bind fun l => some (!(l.any badR))) else some false
theorem plain_Safe.mono : ∀ a0 k, LeO (plain_Safe.f k a0) (plain_Safe.f (k + 1) a0) := by
 intro b k r h
 unfold plain_Safe.f at h ⊢
 obtain ⟨t, h1, h2⟩ := Option.bind_eq_some_iff.1 h
 rw [runes_Right.mono b k t h1, Option.bind_some]
 by_cases ht : t = true
 ·rw [if_pos ht] at h2 ⊢
  obtain ⟨l, h3, h4⟩ := Option.bind_eq_some_iff.1 h2
  rw [runes_Decode.mono b k l h3, Option.bind_some]
  exact h4
 ·rw [if_neg ht] at h2 ⊢
  exact h2
set_option maxHeartbeats 8000000 in
set_option maxRecDepth 100000 in
theorem plain_Safe.calls (k : Nat) (A0 : Option Addr) (c0 : Nat) (l0 : List Int) (r : Bool) (w : World) (hr0 : Kd.C (Kd.int .u8) w A0 l0.length l0) (hc0 : l0.length ≤ c0) (h : plain_Safe.f k l0 = some r) :
  Calls Tryd.prog 26 #[.slice A0 l0.length c0] w fun e w' => e = .returned (.bool r) ∧ Below w.heap.size w w' := by
 unfold plain_Safe.f at h
 obtain ⟨t, h1, h2⟩ := Option.bind_eq_some_iff.1 h
 clear h
 have HR := Aside0.mk hr0
 have HC := Aside0.mk hc0
 have H1 := Aside0.mk h1
 have H2 := Aside0.mk h2
 clear hr0 hc0 h1 h2
 have hright := runes_Right.calls k A0 c0 l0 t w HR.out HC.out H1.out
 have HRI := Aside0.mk hright
 clear hright
 cases t with
 | false =>
  have h2 := H2.out
  rw [if_neg (by simp)] at h2
  obtain rfl := Option.some.inj h2
  clear h2 H2
  go_enter Tryd.func26, Tryd.ntmps26
  go_wp2_with (go_at_call 46; refine HRI.out.mono ?_; rintro e w' ⟨rfl, hb⟩; have HB := Aside0.mk hb; clear hb)
  go_ret
  exact ⟨rfl, HB.out⟩
 | true =>
  have h2 := H2.out
  rw [if_pos rfl] at h2
  obtain ⟨l, h3, h4⟩ := Option.bind_eq_some_iff.1 h2
  obtain rfl := Option.some.inj h4
  have H3 := Aside0.mk h3
  clear h2 H2 h3 h4
  go_enter Tryd.func26, Tryd.ntmps26
  go_wp2_with (first | (go_at_call 46; refine HRI.out.mono ?_; rintro e w1 ⟨rfl, hb⟩; have HB := Aside0.mk hb; clear hb) | (go_at_call 48; refine (runes_Decode.calls k (fun _ => True) A0 c0 l0 l w1 (Kd.V_mono (Kd.V_mk HC.out (Kd.F_below (Kd.C_F (Kd.heap_int .u8) HR.out) HB.out)) (fun _ _ => trivial)) H3.out).mono ?_; rintro e w2 ⟨v2, rfl, hr2, hb2⟩; have HB2 := Aside0.mk (below_step HB.out hb2); have HR2 := Aside0.mk hr2; clear hb2 hr2; obtain ⟨A2, c2, rfl⟩ := Kd.R_slice HR2.out) | (go_at_call 47; refine (contains_bad A2 c2 l w2 (Kd.R_reads' HR2.out).2.2).mono ?_; rintro e w3 ⟨rfl, hb3⟩; have HB3 := Aside0.mk (below_step HB2.out hb3); clear hb3))
  go_ret
  exact ⟨rfl, HB3.out⟩
end Go.Proofs.YtadejblahbebdaaDoor.Hand

/- plain.Read, walked by hand: a range over a text's lines. -/
namespace Go.Proofs.YtadejblahbebdaaDoor.Hand
open Go Go.RowKit Go.Shelf Go.Proofs.YtadejblahbebdaaDoorW.PrintWords Go.Proofs.YtadejblahbebdaaDoorW.PrintLast Go.Proofs.YtadejblahbebdaaDoorW.PrintMore Go.Proofs.YtadejblahbebdaaDoor.X Go.Proofs.YtadejblahbebdaaDoor.Pure
set_option linter.unusedVariables false
set_option linter.unusedSimpArgs false
attribute [local go_sem] Oper.semAt_some
/-- append(v, x) behind x's box, run: x's blocks are okp, none of them v's. -/
theorem S_append_run {α : Type} (d : Kd α) {P : Program} {w0 W : World} (base : Nat) (t e ty : TypeId) (z : Value) (bytes : Nat)
  (ht : P.underlying t = some (.slice e)) (hinfo : (P.info? e).map (fun i => (i.zero, i.size, i.bytes)) = some (some z, d.sz, bytes)) (hz : z.cells.size = d.sz) (hs0 : 0 < d.sz) (hb0 : 0 < bytes)
  (v : Value) (xs : List α) (p : α) (cs : List Value) (ok okp : Nat → Prop) (hp : d.M W base okp p cs) (hokp : ∀ k, okp k → ok k ∧ some k ≠ v.ownBlock) (hfresh : ∀ k, W.heap.size ≤ k → ok k)
  (HO : Kd.S d e W base (fun k => ok k ∧ ¬ okp k) v xs) (HB : Below base w0 W) (hbase : base ≤ W.heap.size) (hl : (xs.length + 1) * bytes ≤ 140737488355328) :
  ∃ v1 w1, (Builtin.append_ #[t, t] ty #[v, .slice (some ⟨W.heap.size, 0, none⟩) 1 1]).run P (W.alloc (.cells cs.toArray e)) = .ok v1 w1 ∧ Kd.S d e w1 base ok v1 (xs ++ [p]) ∧ Below base w0 w1 ∧ W.grownBy w1 v.ownBlock := by
 obtain ⟨f, hf, hR⟩ := Kd.S_tag HO xs.length okp (fun _ hk h2 => h2.2 hk)
 obtain ⟨i0, hi, hzz⟩ := Option.map_eq_some_iff.1 hinfo
 simp only [Prod.mk.injEq] at hzz
 obtain ⟨hz0, hz1, hz2⟩ := hzz
 have hlen : xs.length + 1 ≤ 140737488355328 := Nat.le_trans (Nat.le_mul_of_pos_right _ hb0) hl
 obtain ⟨h0, inner, hown, hr⟩ := Kd.R_mono (ok' := ok) hR (fun _ hk => hk.1)
 rw [List.length_zipIdx] at hown
 have hpt : (Kd.tag f d).M W base okp (p, xs.length) cs := d.M_mono (fun k hk => ⟨hk, hf k hk⟩) hp
 obtain ⟨v1, w1, hrun, hown1, hg, _, hat⟩ := run_append_own_at (P := P) (W.alloc (.cells cs.toArray e)) base t ty e i0 z d.sz bytes ht hi hz0 hz1 hz2 hz hs0 v xs.length inner (hown.alloc _) ⟨W.heap.size, 0, none⟩ 1 1 cs (by rw [d.K_len (d.K_of_M hp)]; simp)
  (by simpa using World.news_of_block (cs := cs.toArray) (t := e) (fr := (0, 0)) (heap_alloc_new W (.cells cs.toArray e))) (d.K_one (d.K_of_M hp)) (by simp only [maxLen]; omega) hl (by simp; omega)
 have hg' : W.grownBy w1 v.ownBlock := World.grownBy.trans (World.grownBy_alloc W _ _) hg
 have hb1 : Below base w0 w1 := (HB.alloc hbase _).grown hg (by simp; omega) (own_base hown)
 have hat' : v1.ownBlock = v.ownBlock ∨ ∃ b, v1.ownBlock = some b ∧ W.heap.size ≤ b := by
  rcases hat with hat | hat
  ·exact .inl hat
  ·exact .inr ⟨_, hat, by simp⟩
 have hfin := Kd.R_appended (xs := xs.zipIdx) h0 hr hpt hokp hfresh (by rw [List.length_zipIdx]; exact hown1) hg' hat'
 rw [← Kd.zip_snoc] at hfin
 exact ⟨v1, w1, hrun, ⟨f, hfin⟩, hb1, hg'⟩
def rowsP (k : Nat) : List ByteArray → Option (List (List Gl))
 | [] => some []
 | x :: t => (cells_Of.f k x 0).bind fun y => (rowsP k t).bind fun ys => some (y :: ys)
theorem rowsP_mono (k : Nat) : ∀ l : List ByteArray, LeO (rowsP k l) (rowsP (k + 1) l)
 | [] => fun r h => h
 | x :: t => fun r h => by
  unfold rowsP at h ⊢
  obtain ⟨y, h1, h2⟩ := Option.bind_eq_some_iff.1 h
  obtain ⟨ys, h3, h4⟩ := Option.bind_eq_some_iff.1 h2
  rw [cells_Of.mono _ _ _ y h1, Option.bind_some, rowsP_mono k t ys h3, Option.bind_some]
  exact h4
theorem rowsP_snoc (k : Nat) : ∀ (l : List ByteArray) (x : ByteArray) (ys : List (List Gl)) (y : List Gl), rowsP k l = some ys → cells_Of.f k x 0 = some y → rowsP k (l ++ [x]) = some (ys ++ [y])
 | [], x, ys, y, h, hy => by
  obtain rfl := Option.some.inj h
  show (cells_Of.f k x 0).bind _ = _
  rw [hy]
  rfl
 | z :: t, x, ys, y, h, hy => by
  unfold rowsP at h
  obtain ⟨u, h1, h2⟩ := Option.bind_eq_some_iff.1 h
  obtain ⟨us, h3, h4⟩ := Option.bind_eq_some_iff.1 h2
  obtain rfl := Option.some.inj h4
  rw [List.cons_append, rowsP, h1, Option.bind_some, rowsP_snoc k t x us y h3 hy]
  rfl
theorem rowsP_prefix (k : Nat) : ∀ (l t : List ByteArray) (r : List (List Gl)), rowsP k (l ++ t) = some r → ∃ a b, rowsP k l = some a ∧ rowsP k t = some b ∧ r = a ++ b
 | [], t, r, h => ⟨[], r, rfl, h, rfl⟩
 | x :: l, t, r, h => by
  rw [List.cons_append, rowsP] at h
  obtain ⟨u, h1, h2⟩ := Option.bind_eq_some_iff.1 h
  obtain ⟨us, h3, h4⟩ := Option.bind_eq_some_iff.1 h2
  obtain rfl := Option.some.inj h4
  obtain ⟨a, b, h5, h6, rfl⟩ := rowsP_prefix k l t us h3
  exact ⟨u :: a, b, by rw [rowsP, h1, Option.bind_some, h5]; rfl, h6, rfl⟩
theorem rowsP_length (k : Nat) : ∀ (l : List ByteArray) (r : List (List Gl)), rowsP k l = some r → r.length = l.length
 | [], r, h => by
  obtain rfl := Option.some.inj h
  rfl
 | x :: l, r, h => by
  rw [rowsP] at h
  obtain ⟨u, h1, h2⟩ := Option.bind_eq_some_iff.1 h
  obtain ⟨us, h3, h4⟩ := Option.bind_eq_some_iff.1 h2
  obtain rfl := Option.some.inj h4
  rw [List.length_cons, List.length_cons, rowsP_length k l us h3]
def plain_Read.f (k : Nat) (b : List Int) : Option (List (List Gl) × Int) :=
 if b.length < 1000000000 then ((strings_CutSuffix.f (strOfNums b) ⟨#[10]⟩).bind fun c => (plain_Safe.f k b).bind fun t => if t = true ∧ (c.2 = true ∨ b.length = 0) then (if b.length = 0 then some ([], 0) else if (pieces c.1).length ≤ 1000000000 ∧ c.1.size ≤ 140737488355328 then ((rowsP k (pieces c.1)).bind fun rows => some (rows, 0)) else none) else some ([], 5)) else none
theorem plain_Read.mono : ∀ a0 k, LeO (plain_Read.f k a0) (plain_Read.f (k + 1) a0) := by
 intro b k r h
 unfold plain_Read.f at h ⊢
 split at h
 ·rename_i hl
  rw [if_pos hl]
  obtain ⟨c, h1, h2⟩ := Option.bind_eq_some_iff.1 h
  obtain ⟨t, h3, h4⟩ := Option.bind_eq_some_iff.1 h2
  rw [h1, Option.bind_some, plain_Safe.mono b k t h3, Option.bind_some]
  split at h4
  ·rename_i ht
   rw [if_pos ht]
   split at h4
   ·rename_i h0
    rw [if_pos h0]
    exact h4
   ·rename_i h0
    rw [if_neg h0]
    split at h4
    ·rename_i hp
     rw [if_pos hp]
     obtain ⟨rows, h5, h6⟩ := Option.bind_eq_some_iff.1 h4
     rw [rowsP_mono k _ rows h5, Option.bind_some]
     exact h6
    ·cases h4
  ·rename_i ht
   rw [if_neg ht]
   exact h4
 ·cases h
set_option maxHeartbeats 8000000 in
set_option maxRecDepth 100000 in
theorem read_bad (k : Nat) (A0 : Option Addr) (c0 : Nat) (l0 : List Int) (w : World) (s : ByteArray) (en t : Bool) (hr0 : Kd.C (Kd.int .u8) w A0 l0.length l0) (hc0 : l0.length ≤ c0)
  (h1 : strings_CutSuffix.f (strOfNums l0) ⟨#[10]⟩ = some (s, en)) (h2 : plain_Safe.f k l0 = some t) (h3 : ¬ (t = true ∧ (en = true ∨ l0.length = 0))) :
  Calls Tryd.prog 27 #[.slice A0 l0.length c0] w fun e w' => e = .returned (.tuple #[.slice none 0 0, .int .i64 5]) ∧ Below w.heap.size w w' := by
 have hcv := Kd.C_string (P := Tryd.prog) (A := A0) (c := c0) Tryd.underlying26 Tryd.underlying5 Tryd.underlying9 hr0
 have HR := Aside0.mk hr0
 have HC := Aside0.mk hc0
 have H1 := Aside0.mk h1
 have H2 := Aside0.mk h2
 clear hr0 hc0 h1 h2
 have hsafe : ∀ W, Below w.heap.size w W → Calls Tryd.prog 26 #[.slice A0 l0.length c0] W fun e w' => e = .returned (.bool t) ∧ Below W.heap.size W w' := fun W hb => plain_Safe.calls k A0 c0 l0 t W (Kd.C_below HR.out hb) HC.out H2.out
 have HSAFE := Aside0.mk hsafe
 clear hsafe
 cases t with
 | false =>
  clear h3
  go_enter Tryd.func27, Tryd.ntmps27
  go_wp2_with (first | (go_at_call 49; refine (strings_CutSuffix.calls _ _ s en _ H1.out).mono ?_; rintro e w1 ⟨rfl, ⟨nd, rfl⟩⟩) | (go_at_call 26; refine (HSAFE.out _ (pw_below_drewN (Below.refl _ _) _)).mono ?_; rintro e w2 ⟨rfl, hb⟩; have HB := Aside0.mk (below_step (pw_below_drewN (Below.refl _ _) _) hb); clear hb))
  go_ret2
  exact ⟨rfl, HB.out⟩
 | true =>
  have he : en = false := by
   cases en
   ·rfl
   ·exact absurd ⟨rfl, .inl rfl⟩ h3
  subst he
  have hl : 0 < l0.length := Nat.pos_of_ne_zero (fun e => h3 ⟨rfl, .inr e⟩)
  have c1 : decide ((l0.length : Int) > 0) = true := decide_eq_true (by omega)
  have c2 : (0 : Int) < (l0.length : Int) := by omega
  clear h3
  go_enter Tryd.func27, Tryd.ntmps27
  go_wp2_with (first | (go_at_call 49; refine (strings_CutSuffix.calls _ _ s false _ H1.out).mono ?_; rintro e w1 ⟨rfl, ⟨nd, rfl⟩⟩) | (go_at_call 26; refine (HSAFE.out _ (pw_below_drewN (Below.refl _ _) _)).mono ?_; rintro e w2 ⟨rfl, hb⟩; have HB := Aside0.mk (below_step (pw_below_drewN (Below.refl _ _) _) hb); clear hb))
  go_ret2
  exact ⟨rfl, HB.out⟩
set_option maxHeartbeats 8000000 in
set_option maxRecDepth 100000 in
theorem read_empty (k : Nat) (A0 : Option Addr) (c0 : Nat) (w : World) (s : ByteArray) (en : Bool) (hr0 : Kd.C (Kd.int .u8) w A0 0 [])
  (h1 : strings_CutSuffix.f (strOfNums []) ⟨#[10]⟩ = some (s, en)) (h2 : plain_Safe.f k [] = some true) :
  Calls Tryd.prog 27 #[.slice A0 0 c0] w fun e w' => e = .returned (.tuple #[.slice none 0 0, .int .i64 0]) ∧ Below w.heap.size w w' := by
 have hcv := Kd.C_string (P := Tryd.prog) (A := A0) (c := c0) Tryd.underlying26 Tryd.underlying5 Tryd.underlying9 (xs := []) hr0
 have hcv2 : (convert 26 9 (.slice A0 0 c0)).run Tryd.prog w = .ok (.string (strOfNums [])) w := hcv
 have HR := Aside0.mk hr0
 have H1 := Aside0.mk h1
 have H2 := Aside0.mk h2
 clear hr0 h1 h2 hcv
 have hsafe : ∀ W, Below w.heap.size w W → Calls Tryd.prog 26 #[.slice A0 0 c0] W fun e w' => e = .returned (.bool true) ∧ Below W.heap.size W w' := fun W hb => plain_Safe.calls k A0 c0 [] true W (Kd.C_below HR.out hb) (Nat.zero_le _) H2.out
 have HSAFE := Aside0.mk hsafe
 clear hsafe
 go_enter Tryd.func27, Tryd.ntmps27
 go_wp2_with (first | (go_at_call 49; refine (strings_CutSuffix.calls _ _ s en _ H1.out).mono ?_; rintro e w1 ⟨rfl, ⟨nd, rfl⟩⟩) | (go_at_call 26; refine (HSAFE.out _ (pw_below_drewN (Below.refl _ _) _)).mono ?_; rintro e w2 ⟨rfl, hb⟩; have HB := Aside0.mk (below_step (pw_below_drewN (Below.refl _ _) _) hb); clear hb))
 all_goals
  go_ret2
  exact ⟨rfl, HB.out⟩

/-- An append that is known to run, as a region's operation inside a round. -/
theorem step_append {F : Fence} {n : Nat} {P : Program} {Q : Exit → Act → World → Prop} {K : Act → World → Prop} {o : Oper} {a : Act} {w : World} {ops : Array Oper} {x y : Operand} {t u ty : TypeId} {vx vy v1 : Value} {w1 : World}
  (hw : Region.wanted o (yielded ops a.tmps) = true) (ho : o.op = .call { callee := .builtin .append, args := #[x, y], argTypes := #[t, u] }) (hty : o.type = ty) (hx : a.eval x = vx) (hy : a.eval y = vy)
  (hrun : (Builtin.append_ #[t, u] ty #[vx, vy]).run P w = .ok v1 w1) (h : K (a.put o.dst v1) w1) :
  if Region.wanted o (yielded ops a.tmps) = true then Oper.wpIn F n P o a w K Q else (∀ f, o.about P w a.eval = some f → F.fn f) ∧ K (a.put o.dst undef) w := by
 rw [if_pos hw]
 have hse : (o.semAt F.round a.eval) = execOp a.eval o := Oper.semAt_eq _ _ _ (fun c hc => by rw [ho] at hc; cases hc)
 refine ⟨fun f hf => by simp [Oper.about, ho, resolve, Target.leads, Sem.run_pure] at hf, ?_⟩
 rw [hse]
 have hex : (execOp a.eval o).run P w = .ok (.value v1) w1 := by
  simp [execOp, ho, resolve, invoke, builtin, hx, hy, hty, hrun, Result.andThen]
 rw [hex]
 exact h
set_option maxHeartbeats 8000000 in
set_option maxRecDepth 100000 in
theorem read_rows (k : Nat) (A0 : Option Addr) (c0 : Nat) (l0 : List Int) (w : World) (s : ByteArray) (rows : List (List Gl)) (hr0 : Kd.C (Kd.int .u8) w A0 l0.length l0) (hc0 : l0.length ≤ c0)
  (h1 : strings_CutSuffix.f (strOfNums l0) ⟨#[10]⟩ = some (s, true)) (h2 : plain_Safe.f k l0 = some true) (h3 : 0 < l0.length) (h4 : rowsP k (pieces s) = some rows) (h5 : (pieces s).length ≤ 1000000000) (hs : s.size ≤ 140737488355328) :
  Calls Tryd.prog 27 #[.slice A0 l0.length c0] w fun e w' => ∃ v, e = .returned (.tuple #[v, .int .i64 0]) ∧ Kd.S (Kd.slice 37 k37) 33 w' w.heap.size (fun _ => True) v rows ∧ Below w.heap.size w w' := by
 have hcv := Kd.C_string (P := Tryd.prog) (A := A0) (c := c0) Tryd.underlying26 Tryd.underlying5 Tryd.underlying9 hr0
 have HR := Aside0.mk hr0
 have HC := Aside0.mk hc0
 have H1 := Aside0.mk h1
 have H2 := Aside0.mk h2
 have H4 := Aside0.mk h4
 have H5 := Aside0.mk h5
 have HS := Aside0.mk hs
 clear hr0 hc0 h1 h2 h4 h5 hs
 have hsafe : ∀ W, Below w.heap.size w W → Calls Tryd.prog 26 #[.slice A0 l0.length c0] W fun e w' => e = .returned (.bool true) ∧ Below W.heap.size W w' := fun W hb => plain_Safe.calls k A0 c0 l0 true W (Kd.C_below HR.out hb) HC.out H2.out
 have HSAFE := Aside0.mk hsafe
 clear hsafe
 have c1 : decide ((l0.length : Int) > 0) = true := decide_eq_true (by omega)
 have c2 : (0 : Int) < (l0.length : Int) := by omega
 have c3 : ¬ (l0.length : Int) = 0 := by omega
 refine callsIn_wide.1 (callsIn_of_wp_marks (n := 6) Tryd.func27 rfl trivial ?_ rfl)
 simp only [Tryd.ntmps27, List.size_toArray, List.length_cons, List.length_nil, Nat.reduceAdd, Nat.reduceSub, Array.replicate_succ, Array.replicate_zero, List.push_toArray, List.append_toArray, List.nil_append, List.cons_append]
 gi_wp2_with (first | (refine ⟨trivial, ?_⟩; gi_at_call 49; refine (callsIn_wide.2 (strings_CutSuffix.calls _ _ s true _ H1.out)).mono ?_; rintro e w1 ⟨rfl, ⟨nd, rfl⟩⟩) | (refine ⟨trivial, ?_⟩; gi_at_call 26; refine (callsIn_wide.2 (HSAFE.out _ (pw_below_drewN (Below.refl _ _) _))).mono ?_; rintro e w2 ⟨rfl, hb⟩; have HB := Aside0.mk (below_step (pw_below_drewN (Below.refl _ _) _) hb); clear hb) | (refine ⟨trivial, ?_⟩; gi_at_call 50; refine (callsIn_wide.2 (Split_Seq _ _)).mono ?_; rintro e w3 ⟨rfl, rfl⟩))
 have hg : w2.heap.size + 1 = (w2.alloc (.cells #[.slice none 0 0] 30)).heap.size := by simp
 have hX0 : ∀ W : World, W.heap[w2.heap.size]? = some (.cells #[.slice none 0 0] 30 (0, 0)) → W.heap.size = w2.heap.size + 1 → SplitAt (w2.heap.size + 1) s (splitW s W) ∧ (splitW s W).heap[w2.heap.size]? = some (.cells #[.slice none 0 0] 30 (0, 0)) := by
  intro W h1 h2
  have e1 := blk_new W (.cells #[.string s] 9)
  have e2 := blk_new (W.alloc (.cells #[.string s] 9)) (.cells #[.string ⟨#[10]⟩] 9)
  have e3 := blk_new ((W.alloc (.cells #[.string s] 9)).alloc (.cells #[.string ⟨#[10]⟩] 9)) (.cells #[.int .i64 0] 3)
  simp only [World.size_alloc, h2] at e1 e2 e3
  exact ⟨⟨blk_alloc (blk_alloc e1 _) _, blk_alloc e2 _, e3⟩, blk_alloc (blk_alloc (blk_alloc h1 _) _) _⟩
 obtain ⟨hsp0, hbx0⟩ := hX0 (w2.alloc (.cells #[.slice none 0 0] 30)) (blk_new w2 _) (by simp)
 have hb0 : Below w.heap.size w (splitW s (w2.alloc (.cells #[.slice none 0 0] 30))) := below_alloc (below_alloc (below_alloc (below_alloc HB.out _) _) _) _
 have hsz0 : (splitW s (w2.alloc (.cells #[.slice none 0 0] 30))).heap.size = w2.heap.size + 1 + 1 + 1 + 1 := by simp [splitW]
 generalize splitW s (w2.alloc (.cells #[.slice none 0 0] 30)) = w3 at hsp0 hbx0 hb0 hsz0 ⊢
 have hwG : w.heap.size ≤ w2.heap.size := HB.out.size
 clear hX0 hg
 generalize w2.heap.size = G at hwG hsp0 hbx0 hsz0 ⊢
 refine range_runs (F := Fence.wide) (n := 6) (σ := List ByteArray × ByteArray) (α := ByteArray) rfl (by decide) (gf := 72) (lb := #[.pointer (some ⟨G + 1 + 1, 0, none⟩), .pointer (some ⟨G + 1, 0, none⟩), .pointer (some ⟨G + 1 + 1 + 1, 0, none⟩)]) rfl trivial (enters_of Tryd.func72 (by kernel_rfl) rfl)
  (encs := fun x => #[.string x]) (fun _ => rfl)
  (fun st W => SplitAt (G + 1) st.2 W ∧ Below w.heap.size w W ∧ G + 1 + 1 + 1 + 1 ≤ W.heap.size ∧ ∃ v ys, W.heap[G]? = some (.cells #[v] 30 (0, 0)) ∧ rowsP k st.1 = some ys ∧ Kd.S (Kd.slice 37 k37) 33 W w.heap.size (fun q => q ≠ G ∧ q ≠ G + 1 ∧ q ≠ G + 1 + 1 ∧ q ≠ G + 1 + 1 + 1) v ys)
  (fun st x st' => cameS st x st' ∧ ∃ t, pieces s = st.1 ++ x :: t) (fun st => st.1 = pieces s) ?own ([], s) ?start
  (fun x => { tmps := #[Value.slice A0 l0.length c0, undef, Value.slice none 0 0, Value.int IntKind.i64 0, Value.string s,
     Value.bool true, Value.pointer (some { block := G, off := 0 }), Value.string x,
     Value.tuple #[Value.string s, Value.bool true], Value.slice A0 l0.length c0, Value.string (strOfNums l0),
     Value.tuple #[Value.string s, Value.bool true], Value.string s, Value.bool true, Value.slice A0 l0.length c0,
     Value.bool true, Value.bool false, Value.bool false, Value.bool true, Value.bool false, Value.bool false,
     undef, undef, undef, Value.bool false, Value.bool false, Value.slice A0 l0.length c0,
     Value.int IntKind.i64 l0.length, Value.bool false, Value.string s, splitV (G + 1), Value.string x, undef,
     undef, undef, undef, undef, undef], defers := [] }) ?assign ?body ?iter ?done
 case own =>
  intro st W W' row hs hgr hrow
  obtain ⟨h1, h2, h3, v, ys, h4, h5, h6⟩ := hs
  have hne : ∀ q, q < G + 1 + 1 + 1 + 1 → some q ≠ row := fun q hq e => by have := (hrow q e.symm).1; omega
  refine ⟨⟨blk_grown h1.1 hgr (hne _ (by omega)), blk_grown h1.2.1 hgr (hne _ (by omega)), blk_grown h1.2.2 hgr (hne _ (by omega))⟩, h2.grown hgr h2.size (fun q e => by have := (hrow q e).1; omega), Nat.le_trans h3 hgr.size, v, ys, blk_grown h4 hgr (hne _ (by omega)), h5, ?_⟩
  refine Kd.S_mono (Kd.S_grown (Kd.S_bound h6) hgr (fun q hq e => ?_)) (fun q hq => hq.1)
  obtain ⟨_, _, _, _, _, cells, hc⟩ := hq
  obtain ⟨_, o, ho, hoc⟩ := hrow q e.symm
  rw [hc] at ho
  obtain rfl := Option.some.inj ho
  cases hoc
 case start =>
  exact ⟨hsp0, hb0, by omega, _, [], hbx0, rfl, Kd.S_nil _ _ _ _ _⟩
 case assign =>
  intro l x W K hK
  gi_wp2
  exact hK
 case iter =>
  intro l J W hJI hJ hY hj0
  refine split_iter 5 (by decide) l (G + 1) s J W (fun st W h => (hJI st W h).1) ?_ (fun st x st' W h hc ht => hY st x st' W h ⟨hc, ht⟩) hj0 HS.out
  intro pre r r' W hj
  obtain ⟨h1, h2, h3, v, ys, h4, h5, h6⟩ := hJI _ _ hj
  exact hJ _ _ _ _ hj ⟨⟨blk_put h1.1 0 _ rfl, blk_far h1.2.1 (by show G + 1 + 1 ≠ G + 1; omega) _, blk_far h1.2.2 (by show G + 1 + 1 + 1 ≠ G + 1; omega) _⟩, below_set h2 (by omega), by simpa using h3, v, ys, blk_far h4 (by show G ≠ G + 1; omega) _, h5, Kd.S_far h6 (fun q hq => hq.2.1) _⟩ (Rest.set h1.1 _)
 case done =>
  rintro D ⟨pre, r⟩ W hD hpre ⟨h1, h2, h3, v, ys, h4, h5, h6⟩ hK
  simp only at hpre h5
  subst hpre
  obtain rfl : rows = ys := Option.some.inj (H4.out.symm.trans h5)
  have hc0 : W.cell? ⟨G, 0, none⟩ = some v := (blk_cell h4 0).trans rfl
  obtain ⟨Av, cv, rfl⟩ := Kd.S_slice h6
  gi_wp2
  refine ⟨by simp, .inl ⟨_, _, rfl, run_takeDeferred hK, ?_⟩⟩
  refine ⟨_, results_tmp2 rfl _ _ _, ?_⟩
  refine ⟨_, rfl, ?_, ?_⟩
  ·refine Kd.S_mono (Kd.S_grown (Kd.S_bound h6) (grownBy_putObj' W D _) (fun q hq e => ?_)) (fun _ _ => trivial)
   obtain ⟨_, _, _, _, _, cells, hcl⟩ := hq
   obtain rfl := Option.some.inj e
   rw [hK] at hcl
   cases hcl
  ·exact h2.grown (grownBy_putObj' W D _) h2.size (fun q e => by obtain rfl := Option.some.inj e; omega)
 case body =>
  rintro l ⟨pre, r⟩ x st' W ⟨h1, h2, h3, v, ys, h4, h5, h6⟩ ⟨hst, t, ht⟩
  have hst' : st' = (pre ++ [x], r) := hst
  subst hst'
  clear hst
  have hr := H4.out
  rw [ht] at hr
  obtain ⟨ra, rb, hra, hrb, hrab⟩ := rowsP_prefix k _ _ _ hr
  rw [rowsP] at hrb
  obtain ⟨y, hy, _⟩ := Option.bind_eq_some_iff.1 hrb
  have hmx : Tryd.prog.follows .mixedOrders = true := by kernel_rfl
  have hys : ys.length = pre.length := rowsP_length k _ _ h5
  have hcnt : pre.length + 1 ≤ 1000000000 := by
   have := H5.out
   rw [ht, List.length_append, List.length_cons] at this
   simp only at this
   omega
  have hcd : W.drew.cell? ⟨G, 0, none⟩ = some v := (blk_cell h4 0).trans rfl
  gi_wp2
  refine wpIn_region_any (by assumption) ?_
  change wpAnyIn _ _ _ _ _ _ _ _ _ (World.drew _)
  refine wpAnyIn_ready (rs := [0, 1]) (by kernel_rfl) (by simp) ?_
  refine AllReadyIn.cons rfl (fun K hK => ?_) (AllReadyIn.cons rfl (fun K hK => ?_) AllReadyIn.nil)
  case' refine_1 =>
   go_simp
   refine hK _ _ ?_
   clear hK K
   refine wpAnyIn_ready (rs := [1]) (by kernel_rfl) (by simp) ?_
   refine AllReadyIn.cons rfl (fun K hK => ?_) AllReadyIn.nil
   go_simp
   refine hK _ _ ?_
   clear hK K
   refine wpAnyIn_ready (rs := [2]) (by kernel_rfl) (by simp) ?_
   refine AllReadyIn.cons rfl (fun K hK => ?_) AllReadyIn.nil
   go_simp
   refine ⟨trivial, (CallsIn.inRound l (callsIn_wide.2 (cells_Of.calls k x 0 y _ hy))).mono ?_⟩
   rintro e w' ⟨vy, rfl, hry, hby⟩
   refine hK _ _ ?_
   clear hK K
   obtain ⟨Ay, cy, rfl⟩ := Kd.R_slice hry
   have hbox : w'.heap[G]? = some (.cells #[v] 30 (0, 0)) := blk_below (w := W.drew) h4 hby
   have hcw : w'.cell? ⟨G, 0, none⟩ = some v := (blk_cell hbox 0).trans rfl
   have hca : ∀ o, (w'.alloc o).cell? ⟨G, 0, none⟩ = some v := fun o => (blk_cell (blk_alloc hbox o) 0).trans rfl
   refine wpAnyIn_ready (rs := [3]) (by kernel_rfl) (by simp) ?_
   refine AllReadyIn.cons rfl (fun K hK => ?_) AllReadyIn.nil
   go_simp
   refine hK _ _ ?_
   clear hK K
  case' refine_2 =>
   go_simp
   refine hK _ _ ?_
   clear hK K
   refine wpAnyIn_ready (rs := [0, 2]) (by kernel_rfl) (by simp) ?_
   refine AllReadyIn.cons rfl (fun K hK => ?_) (AllReadyIn.cons rfl (fun K hK => ?_) AllReadyIn.nil)
   case' refine_1 =>
    go_simp
    refine hK _ _ ?_
    clear hK K
    refine wpAnyIn_ready (rs := [2]) (by kernel_rfl) (by simp) ?_
    refine AllReadyIn.cons rfl (fun K hK => ?_) AllReadyIn.nil
    go_simp
    refine ⟨trivial, (CallsIn.inRound l (callsIn_wide.2 (cells_Of.calls k x 0 y _ hy))).mono ?_⟩
    rintro e w' ⟨vy, rfl, hry, hby⟩
    refine hK _ _ ?_
    clear hK K
    obtain ⟨Ay, cy, rfl⟩ := Kd.R_slice hry
    have hbox : w'.heap[G]? = some (.cells #[v] 30 (0, 0)) := blk_below (w := W.drew) h4 hby
    have hcw : w'.cell? ⟨G, 0, none⟩ = some v := (blk_cell hbox 0).trans rfl
    have hca : ∀ o, (w'.alloc o).cell? ⟨G, 0, none⟩ = some v := fun o => (blk_cell (blk_alloc hbox o) 0).trans rfl
    refine wpAnyIn_ready (rs := [3]) (by kernel_rfl) (by simp) ?_
    refine AllReadyIn.cons rfl (fun K hK => ?_) AllReadyIn.nil
    go_simp
    refine hK _ _ ?_
    clear hK K
   case' refine_2 =>
    go_simp
    refine ⟨trivial, (CallsIn.inRound l (callsIn_wide.2 (cells_Of.calls k x 0 y _ hy))).mono ?_⟩
    rintro e w' ⟨vy, rfl, hry, hby⟩
    refine hK _ _ ?_
    clear hK K
    obtain ⟨Ay, cy, rfl⟩ := Kd.R_slice hry
    have hbox : w'.heap[G]? = some (.cells #[v] 30 (0, 0)) := blk_below (w := W.drew) h4 hby
    have hcw : w'.cell? ⟨G, 0, none⟩ = some v := (blk_cell hbox 0).trans rfl
    have hca : ∀ o, (w'.alloc o).cell? ⟨G, 0, none⟩ = some v := fun o => (blk_cell (blk_alloc hbox o) 0).trans rfl
    refine wpAnyIn_ready (rs := [0, 3]) (by kernel_rfl) (by simp) ?_
    refine AllReadyIn.cons rfl (fun K hK => ?_) (AllReadyIn.cons rfl (fun K hK => ?_) AllReadyIn.nil)
    case' refine_1 =>
     go_simp
     refine hK _ _ ?_
     clear hK K
     refine wpAnyIn_ready (rs := [3]) (by kernel_rfl) (by simp) ?_
     refine AllReadyIn.cons rfl (fun K hK => ?_) AllReadyIn.nil
     go_simp
     refine hK _ _ ?_
     clear hK K
    case' refine_2 =>
     go_simp
     refine hK _ _ ?_
     clear hK K
     refine wpAnyIn_ready (rs := [0]) (by kernel_rfl) (by simp) ?_
     refine AllReadyIn.cons rfl (fun K hK => ?_) AllReadyIn.nil
     go_simp
     refine hK _ _ ?_
     clear hK K
  all_goals
   refine wpAnyIn_ready (rs := [4]) (by kernel_rfl) (by simp) ?_
   refine AllReadyIn.cons rfl (fun K hK => ?_) AllReadyIn.nil
   have hbd : Below w.heap.size w W.drew := below_drew h2
   have hbw : Below w.heap.size w w' := below_step hbd hby
   have hszw : W.heap.size ≤ w'.heap.size := hby.size
   have hsp : SplitAt (G + 1) r w' := ⟨blk_below (w := W.drew) h1.1 hby, blk_below (w := W.drew) h1.2.1 hby, blk_below (w := W.drew) h1.2.2 hby⟩
   have hpM : (Kd.slice 37 k37).M w' w.heap.size (fun q => W.heap.size ≤ q) y [.slice Ay y.length cy] := ⟨_, rfl, Kd.R_lower (Kd.R_mono (Kd.R_bound hry) (fun q hq => hq.2.1)) h2.size⟩
   have hHO : Kd.S (Kd.slice 37 k37) 33 w' w.heap.size (fun q => (q ≠ G ∧ q ≠ G + 1 ∧ q ≠ G + 1 + 1 ∧ q ≠ G + 1 + 1 + 1) ∧ ¬ W.heap.size ≤ q) v ys :=
    Kd.S_mono (Kd.S_below (Kd.S_drew (Kd.S_bound h6)) hby) (fun q hq => ⟨hq.1, Nat.not_le.2 hq.2.2.1⟩)
   have hvb : ∀ q, v.ownBlock = some q → (q ≠ G ∧ q ≠ G + 1 ∧ q ≠ G + 1 + 1 ∧ q ≠ G + 1 + 1 + 1) ∧ ¬ W.heap.size ≤ q := (Kd.S_R hHO).1
   have hne : ∀ q, G ≤ q → q < G + 1 + 1 + 1 + 1 → some q ≠ v.ownBlock := fun q ha hb e => by
    have := (hvb q e.symm).1
    omega
   obtain ⟨v1, w1, hrun, hS1, hB1, hg1⟩ := S_append_run (P := Tryd.prog) (W := w') (Kd.slice 37 k37) w.heap.size 30 33 30 (.slice none 0 0) 24 Tryd.underlying30 info33 rfl (by decide) (by decide) v ys y [.slice Ay y.length cy]
    (fun q => q ≠ G ∧ q ≠ G + 1 ∧ q ≠ G + 1 + 1 ∧ q ≠ G + 1 + 1 + 1) (fun q => W.heap.size ≤ q) hpM (fun q hq => ⟨⟨by omega, by omega, by omega, by omega⟩, fun e => (hvb q e.symm).2 hq⟩) (fun q hq => ⟨by omega, by omega, by omega, by omega⟩) hHO hbw hbw.size (by omega)
   refine step_append rfl rfl rfl rfl rfl hrun (hK _ _ ?_)
   clear hK K
   obtain ⟨Av1, cv1, rfl⟩ := Kd.S_slice hS1
   have hb1 : w1.heap[G]? = some (.cells #[v] 30 (0, 0)) := blk_grown hbox hg1 (hne _ (by omega) (by omega))
   have hc1 : w1.cell? ⟨G, 0, none⟩ = some v := (blk_cell hb1 0).trans rfl
   have hf1 : w1.frozen? ⟨G, 0, none⟩ = false := blk_frozen hb1 0
   refine wpAnyIn_ready (rs := [5]) (by kernel_rfl) (by simp) ?_
   refine AllReadyIn.cons rfl (fun K hK => ?_) AllReadyIn.nil
   go_simp
   refine hK _ _ ?_
   clear hK K
   refine wpAnyIn_done (by kernel_rfl) ?_ _
   gi_wp2
   have hlen : (ys ++ [y]).length = pre.length + 1 := by simp [hys]
   rw [hlen] at hS1
   have hsz1 : w'.heap.size ≤ w1.heap.size := hg1.size
   refine ⟨(KeepsOthers.drew W).trans (KeepsOthers.trans (B := w') ⟨hby.size, fun q o hq _ => (hby.block q (blk_lt hq)).trans hq⟩ ((KeepsOthers.of_grownBy hg1 (fun j o e hj => ?_)).trans (KeepsOthers.setCell _ _ _))),
    ⟨blk_far (blk_grown hsp.1 hg1 (hne _ (by omega) (by omega))) (by show G + 1 ≠ G; omega) _, blk_far (blk_grown hsp.2.1 hg1 (hne _ (by omega) (by omega))) (by show G + 1 + 1 ≠ G; omega) _, blk_far (blk_grown hsp.2.2 hg1 (hne _ (by omega) (by omega))) (by show G + 1 + 1 + 1 ≠ G; omega) _⟩,
    below_set hB1 (by omega), by rw [World.size_setCell]; omega, .slice Av1 (pre.length + 1) cv1, ys ++ [y], blk_put hb1 0 _ rfl, rowsP_snoc k _ x ys y h5 hy, Kd.S_far hS1 (fun q hq => hq.1) _⟩
   obtain ⟨_, _, _, _, _, cells, hcl⟩ := (Kd.S_R (Kd.S_bound hHO)).1 j e
   rw [hcl] at hj
   obtain rfl := Option.some.inj hj
   rfl
theorem plain_Read.calls (k : Nat) (A0 : Option Addr) (c0 : Nat) (l0 : List Int) (r1 : List (List (Gl))) (r2 : Int) (w : World) (hr0 : Kd.C (Kd.int .u8) w A0 l0.length l0) (hc0 : l0.length ≤ c0) (h : plain_Read.f k l0 = some (r1, r2)) :
  Calls Tryd.prog 27 #[.slice A0 l0.length c0] w fun e w' => ∃ v0_ : Value, e = .returned (.tuple #[v0_, .int .i64 r2]) ∧ Kd.S (Kd.slice 37 k37) 33 w' w.heap.size (fun _ => True) v0_ r1 ∧ Below w.heap.size w w' := by
 unfold plain_Read.f at h
 split at h
 ·rename_i hl
  obtain ⟨⟨s, en⟩, h1, h2⟩ := Option.bind_eq_some_iff.1 h
  obtain ⟨t, h3, h4⟩ := Option.bind_eq_some_iff.1 h2
  simp only at h4
  split at h4
  ·rename_i ht
   obtain ⟨rfl, he⟩ := ht
   split at h4
   ·rename_i h0
    obtain rfl : l0 = [] := List.eq_nil_of_length_eq_zero h0
    cases h4
    exact (read_empty k A0 c0 w s en hr0 h1 h3).mono (by rintro e w' ⟨rfl, hb⟩; exact ⟨_, rfl, Kd.S_nil _ _ _ _ _, hb⟩)
   ·rename_i h0
    obtain rfl : en = true := by
     rcases he with he | he
     ·exact he
     ·exact absurd he h0
    split at h4
    ·rename_i hp
     obtain ⟨rows, h5, h6⟩ := Option.bind_eq_some_iff.1 h4
     cases h6
     refine (read_rows k A0 c0 l0 w s r1 hr0 hc0 h1 h3 (Nat.pos_of_ne_zero h0) h5 hp.1 hp.2).mono (by rintro e w' ⟨v, rfl, h7, h8⟩; exact ⟨_, rfl, h7, h8⟩)
    ·cases h4
  ·rename_i ht
   cases h4
   exact (read_bad k A0 c0 l0 w s en t hr0 hc0 h1 h3 ht).mono (by rintro e w' ⟨rfl, hb⟩; exact ⟨_, rfl, Kd.S_nil _ _ _ _ _, hb⟩)
 ·cases h
end Go.Proofs.YtadejblahbebdaaDoor.Hand
