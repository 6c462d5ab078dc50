/- HandI: several of this session's texts in one. -/
import Derived.Test.YtdjepocklmlnbaaDoorX0
import Derived.Test.YtdjepocklmlnbaaDoorHandA
import Derived.Shelf.Abstract
import Derived.Shelf.RegionOpen
import Derived.WalkKit
import Derived.Lib.Strings
import Derived.Lib.Slices
import Derived.Lib.Walk
import Derived.Lib.Bytealg
import Derived.Lib.Split
import Derived.Deep.OwnRows
import Derived.Deep.LoopGhost
/- The place of the first element that passes a test. -/
namespace Go.Proofs.YtdjepocklmlnbaaDoor.Hand
open Go.RowKit Go.Proofs.YtdjepocklmlnbaaDoorW.PrintWords Go.Proofs.YtdjepocklmlnbaaDoorW.PrintLast Go.Proofs.YtdjepocklmlnbaaDoorW.PrintMore Go.Proofs.YtdjepocklmlnbaaDoor.X
/-- The place of the first that passes. -/
def placeOf {α : Type} (p : α → Bool) (l : List α) : Int := match l.findIdx? p with | some i => (i : Int) | none => -1
theorem placeOf_hit {α : Type} {p : α → Bool} {l : List α} {i : Nat} (hi : i < l.length) (hp : p l[i] = true) (h : ∀ j (hj : j < i), p (l[j]'(by omega)) = false) : placeOf p l = i := by
  unfold placeOf
  rw [List.findIdx?_eq_some_iff_getElem.2 ⟨hi, hp, fun j hj => by simpa using h j hj⟩]
theorem placeOf_none {α : Type} {p : α → Bool} {l : List α} (h : ∀ x ∈ l, p x = false) : placeOf p l = -1 := by
  unfold placeOf
  rw [List.findIdx?_eq_none_iff.2 h]

end Go.Proofs.YtdjepocklmlnbaaDoor.Hand

/- slices.IndexFunc over glyphs, walked by hand, whatever the test: a function value whose calls lay only new blocks. -/
namespace Go.Proofs.YtdjepocklmlnbaaDoor.Hand
open Go.RowKit Go.Proofs.YtdjepocklmlnbaaDoorW.PrintWords Go.Proofs.YtdjepocklmlnbaaDoorW.PrintLast Go.Proofs.YtdjepocklmlnbaaDoorW.PrintMore Go.Proofs.YtdjepocklmlnbaaDoor.X
set_option linter.unusedVariables false
set_option linter.unusedSimpArgs false

/-- What is asked of a test. -/
def TestG (g : Nat) (lb : Array Value) (p : S44 → Bool) (w : World) : Prop :=
  ∀ (W : World) (x : S44), Below w.heap.size w W → Calls Tryd.prog g (#[.agg #[.int .i32 x.f0, .int .u8 x.f1]] ++ lb) W fun e w' => e = .returned (.bool (p x)) ∧ Below w.heap.size w w'

set_option maxHeartbeats 8000000 in
set_option maxRecDepth 100000 in
theorem index_G (A0 : Option Addr) (c0 : Nat) (l0 : List (S44)) (w : World) (hr0 : Kd.C k44 w A0 l0.length l0) (p : S44 → Bool) (g : Nat) (lb : Array Value)
    (eg : ∀ args w, (callFunc g args).run Tryd.prog w = .ok (.enter g args) w) (hp : TestG g lb p w) :
    Calls Tryd.prog 48 #[.slice A0 l0.length c0, .func (.func g) #[] lb] w fun e w' => e = .returned (.int .i64 (placeOf p l0)) ∧ Below w.heap.size w w' := by
  have HR0 := Aside0.mk hr0
  have hmax := hr0.2.1
  have HM := Aside0.mk hmax
  clear hr0 hmax
  have HP := Aside0.mk hp
  clear hp
  go_enter Tryd.func48, Tryd.ntmps48
  go_wp2
  go_loopg [5, 8] l0.length (fun kq v5 v8 w' => ∃ i : Nat, v8 = .int .i64 i ∧ Aside0 (i ≤ l0.length ∧ l0.length - i ≤ kq ∧ ∀ j (hj : j < l0.length), j < i → p l0[j] = false) ∧ Aside0 (Below w.heap.size w w'))
  case atStart => exact ⟨0, rfl, ⟨by omega, by omega, fun j _ h => absurd h (by omega)⟩, ⟨Below.refl _ _⟩⟩
  case round =>
    obtain ⟨i, rfl, HI, HB⟩ := hrel
    by_cases hlt : i < l0.length
    · have c1 : decide ((i : Int) < (l0.length : Int)) = true := decide_eq_true (by omega)
      have c2 : (0 : Int) ≤ (i : Int) := by omega
      have c3 : (i : Int) < (l0.length : Int) := by omega
      obtain ⟨ad, e, hx0, hx1⟩ := at_T44 HR0.out (i : Int) (by omega) (by omega)
      have hcall := HP.out wr l0[i] HB.out
      have hrd : rd_T44 l0 (i : Int) = l0[i] := by simp [rd_T44, List.getD_eq_getElem?_getD, List.getElem?_eq_getElem hlt]
      rw [hrd] at hx0 hx1
      subst e
      replace hx0 := (HB.out.cell (World.block_lt_of_cell? w _ hx0)).trans hx0
      replace hx1 := (HB.out.cell (World.block_lt_of_cell? w _ hx1)).trans hx1
      have hu := Tryd.underlying44
      rw [Int.toNat_natCast] at hx0 hx1
      cases hq : p l0[i] with
      | true =>
        rw [hq] at hcall
        have HC := Aside0.mk hcall
        have HQ := Aside0.mk hq
        clear hcall hq hrd
        go_wp2_with (fail)
        refine HC.out.mono ?_
        rintro e w' ⟨rfl, hb'⟩
        have HBB := Aside0.mk hb'
        clear hb'
        go_wp2
        go_ret
        exact ⟨by rw [placeOf_hit hlt HQ.out (fun j hj => HI.out.2.2 j (by omega) hj)]; rfl, HBB.out⟩
      | false =>
        rw [hq] at hcall
        have HC := Aside0.mk hcall
        have HQ := Aside0.mk hq
        clear hcall hq hrd
        have wi : IntKind.i64.wrap ((i : Int) + 1) = ((i + 1 : Nat) : Int) := by rw [IntKind.wrap_i64]; have := HM.out; omega
        go_wp2_with (fail)
        refine HC.out.mono ?_
        rintro e w' ⟨rfl, hb'⟩
        have HBB := Aside0.mk hb'
        clear hb'
        go_wp2
        obtain ⟨k1, rfl⟩ : ∃ k1, gk = k1 + 1 := ⟨gk - 1, by have := HI.out.2.1; omega⟩
        go_roundg k1
        case measure => omega
        case rel =>
          refine ⟨i + 1, by first | rfl | (simp; done), ⟨by omega, by have := HI.out.2.1; omega, fun j hj hji => ?_⟩, HBB⟩
          by_cases e : j = i
          · subst e
            exact HQ.out
          · exact HI.out.2.2 j hj (by omega)
    · have c1 : decide ((i : Int) < (l0.length : Int)) = false := decide_eq_false (by omega)
      go_wp2
      go_ret
      have hno : ∀ x ∈ l0, p x = false := by
        intro x hx
        obtain ⟨j, hj, rfl⟩ := List.getElem_of_mem hx
        exact HI.out.2.2 j hj (by omega)
      exact ⟨by rw [placeOf_none hno]; rfl, HB.out⟩
end Go.Proofs.YtdjepocklmlnbaaDoor.Hand

/- cells.Runs, walked by hand: the row that is left lies in a variable that the test looks at. -/
namespace Go.Proofs.YtdjepocklmlnbaaDoor.Hand
open Go.RowKit Go.Proofs.YtdjepocklmlnbaaDoorW.PrintWords Go.Proofs.YtdjepocklmlnbaaDoorW.PrintLast Go.Proofs.YtdjepocklmlnbaaDoorW.PrintMore Go.Proofs.YtdjepocklmlnbaaDoor.X
theorem infoRuns : (Tryd.prog.info? 33).map (fun i => (i.zero, i.size, i.bytes)) = some (some (.slice none 0 0), 1, 24) := by kernel_rfl
set_option linter.unusedVariables false
set_option linter.unusedSimpArgs false

/-- How long the first run is. -/
def runLen (l : List S44) : Nat := (l.findIdx? (fun g => g.f1 != (rd_T44 l 0).f1)).getD l.length
theorem runLen_le (l : List S44) : runLen l ≤ l.length := by
  unfold runLen
  cases h : l.findIdx? (fun g => g.f1 != (rd_T44 l 0).f1) with
  | none => exact Nat.le_refl _
  | some i =>
    have := (List.findIdx?_eq_some_iff_getElem.1 h).1
    simp only [Option.getD_some]
    omega
theorem runLen_pos {l : List S44} (h : 0 < l.length) : 0 < runLen l := by
  unfold runLen
  cases hf : l.findIdx? (fun g => g.f1 != (rd_T44 l 0).f1) with
  | none => exact h
  | some i =>
    simp only [Option.getD_some]
    rcases Nat.eq_zero_or_pos i with e | e
    · subst e
      obtain ⟨h1, h2, _⟩ := List.findIdx?_eq_some_iff_getElem.1 hf
      simp [rd_T44, List.getD_eq_getElem?_getD, List.getElem?_eq_getElem h1] at h2
    · exact e
def runsN : Nat → List S44 → List (List S44)
  | 0, _ => []
  | n + 1, l => if l.length = 0 then [] else l.take (runLen l) :: runsN n (l.drop (runLen l))
def runs (l : List S44) : List (List S44) := runsN l.length l
theorem runsN_enough : ∀ (n m : Nat) (l : List S44), l.length ≤ n → l.length ≤ m → runsN n l = runsN m l
  | 0, 0, _, _, _ => rfl
  | 0, m + 1, l, h, _ => by
    have h0 : l.length = 0 := by omega
    simp [runsN, h0]
  | n + 1, 0, l, _, h => by
    have h0 : l.length = 0 := by omega
    simp [runsN, h0]
  | n + 1, m + 1, l, h1, h2 => by
    by_cases h0 : l.length = 0
    · simp [runsN, h0]
    · have hp := runLen_pos (l := l) (by omega)
      simp only [runsN]
      rw [if_neg h0, if_neg h0, runsN_enough n m (l.drop (runLen l)) (by rw [List.length_drop]; omega) (by rw [List.length_drop]; omega)]
theorem runs_nil {l : List S44} (h : l.length = 0) : runs l = [] := by
  unfold runs
  rw [h]
  rfl
theorem runs_cons {l : List S44} (h : 0 < l.length) : runs l = l.take (runLen l) :: runs (l.drop (runLen l)) := by
  have hp := runLen_pos h
  unfold runs
  obtain ⟨n, hn⟩ : ∃ n, l.length = n + 1 := ⟨l.length - 1, by omega⟩
  rw [hn]
  simp only [runsN]
  rw [if_neg (by omega), runsN_enough n (l.drop (runLen l)).length (l.drop (runLen l)) (by rw [List.length_drop]; omega) (Nat.le_refl _)]
theorem runs_length : ∀ (n : Nat) (l : List S44), l.length ≤ n → (runs l).length ≤ l.length
  | 0, l, h => by rw [runs_nil (by omega)]; simp
  | n + 1, l, h => by
    by_cases h0 : l.length = 0
    · rw [runs_nil h0]
      simp
    · have hp := runLen_pos (l := l) (by omega)
      rw [runs_cons (by omega), List.length_cons]
      have := runs_length n (l.drop (runLen l)) (by rw [List.length_drop]; omega)
      rw [List.length_drop] at this
      omega
def cells_Runs.f (l : List S44) : Option (List (List S44)) := if l.length < 1000000000000 then some (runs l) else none

theorem place_runLen (l : List S44) : placeOf (fun g => g.f1 != (rd_T44 l 0).f1) l = if runLen l = l.length ∧ l.findIdx? (fun g => g.f1 != (rd_T44 l 0).f1) = none then -1 else (runLen l : Int) := by
  unfold placeOf runLen
  cases h : l.findIdx? (fun g => g.f1 != (rd_T44 l 0).f1) with
  | none => simp
  | some i => simp

set_option maxHeartbeats 8000000 in
set_option maxRecDepth 100000 in
theorem runs_test (g : Nat) (A : Option Addr) (c : Nat) (l : List S44) (w : World) (hl : 0 < l.length) (hg : w.heap[g]? = some (.cells #[.slice A l.length c] 33 (0, 0))) (hr : Kd.C k44 w A l.length l) :
    TestG 49 #[.pointer (some ⟨g, 0, none⟩)] (fun x => x.f1 != (rd_T44 l 0).f1) w := by
  intro W x hb
  obtain ⟨ad, e, hx0, hx1⟩ := at_T44 hr 0 (by omega) (by omega)
  subst e
  generalize (rd_T44 l 0).f1 = s at hx1 ⊢
  have hgl : g < w.heap.size := (Array.getElem?_eq_some_iff.1 hg).1
  have hc : W.cell? ⟨g, 0, none⟩ = some (.slice (some ad) l.length c) := by
    have h := hb.block g hgl
    unfold World.cell?
    simp only [h, hg]
    rfl
  have hy : W.cell? ⟨ad.block, ad.off + 1, none⟩ = some (.int .u8 s) := by
    have h := (hb.cell (World.block_lt_of_cell? w _ hx1)).trans hx1
    simpa [Addr.add] using h
  have hgW : g < W.heap.size := Nat.lt_of_lt_of_le hgl hb.size
  have hne : g ≠ W.heap.size := by omega
  have hal : ad.block ≠ W.heap.size := by
    have h1 := World.block_lt_of_cell? W _ hy
    simp only at h1
    omega
  have hln : (0 : Int) < (l.length : Int) := by omega
  have HB := Aside0.mk hb
  clear hb hx0 hx1 hg hr
  show Calls Tryd.prog 49 #[.agg #[.int .i32 x.f0, .int .u8 x.f1], .pointer (some ⟨g, 0, none⟩)] W _
  go_enter Tryd.func49, Tryd.ntmps49
  go_wp2
  have HB1 : Aside0 (Below w.heap.size w (W.alloc (.cells #[.int .i32 x.f0, .int .u8 x.f1] 44))) := ⟨HB.out.alloc HB.out.size _⟩
  have k1 : (W.alloc (.cells #[.int .i32 x.f0, .int .u8 x.f1] 44)).cell? ⟨W.heap.size, 1, none⟩ = some (.int .u8 x.f1) := by
    rw [World.cell?_alloc_at _ _ _ _ rfl]
    rfl
  have k2 : (W.alloc (.cells #[.int .i32 x.f0, .int .u8 x.f1] 44)).cell? ⟨g, 0, none⟩ = some (.slice (some ad) l.length c) := Lib.cell?_alloc_some _ hc
  have k3 : (W.alloc (.cells #[.int .i32 x.f0, .int .u8 x.f1] 44)).cell? ⟨ad.block, ad.off + 1, none⟩ = some (.int .u8 s) := Lib.cell?_alloc_some _ hy
  generalize W.heap.size = b at *
  generalize W.alloc (.cells #[.int .i32 x.f0, .int .u8 x.f1] 44) = W1 at *
  clear hc hy
  go_quiet (fail)
  go_wp2
  go_ret
  exact ⟨rfl, by repeat (first | exact HB1.out | apply below_drew | apply pw_below_drewN)⟩

set_option maxHeartbeats 8000000 in
set_option maxRecDepth 100000 in
theorem cells_Runs.calls (A0 : Option Addr) (c0 : Nat) (l0 : List (S44)) (r : List (List S44)) (w : World) (hr0 : Kd.C k44 w A0 l0.length l0) (hc0 : l0.length ≤ c0) (h : cells_Runs.f l0 = some r) :
    Calls Tryd.prog 35 #[.slice A0 l0.length c0] w fun e w' => ∃ v0_ : Value, e = .returned (v0_) ∧ Kd.S (Kd.slice 44 k44) 33 w' w.heap.size (fun _ => True) v0_ r ∧ Below w.heap.size w w' := by
  have hmf : ∀ (fn : Fn) (first cap : Array Value) (w : World), (Instr.makeFunc fn first cap).run Tryd.prog w = .ok (.func fn first cap) w := fun _ _ _ _ => rfl
  have eg : ∀ args w, (callFunc 49 args).run Tryd.prog w = .ok (.enter 49 args) w := enters_of Tryd.func49 (by kernel_rfl) rfl
  unfold cells_Runs.f at h
  split at h
  · rename_i hl
    obtain rfl := Option.some.inj h
    clear h
    have HL := Aside0.mk hl
    have HR0 := Aside0.mk hr0
    have HC0 := Aside0.mk hc0
    clear hl hr0 hc0
    have hg0 : (w.alloc (.cells #[.slice A0 l0.length c0] 33)).heap[w.heap.size]? = some (.cells #[.slice A0 l0.length c0] 33 (0, 0)) := heap_alloc_new w _
    have HG0 := Aside0.mk hg0
    clear hg0
    have HB0 : Aside0 (Below w.heap.size w (w.alloc (.cells #[.slice A0 l0.length c0] 33))) := ⟨(Below.refl _ w).alloc (Nat.le_refl _) _⟩
    go_enter Tryd.func35, Tryd.ntmps35
    go_wp2
    obtain ⟨i0, hi0, hz0, hz1, hz2⟩ := info_parts info44
    go_loopg [3] l0.length (fun kq v3 w' => ∃ (A : Option Addr) (c : Nat) (l : List S44) (outs : List (List S44)), Aside0 (w'.heap[w.heap.size]? = some (.cells #[.slice A l.length c] 33 (0, 0))) ∧ Aside0 (Kd.C k44 w A l.length l ∧ l.length ≤ c ∧ l.length ≤ l0.length ∧ l.length ≤ kq ∧ outs ++ runs l = runs l0 ∧ outs.length + l.length ≤ l0.length) ∧ Aside0 (Kd.S (Kd.slice 44 k44) 33 w' w.heap.size (fun k_ => k_ ≠ w.heap.size) v3 outs) ∧ Aside0 (Below w.heap.size w w'))
    case atStart => exact ⟨A0, c0, l0, [], HG0, ⟨HR0.out, HC0.out, Nat.le_refl _, Nat.le_refl _, rfl, by simp⟩, ⟨Kd.S_nil _ _ _ _ _⟩, HB0⟩
    case round =>
      clear HG0 HB0
      obtain ⟨A, c, l, outs, HG, HC, HS, HB⟩ := hrel
      have HSZ : Aside0 (w.heap.size < wr.heap.size) := ⟨(Array.getElem?_eq_some_iff.1 HG.out).1⟩
      have hcell : wr.cell? ⟨w.heap.size, 0, none⟩ = some (.slice A l.length c) := (blk_cell HG.out 0).trans rfl
      by_cases hpos : 0 < l.length
      · have c1 : decide ((0 : Int) < (l.length : Int)) = true := decide_eq_true (by omega)
        have hm0 := runLen_pos hpos
        have hm1 := runLen_le l
        obtain ⟨y, hy0⟩ : ∃ y, y = l.take (runLen l) := ⟨_, rfl⟩
        have HY := Aside0.mk hy0
        clear hy0
        have hidx := index_G A c l wr (Kd.C_below HC.out.1 HB.out) _ _ _ eg (runs_test w.heap.size A c l wr hpos HG.out (Kd.C_below HC.out.1 HB.out))
        rw [place_runLen] at hidx
        by_cases hcase : runLen l = l.length ∧ l.findIdx? (fun g => g.f1 != (rd_T44 l 0).f1) = none
        · rw [if_pos hcase] at hidx
          have HX := Aside0.mk hidx
          have hrl := hcase.1
          clear hidx hcase
          have HYC : Aside0 (Kd.C k44 w A y.length y) := ⟨by rw [HY.out]; exact Kd.C_take HC.out.1 hm1⟩
          have HYF : Aside0 (clone_G.f y = some y) := ⟨by unfold clone_G.f; rw [if_pos (by rw [HY.out, List.length_take]; have := HL.out; have := HC.out.2.2.1; omega)]⟩
          have hcc : l.length ≤ c := HC.out.2.1
          have hy : Aside0 (y.length = l.length) := ⟨by rw [HY.out, List.length_take]; have := runLen_le l; omega⟩
          have HCL : Aside0 (∀ W, Kd.C k44 W A y.length y → Calls Tryd.prog 50 #[.slice A (l.length) c] W fun e w' => ∃ v0_ : Value, e = .returned (v0_) ∧ Kd.R k44 44 w' W.heap.size (fun _ => True) v0_ y ∧ Below W.heap.size W w') := ⟨fun W hC => by
            have h := clone_G.calls A c y y W hC (by have := HC.out.2.1; have := hy.out; omega) HYF.out
            rw [hy.out] at h
            exact h⟩
          have hcut := cut_to (P := Tryd.prog) 33 44 .i64 Tryd.underlying33 hi0 A l.length c ((l.length : Nat) : Int) (by omega) (by have := runLen_le l; omega) (by have := HC.out.2.1; omega)
          rw [Int.toNat_natCast] at hcut
          have hcut2 := cut_from (P := Tryd.prog) 33 44 .i64 Tryd.underlying33 hi0 2 hz1 A l.length c ((l.length : Nat) : Int) (by omega) (by have := runLen_le l; omega)
          rw [Int.toNat_natCast] at hcut2
          obtain ⟨A', hA'⟩ : ∃ A' : Option Addr, A' = (if c = l.length then A else A.map (·.add (l.length * 2))) := ⟨_, rfl⟩
          rw [← hA'] at hcut2
          have HA' := Aside0.mk hA'
          clear hA'
          go_wp2_with (first | (go_at_call 48; refine HX.out.mono ?_; rintro e w1 ⟨rfl, hb1⟩; have HB1 := Aside0.mk hb1; clear hb1; have hcell1 : w1.cell? ⟨w.heap.size, 0, none⟩ = some (.slice A l.length c) := (HB1.out.cell (World.block_lt_of_cell? _ _ hcell)).trans hcell) | (go_at_call 50; refine (HCL.out _ (Kd.C_below HYC.out (below_step HB.out HB1.out))).mono ?_; rintro e w2 ⟨vc, rfl, ho, hb2⟩; obtain ⟨Ac, cc, rfl⟩ := Kd.R_slice ho; have HO2 := Aside0.mk ho; have HB2 := Aside0.mk hb2; clear ho hb2) | ((with_reducible refine gate_builtin (b := .append) (xs := #[.tmp 15, .tmp 20]) rfl ?_); at_builtin; refine Kd.S_append (Kd.slice 44 k44) (w0 := w) w.heap.size rfl (.tmp 15) (.tmp 20) 40 33 (.slice none 0 0) 24 rfl Tryd.underlying40 infoRuns rfl (by decide) (by omega) u3 outs y [.slice Ac y.length cc] (fun k_ => k_ ≠ w.heap.size) (fun k_ => some k_ = (Value.slice Ac y.length cc).ownBlock) rfl rfl ?aP ?aK ?aF ?aO ?aB ?aS ?aL ?_))
          case aP => exact ⟨_, rfl, Kd.R_lower (Kd.R_tight rfl HO2.out) (Nat.le_trans (below_size HB.out) HB1.out.size)⟩
          case aK =>
            intro k_ hk
            have h1 := Kd.R_base HO2.out k_ hk.symm
            have h2 := HB.out.size
            have h3 := HB1.out.size
            refine ⟨by have := HSZ.out; omega, fun e => ?_⟩
            have := Kd.S_lt (Kd.S_below HS.out HB1.out) k_ e.symm
            omega
          case aF =>
            intro k_ hk
            have h3 := HB1.out.size
            have h4 := HB2.out.size
            have := HSZ.out
            omega
          case aO =>
            refine Kd.S_mono (Kd.S_old (Kd.S_below HS.out HB1.out) HB2.out) (fun k_ hk => ⟨hk.1, fun e => ?_⟩)
            have h1 := Kd.R_base HO2.out k_ e.symm
            have := hk.2
            omega
          case aB => exact below_step (below_step HB.out HB1.out) HB2.out
          case aS => exact below_size (below_step (below_step HB.out HB1.out) HB2.out)
          case aL => have := HC.out.2.2.2.2.2; have := HL.out; omega
          intro v4 w3 ho3 hb3 hg3 hat
          have hne : some w.heap.size ≠ u3.ownBlock := fun e => (Kd.S_away HS.out (g := w.heap.size) (fun k_ hk => hk)) e
          have hbox3 : w3.heap[w.heap.size]? = some (.cells #[.slice A l.length c] 33 (0, 0)) := by
            have h3 := HB1.out.size
            have h4 := HB2.out.size
            have h5 := HSZ.out
            rw [hg3.block w.heap.size (by omega) hne, HB2.out.block w.heap.size (by omega), HB1.out.block w.heap.size (by omega)]
            exact HG.out
          have HS3 := Aside0.mk ho3
          have HB3 := Aside0.mk hb3
          have HG3 := Aside0.mk hbox3
          clear ho3 hb3 hg3 hat hbox3
          have hc3 : w3.cell? ⟨w.heap.size, 0, none⟩ = some (.slice A l.length c) := (blk_cell HG3.out 0).trans rfl
          have hf3 := blk_frozen HG3.out 0
          go_wp2
          obtain ⟨k1, rfl⟩ : ∃ k1, gk = k1 + 1 := ⟨gk - 1, by have := HC.out.2.2.2.1; omega⟩
          go_roundg k1
          case measure => omega
          case rel =>
            have hlen : (l.drop (runLen l)).length = l.length - l.length := by rw [List.length_drop]; omega
            refine ⟨A', c - l.length, l.drop (runLen l), outs ++ [y], ⟨?_⟩, ⟨?_, ?_, ?_, ?_, ?_, ?_⟩, ⟨?_⟩, ⟨?_⟩⟩
            · rw [hlen]
              exact blk_put HG3.out 0 _ (by first | rfl | simp)
            · have h1 := Kd.C_drop (c := c) (m := runLen l) HC.out.1 (runLen_le l) HC.out.2.1
              have e : l.length = runLen l := by omega
              rw [HA'.out, e]
              exact h1
            · rw [hlen]; have := HC.out.2.1; omega
            · rw [hlen]; have := HC.out.2.2.1; omega
            · rw [hlen]; have := HC.out.2.2.2.1; omega
            · rw [← HC.out.2.2.2.2.1, runs_cons (l := l) hpos, HY.out, List.append_assoc]
              rfl
            · rw [hlen, List.length_append, List.length_singleton]; have := HC.out.2.2.2.2.2; omega
            · exact Kd.S_far HS3.out (fun k_ hk => hk) _
            · exact below_set HB3.out (Nat.le_refl _)
        · rw [if_neg hcase] at hidx
          have HX := Aside0.mk hidx
          clear hidx hcase
          have c2 : decide ((runLen l : Int) < 0) = false := decide_eq_false (by omega)
          have c3 : ¬ ((runLen l : Int) < 0) := by omega
          have HYC : Aside0 (Kd.C k44 w A y.length y) := ⟨by rw [HY.out]; exact Kd.C_take HC.out.1 hm1⟩
          have HYF : Aside0 (clone_G.f y = some y) := ⟨by unfold clone_G.f; rw [if_pos (by rw [HY.out, List.length_take]; have := HL.out; have := HC.out.2.2.1; omega)]⟩
          have hcc : l.length ≤ c := HC.out.2.1
          have hy : Aside0 (y.length = runLen l) := ⟨by rw [HY.out, List.length_take]; have := runLen_le l; omega⟩
          have HCL : Aside0 (∀ W, Kd.C k44 W A y.length y → Calls Tryd.prog 50 #[.slice A (runLen l) c] W fun e w' => ∃ v0_ : Value, e = .returned (v0_) ∧ Kd.R k44 44 w' W.heap.size (fun _ => True) v0_ y ∧ Below W.heap.size W w') := ⟨fun W hC => by
            have h := clone_G.calls A c y y W hC (by have := HC.out.2.1; have := hy.out; omega) HYF.out
            rw [hy.out] at h
            exact h⟩
          have hcut := cut_to (P := Tryd.prog) 33 44 .i64 Tryd.underlying33 hi0 A l.length c ((runLen l : Nat) : Int) (by omega) (by have := runLen_le l; omega) (by have := HC.out.2.1; omega)
          rw [Int.toNat_natCast] at hcut
          have hcut2 := cut_from (P := Tryd.prog) 33 44 .i64 Tryd.underlying33 hi0 2 hz1 A l.length c ((runLen l : Nat) : Int) (by omega) (by have := runLen_le l; omega)
          rw [Int.toNat_natCast] at hcut2
          obtain ⟨A', hA'⟩ : ∃ A' : Option Addr, A' = (if c = runLen l then A else A.map (·.add (runLen l * 2))) := ⟨_, rfl⟩
          rw [← hA'] at hcut2
          have HA' := Aside0.mk hA'
          clear hA'
          go_wp2_with (first | (go_at_call 48; refine HX.out.mono ?_; rintro e w1 ⟨rfl, hb1⟩; have HB1 := Aside0.mk hb1; clear hb1; have hcell1 : w1.cell? ⟨w.heap.size, 0, none⟩ = some (.slice A l.length c) := (HB1.out.cell (World.block_lt_of_cell? _ _ hcell)).trans hcell) | (go_at_call 50; refine (HCL.out _ (Kd.C_below HYC.out (below_step HB.out HB1.out))).mono ?_; rintro e w2 ⟨vc, rfl, ho, hb2⟩; obtain ⟨Ac, cc, rfl⟩ := Kd.R_slice ho; have HO2 := Aside0.mk ho; have HB2 := Aside0.mk hb2; clear ho hb2) | ((with_reducible refine gate_builtin (b := .append) (xs := #[.tmp 15, .tmp 20]) rfl ?_); at_builtin; refine Kd.S_append (Kd.slice 44 k44) (w0 := w) w.heap.size rfl (.tmp 15) (.tmp 20) 40 33 (.slice none 0 0) 24 rfl Tryd.underlying40 infoRuns rfl (by decide) (by omega) u3 outs y [.slice Ac y.length cc] (fun k_ => k_ ≠ w.heap.size) (fun k_ => some k_ = (Value.slice Ac y.length cc).ownBlock) rfl rfl ?aP ?aK ?aF ?aO ?aB ?aS ?aL ?_))
          case aP => exact ⟨_, rfl, Kd.R_lower (Kd.R_tight rfl HO2.out) (Nat.le_trans (below_size HB.out) HB1.out.size)⟩
          case aK =>
            intro k_ hk
            have h1 := Kd.R_base HO2.out k_ hk.symm
            have h2 := HB.out.size
            have h3 := HB1.out.size
            refine ⟨by have := HSZ.out; omega, fun e => ?_⟩
            have := Kd.S_lt (Kd.S_below HS.out HB1.out) k_ e.symm
            omega
          case aF =>
            intro k_ hk
            have h3 := HB1.out.size
            have h4 := HB2.out.size
            have := HSZ.out
            omega
          case aO =>
            refine Kd.S_mono (Kd.S_old (Kd.S_below HS.out HB1.out) HB2.out) (fun k_ hk => ⟨hk.1, fun e => ?_⟩)
            have h1 := Kd.R_base HO2.out k_ e.symm
            have := hk.2
            omega
          case aB => exact below_step (below_step HB.out HB1.out) HB2.out
          case aS => exact below_size (below_step (below_step HB.out HB1.out) HB2.out)
          case aL => have := HC.out.2.2.2.2.2; have := HL.out; omega
          intro v4 w3 ho3 hb3 hg3 hat
          have hne : some w.heap.size ≠ u3.ownBlock := fun e => (Kd.S_away HS.out (g := w.heap.size) (fun k_ hk => hk)) e
          have hbox3 : w3.heap[w.heap.size]? = some (.cells #[.slice A l.length c] 33 (0, 0)) := by
            have h3 := HB1.out.size
            have h4 := HB2.out.size
            have h5 := HSZ.out
            rw [hg3.block w.heap.size (by omega) hne, HB2.out.block w.heap.size (by omega), HB1.out.block w.heap.size (by omega)]
            exact HG.out
          have HS3 := Aside0.mk ho3
          have HB3 := Aside0.mk hb3
          have HG3 := Aside0.mk hbox3
          clear ho3 hb3 hg3 hat hbox3
          have hc3 : w3.cell? ⟨w.heap.size, 0, none⟩ = some (.slice A l.length c) := (blk_cell HG3.out 0).trans rfl
          have hf3 := blk_frozen HG3.out 0
          go_wp2
          obtain ⟨k1, rfl⟩ : ∃ k1, gk = k1 + 1 := ⟨gk - 1, by have := HC.out.2.2.2.1; omega⟩
          go_roundg k1
          case measure => omega
          case rel =>
            have hlen : (l.drop (runLen l)).length = l.length - runLen l := by rw [List.length_drop]
            refine ⟨A', c - runLen l, l.drop (runLen l), outs ++ [y], ⟨?_⟩, ⟨?_, ?_, ?_, ?_, ?_, ?_⟩, ⟨?_⟩, ⟨?_⟩⟩
            · rw [hlen]
              exact blk_put HG3.out 0 _ (by first | rfl | simp)
            · have h1 := Kd.C_drop (c := c) (m := runLen l) HC.out.1 (runLen_le l) HC.out.2.1
              rw [HA'.out]
              exact h1
            · rw [hlen]; have := HC.out.2.1; omega
            · rw [hlen]; have := HC.out.2.2.1; omega
            · rw [hlen]; have := HC.out.2.2.2.1; omega
            · rw [← HC.out.2.2.2.2.1, runs_cons (l := l) hpos, HY.out, List.append_assoc]
              rfl
            · rw [hlen, List.length_append, List.length_singleton]; have := HC.out.2.2.2.2.2; omega
            · exact Kd.S_far HS3.out (fun k_ hk => hk) _
            · exact below_set HB3.out (Nat.le_refl _)
      · have c1 : decide ((0 : Int) < (l.length : Int)) = false := decide_eq_false (by omega)
        go_wp2
        go_ret
        refine ⟨_, rfl, ?_, HB.out⟩
        rw [← HC.out.2.2.2.2.1, runs_nil (by omega), List.append_nil]
        exact Kd.S_mono HS.out (fun _ _ => trivial)
  · cases h
end Go.Proofs.YtdjepocklmlnbaaDoor.Hand

/- strings.Split at one line feed, walked by hand: the library's own text. -/
namespace Go.Proofs.YtdjepocklmlnbaaDoor.Hand
open Go Go.RowKit Go.Shelf Go.Proofs.YtdjepocklmlnbaaDoorW.PrintWords Go.Proofs.YtdjepocklmlnbaaDoorW.PrintLast Go.Proofs.YtdjepocklmlnbaaDoorW.PrintMore Go.Proofs.YtdjepocklmlnbaaDoor.X
set_option linter.unusedVariables false
set_option linter.unusedSimpArgs false
set_option maxHeartbeats 4000000 in
set_option maxRecDepth 100000 in
theorem lite_IndexByte (s : ByteArray) (c : Int) (w : World) :
    Calls Tryd.prog 88 #[.string s, .int .u8 c] w fun e w' => e = .returned (.int .i64 (Lib.indexByte s.data.toList c.toNat.toUInt8)) ∧ w' = w := by
  go_enter Tryd.func88, Tryd.ntmps88
  go_wp2
  rw [run_callFunc_extern (show Tryd.prog.funcs[94]? = some Tryd.f94 from Tryd.func94) (by kernel_rfl) (by kernel_rfl) (by kernel_rfl) (e := Extern.BytealgIndexByte.indexByte) (by kernel_rfl), Lib.run_indexByteString]
  simp only [Result.andThen]
  rw [Oper.upon_value]
  go_wp2
  go_ret
  exact ⟨rfl, rfl⟩
set_option maxHeartbeats 4000000 in
set_option maxRecDepth 100000 in
theorem lite_Index (s : ByteArray) (w : World) :
    Calls Tryd.prog 85 #[.string s, .string ⟨#[10]⟩] w fun e w' => e = .returned (.int .i64 (Lib.indexByte s.data.toList 10)) ∧ w' = w := by
  have h1 : (⟨#[10]⟩ : ByteArray).size = 1 := rfl
  go_enter Tryd.func85, Tryd.ntmps85
  go_wp2_with (go_at_call 88; refine (lite_IndexByte _ _ _).mono ?_; rintro e w' ⟨rfl, rfl⟩)
  all_goals go_ret
  · have h2 : ([10] == s.toList) = true := by assumption
    have h3 : s.data.toList = [10] := by rw [← ByteArray.toList_eq]; exact (eq_of_beq h2).symm
    exact ⟨by rw [h3]; rfl, rfl⟩
  · exact ⟨rfl, rfl⟩
set_option maxHeartbeats 4000000 in
set_option maxRecDepth 100000 in
theorem str_Index (s : ByteArray) (w : World) :
    Calls Tryd.prog 75 #[.string s, .string ⟨#[10]⟩] w fun e w' => e = .returned (.int .i64 (Lib.indexByte s.data.toList 10)) ∧ w' = w := by
  go_enter Tryd.func75, Tryd.ntmps75
  go_wp2_with (go_at_call 85; refine (lite_Index _ _).mono ?_; rintro e w' ⟨rfl, rfl⟩)
  go_ret
  exact ⟨rfl, rfl⟩
/-- A text's pieces, at line feeds. -/
def nextLf (s : ByteArray) : Int := Lib.indexByte s.data.toList 10
def piecesN : Nat → ByteArray → List ByteArray
  | 0, s => [s]
  | n + 1, s => if nextLf s < 0 then [s] else s.extract 0 (nextLf s).toNat :: piecesN n (s.extract ((nextLf s).toNat + 1) s.size)
def pieces (s : ByteArray) : List ByteArray := piecesN s.size s
theorem nextLf_lt (s : ByteArray) : nextLf s < s.size ∨ nextLf s < 0 := by
  unfold nextLf
  have h : ∀ l : List UInt8, Lib.indexByte l 10 < l.length ∨ Lib.indexByte l 10 < 0 := by
    intro l
    induction l with
    | nil => exact .inr (by decide)
    | cons b l ih =>
      unfold Lib.indexByte
      split
      · exact .inl (by simp)
      · split
        · exact .inr (by decide)
        · rename_i h
          have h2 := Lib.indexByte_ge l 10
          simp only [beq_iff_eq] at h
          simp only [List.length_cons]
          omega
  have := h s.data.toList
  simpa using this
theorem piecesN_enough : ∀ (n m : Nat) (s : ByteArray), s.size ≤ n → s.size ≤ m → piecesN n s = piecesN m s
  | 0, 0, _, _, _ => rfl
  | 0, m + 1, s, h, _ => by
    have := nextLf_lt s
    rw [piecesN, piecesN, if_pos (by omega)]
  | n + 1, 0, s, _, h => by
    have := nextLf_lt s
    rw [piecesN, piecesN, if_pos (by omega)]
  | n + 1, m + 1, s, h1, h2 => by
    rw [piecesN, piecesN]
    split
    · rfl
    · rename_i h
      have := nextLf_lt s
      rw [piecesN_enough n m _ (by rw [ByteArray.size_extract]; omega) (by rw [ByteArray.size_extract]; omega)]
theorem pieces_end {s : ByteArray} (h : nextLf s < 0) : pieces s = [s] := by
  unfold pieces
  cases hs : s.size with
  | zero => rfl
  | succ n => rw [piecesN, if_pos h]
theorem pieces_more {s : ByteArray} (h : 0 ≤ nextLf s) : pieces s = s.extract 0 (nextLf s).toNat :: pieces (s.extract ((nextLf s).toNat + 1) s.size) := by
  have h2 := nextLf_lt s
  unfold pieces
  cases hs : s.size with
  | zero => omega
  | succ n =>
    rw [piecesN, if_neg (by omega), ← hs, piecesN_enough n _ (s.extract ((nextLf s).toNat + 1) s.size) (by rw [ByteArray.size_extract]; omega) (Nat.le_refl _)]
/-- How many line feeds. -/
def lfN (s : ByteArray) : Nat := Lib.countByte s.data.toList 10
theorem idx_count : ∀ l : List UInt8, (Lib.indexByte l 10 < 0 → l.count 10 = 0) ∧ (0 ≤ Lib.indexByte l 10 → l.count 10 = (l.drop ((Lib.indexByte l 10).toNat + 1)).count 10 + 1)
  | [] => ⟨fun _ => rfl, fun h => by simp [Lib.indexByte] at h⟩
  | b :: l => by
    obtain ⟨h1, h2⟩ := idx_count l
    unfold Lib.indexByte
    by_cases hb : b = 10
    · subst hb
      simp
    · have hb' : (b == 10) = false := by simpa using hb
      rw [hb', if_neg (by simp)]
      by_cases hm : Lib.indexByte l 10 = -1
      · rw [if_pos (by simpa using hm), List.count_cons, if_neg (by simpa using hb'), h1 (by omega)]
        exact ⟨fun _ => rfl, fun h => absurd h (by decide)⟩
      · rw [if_neg (by simpa using hm)]
        have hge := Lib.indexByte_ge l 10
        refine ⟨fun h => by omega, fun h => ?_⟩
        rw [List.count_cons, if_neg (by simpa using hb'), h2 (by omega), show (Lib.indexByte l 10 + 1).toNat = (Lib.indexByte l 10).toNat + 1 by omega, List.drop_succ_cons]
theorem lfN_end {s : ByteArray} (h : nextLf s < 0) : lfN s = 0 := (idx_count s.data.toList).1 h
theorem lfN_more {s : ByteArray} (h : 0 ≤ nextLf s) : lfN s = lfN (s.extract ((nextLf s).toNat + 1) s.size) + 1 := by
  have h1 := (idx_count s.data.toList).2 h
  unfold lfN Lib.countByte
  rw [h1, ByteArray.data_extract, Array.toList_extract, List.extract_eq_take_drop]
  congr 2
  rw [List.take_of_length_le (by rw [List.length_drop, Array.length_toList]; exact Nat.le_refl _)]
  rfl
theorem lfN_le (s : ByteArray) : lfN s ≤ s.size := by
  unfold lfN Lib.countByte
  have := List.count_le_length (a := (10 : UInt8)) (l := s.data.toList)
  simpa using this
theorem pieces_length : ∀ (n : Nat) (s : ByteArray), s.size ≤ n → (pieces s).length = lfN s + 1
  | n, s, hn => by
    by_cases h : nextLf s < 0
    · rw [pieces_end h, lfN_end h]
      rfl
    · have hlt := nextLf_lt s
      cases n with
      | zero => omega
      | succ n => rw [pieces_more (by omega), List.length_cons, pieces_length n _ (by rw [ByteArray.size_extract]; omega), lfN_more (s := s) (by omega)]
set_option maxHeartbeats 4000000 in
set_option maxRecDepth 100000 in
theorem str_Count (s : ByteArray) (w : World) :
    Calls Tryd.prog 74 #[.string s, .string ⟨#[10]⟩] w fun e w' => e = .returned (.int .i64 (lfN s)) ∧ w' = w := by
  go_enter Tryd.func74, Tryd.ntmps74
  go_wp2
  rw [run_callFunc_extern (show Tryd.prog.funcs[84]? = some Tryd.f84 from Tryd.func84) (by kernel_rfl) (by kernel_rfl) (by kernel_rfl) (e := Extern.BytealgCount.count) (by kernel_rfl), Lib.run_countString]
  simp only [Result.andThen]
  rw [Oper.upon_value]
  go_wp2
  go_ret
  exact ⟨rfl, rfl⟩
set_option maxHeartbeats 8000000 in
set_option maxRecDepth 1000000 in
theorem gen_Split (s : ByteArray) (w : World) (hs : s.size ≤ 1000000000) :
    Calls Tryd.prog 62 #[.string s, .string ⟨#[10]⟩, .int .i64 0, .int .i64 (-1)] w fun e w' =>
      e = .returned (.slice (some ⟨w.heap.size, 0, none⟩) (pieces s).length (pieces s).length) ∧ w' = w.alloc (.cells (Lib.cellsOf (pieces s) (pieces s).length) 9) := by
  have hC := str_Count s w
  have hcl := lfN_le s
  have hpl := pieces_length s.size s (Nat.le_refl _)
  obtain ⟨cn, hcn⟩ : ∃ cn : Nat, lfN s = cn := ⟨_, rfl⟩
  rw [hcn] at hC hcl hpl
  have hc0 : lfN s = cn := hcn
  clear hcn
  obtain ⟨N, hN⟩ : ∃ N : Nat, cn + 1 = N := ⟨_, rfl⟩
  rw [hN] at hpl
  rw [hpl]
  have hse : (⟨#[10]⟩ : ByteArray).toList.isEmpty = false := by decide +kernel
  have hsz : (⟨#[10]⟩ : ByteArray).size = 1 := rfl
  have eN : min ((cn : Int) + 1) ((s.size : Int) + 1) = (N : Int) := by omega
  have hi9 : (Tryd.prog.info? 9).map (fun i => (i.zero, i.size, i.bytes)) = some (some (.string ByteArray.empty), 1, 16) := by kernel_rfl
  have hmk := run_make_row' (P := Tryd.prog) 66 9 (.string ByteArray.empty) 16 Tryd.underlying66 hi9 rfl .i64 .i64 N (by omega) (by omega)
  have hidx : ∀ (x : ByteArray) (W : World), Calls Tryd.prog 75 #[.string x, .string ⟨#[10]⟩] W fun e w' => e = .returned (.int .i64 (nextLf x)) ∧ w' = W := fun x W => str_Index x W
  have HC0 := Aside0.mk hc0
  have HPL := Aside0.mk hpl
  have HN := Aside0.mk hN
  clear hi9 hc0 hpl hN
  go_enter Tryd.func62, Tryd.ntmps62
  go_wp2_with (first | (go_at_call 74; refine hC.mono ?_; rintro e w' ⟨rfl, hw⟩; rw [hw]))
  clear hmk hC eN
  go_loopg [0, 10] (N - 1) (fun g s0 s10 wr => ∃ (done : List ByteArray) (rest : ByteArray), s0 = .string rest ∧ s10 = .int .i64 done.length ∧ Aside0 (done.length ≤ N - 1 ∧ g = N - 1 - done.length ∧ rest.size ≤ s.size ∧ lfN rest = cn - done.length) ∧
      wr = w.alloc (.cells (Lib.cellsOf done N) 9) ∧ Aside0 (done ++ pieces rest = pieces s))
  case atStart => exact ⟨[], s, rfl, rfl, ⟨Nat.zero_le _, rfl, Nat.le_refl _, by have := HC0.out; simpa using this⟩, by rw [Lib.cellsOf_nil], ⟨rfl⟩⟩
  case round =>
    obtain ⟨done, rest, rfl, rfl, HI, rfl, HS⟩ := hrel
    have hi1 := HI.out.1
    have hN := HN.out
    have hrs := HI.out.2.2.1
    have hnext : (Lib.cellsOf done N)[done.length]? = some (.string ByteArray.empty) := Lib.cellsOf_next (by omega)
    by_cases hlt : done.length < N - 1
    · have hltz : ((done.length : Nat) : Int) < (N : Int) - 1 := by omega
      have h0 : 0 ≤ nextLf rest := by
        by_cases h : nextLf rest < 0
        · have h1 := lfN_end h
          have h2 := HI.out.2.2.2
          omega
        · omega
      have hroom := nextLf_lt rest
      have hmore := pieces_more h0
      have hm2 := lfN_more h0
      obtain ⟨i, hix⟩ : ∃ i : Nat, nextLf rest = i := ⟨(nextLf rest).toNat, by omega⟩
      rw [hix, Int.toNat_natCast] at hmore hm2
      have c0 : ¬ ((i : Int) < 0) := by omega
      have c1 : (0 : Int) ≤ ↑i := by omega
      have c2 : (↑i : Int) ≤ ↑rest.size := by omega
      have c3 : (0 : Int) ≤ ↑i + 1 := by omega
      have c4 : (↑i + 1 : Int) ≤ ↑rest.size := by omega
      have HM := Aside0.mk hmore
      have HM2 := Aside0.mk hm2
      have HIX := Aside0.mk hix
      clear hmore hm2 hroom h0 hix
      go_wp2_with (first | (go_at_call 75; refine (hidx rest _).mono ?_; rintro e w' ⟨rfl, hw⟩; rw [hw, HIX.out]))
      obtain ⟨k1, hk1⟩ : ∃ k1, N - 1 - done.length = k1 + 1 := ⟨N - 1 - done.length - 1, by omega⟩
      go_roundg (N - 1 - (done.length + 1))
      case measure => have := HI.out.2.1; omega
      case rel =>
        refine ⟨done ++ [rest.extract 0 i], rest.extract (i + 1) rest.size, rfl, by simp, ⟨by simp; omega, by simp, by rw [ByteArray.size_extract]; omega, ?_⟩, by rw [← Lib.cellsOf_set (by omega)], ⟨?_⟩⟩
        · have h1 := HM2.out
          have h2 := HI.out.2.2.2
          simp only [List.length_append, List.length_singleton]
          omega
        · rw [← HS.out, HM.out, List.append_assoc]
          rfl
    · have hltz : ¬ (((done.length : Nat) : Int) < (N : Int) - 1) := by omega
      have hend : nextLf rest < 0 := by
        by_cases h : nextLf rest < 0
        · exact h
        · have h1 := lfN_more (s := rest) (by omega)
          have h2 := HI.out.2.2.2
          omega
      have HF := Aside0.mk (show done ++ [rest] = pieces s by rw [← HS.out, pieces_end hend])
      clear hend
      go_wp2
      go_ret
      have hdn : done.length = N - 1 := by omega
      refine ⟨?_, ?_⟩
      · rw [hdn]
        rw [show N - 1 + 1 = N by omega]
        rfl
      · rw [← HF.out, ← Lib.cellsOf_set (by omega)]
def strings_Split.f (s sep : ByteArray) : Option (List ByteArray) := if sep = ⟨#[10]⟩ ∧ s.size ≤ 1000000000 then some (pieces s) else none
set_option maxHeartbeats 8000000 in
set_option maxRecDepth 100000 in
theorem strings_Split.calls (a0 a1 : ByteArray) (r : List ByteArray) (w : World) (h : strings_Split.f a0 a1 = some r) :
    Calls Tryd.prog 44 #[.string a0, .string a1] w fun e w' => ∃ v0_ : Value, e = .returned (v0_) ∧ Kd.R Kd.string 9 w' w.heap.size (fun _ => True) v0_ r ∧ Below w.heap.size w w' := by
  unfold strings_Split.f at h
  split at h
  · rename_i hh
    obtain ⟨rfl, hs⟩ := hh
    obtain rfl := Option.some.inj h
    have hg := gen_Split a0 w hs
    have hpl := pieces_length a0.size a0 (Nat.le_refl _)
    have hle := lfN_le a0
    have HP := Aside0.mk hpl
    clear hpl h
    go_enter Tryd.func44, Tryd.ntmps44
    go_wp2_with (go_at_call 62; refine hg.mono ?_; rintro e w1 ⟨rfl, rfl⟩)
    go_ret
    refine ⟨_, rfl, Kd.R_of_own ⟨by rw [encs_length, Nat.mul_one], .inr ⟨w.heap.size, (pieces a0).length, Lib.cellsOf (pieces a0) (pieces a0).length, rfl, Nat.le_refl _, heap_alloc_new w _, Nat.le_refl _, by have := HP.out; unfold maxLen; omega, by rw [Lib.cellsOf_size (Nat.le_refl _), Nat.mul_one], ?_⟩⟩ (fun _ _ => trivial), below_alloc (Below.refl _ _) _⟩
    unfold Lib.cellsOf encs
    rw [Nat.sub_self, List.replicate_zero, List.append_nil, Nat.mul_one]
    rw [List.take_of_length_le (by simp)]
  · cases h
end Go.Proofs.YtdjepocklmlnbaaDoor.Hand
