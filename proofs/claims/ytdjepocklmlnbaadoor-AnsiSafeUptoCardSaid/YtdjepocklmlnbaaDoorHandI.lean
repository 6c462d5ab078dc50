/- HandI: several of this session's texts in one. -/
import Derived.Test.YtdjepocklmlnbaaDoorX0
import Derived.Test.YtdjepocklmlnbaaDoorHandA
import Derived.Shelf.Abstract
/- The place of the first element that passes a test. -/
namespace Go.Proofs.YtdjepocklmlnbaaDoor.Hand
open Go.RowKit Go.Proofs.YtdjepocklmlnbaaDoorW.PrintWords Go.Proofs.YtdjepocklmlnbaaDoorW.PrintLast Go.Proofs.YtdjepocklmlnbaaDoorW.PrintMore Go.Proofs.YtdjepocklmlnbaaDoor.X
/-- The place of the first that passes. -/
def placeOf {α : Type} (p : α → Bool) (l : List α) : Int := match l.findIdx? p with | some i => (i : Int) | none => -1
theorem placeOf_hit {α : Type} {p : α → Bool} {l : List α} {i : Nat} (hi : i < l.length) (hp : p l[i] = true) (h : ∀ j (hj : j < i), p (l[j]'(by omega)) = false) : placeOf p l = i := by
  unfold placeOf
  rw [List.findIdx?_eq_some_iff_getElem.2 ⟨hi, hp, fun j hj => by simpa using h j hj⟩]
theorem placeOf_none {α : Type} {p : α → Bool} {l : List α} (h : ∀ x ∈ l, p x = false) : placeOf p l = -1 := by
  unfold placeOf
  rw [List.findIdx?_eq_none_iff.2 h]

end Go.Proofs.YtdjepocklmlnbaaDoor.Hand

/- slices.IndexFunc over glyphs, walked by hand, whatever the test: a function value whose calls lay only new blocks. -/
namespace Go.Proofs.YtdjepocklmlnbaaDoor.Hand
open Go.RowKit Go.Proofs.YtdjepocklmlnbaaDoorW.PrintWords Go.Proofs.YtdjepocklmlnbaaDoorW.PrintLast Go.Proofs.YtdjepocklmlnbaaDoorW.PrintMore Go.Proofs.YtdjepocklmlnbaaDoor.X
set_option linter.unusedVariables false
set_option linter.unusedSimpArgs false

/-- What is asked of a test. -/
def TestG (g : Nat) (lb : Array Value) (p : S44 → Bool) (w : World) : Prop :=
  ∀ (W : World) (x : S44), Below w.heap.size w W → Calls Tryd.prog g (#[.agg #[.int .i32 x.f0, .int .u8 x.f1]] ++ lb) W fun e w' => e = .returned (.bool (p x)) ∧ Below w.heap.size w w'

set_option maxHeartbeats 8000000 in
set_option maxRecDepth 100000 in
theorem index_G (A0 : Option Addr) (c0 : Nat) (l0 : List (S44)) (w : World) (hr0 : Kd.C k44 w A0 l0.length l0) (p : S44 → Bool) (g : Nat) (lb : Array Value)
    (eg : ∀ args w, (callFunc g args).run Tryd.prog w = .ok (.enter g args) w) (hp : TestG g lb p w) :
    Calls Tryd.prog 48 #[.slice A0 l0.length c0, .func (.func g) #[] lb] w fun e w' => e = .returned (.int .i64 (placeOf p l0)) ∧ Below w.heap.size w w' := by
  have HR0 := Aside0.mk hr0
  have hmax := hr0.2.1
  have HM := Aside0.mk hmax
  clear hr0 hmax
  have HP := Aside0.mk hp
  clear hp
  go_enter Tryd.func48, Tryd.ntmps48
  go_wp2
  go_loopg [5, 8] l0.length (fun kq v5 v8 w' => ∃ i : Nat, v8 = .int .i64 i ∧ Aside0 (i ≤ l0.length ∧ l0.length - i ≤ kq ∧ ∀ j (hj : j < l0.length), j < i → p l0[j] = false) ∧ Aside0 (Below w.heap.size w w'))
  case atStart => exact ⟨0, rfl, ⟨by omega, by omega, fun j _ h => absurd h (by omega)⟩, ⟨Below.refl _ _⟩⟩
  case round =>
    obtain ⟨i, rfl, HI, HB⟩ := hrel
    by_cases hlt : i < l0.length
    · have c1 : decide ((i : Int) < (l0.length : Int)) = true := decide_eq_true (by omega)
      have c2 : (0 : Int) ≤ (i : Int) := by omega
      have c3 : (i : Int) < (l0.length : Int) := by omega
      obtain ⟨ad, e, hx0, hx1⟩ := at_T44 HR0.out (i : Int) (by omega) (by omega)
      have hcall := HP.out wr l0[i] HB.out
      have hrd : rd_T44 l0 (i : Int) = l0[i] := by simp [rd_T44, List.getD_eq_getElem?_getD, List.getElem?_eq_getElem hlt]
      rw [hrd] at hx0 hx1
      subst e
      replace hx0 := (HB.out.cell (World.block_lt_of_cell? w _ hx0)).trans hx0
      replace hx1 := (HB.out.cell (World.block_lt_of_cell? w _ hx1)).trans hx1
      have hu := Tryd.underlying44
      rw [Int.toNat_natCast] at hx0 hx1
      cases hq : p l0[i] with
      | true =>
        rw [hq] at hcall
        have HC := Aside0.mk hcall
        have HQ := Aside0.mk hq
        clear hcall hq hrd
        go_wp2_with (fail)
        refine HC.out.mono ?_
        rintro e w' ⟨rfl, hb'⟩
        have HBB := Aside0.mk hb'
        clear hb'
        go_wp2
        go_ret
        exact ⟨by rw [placeOf_hit hlt HQ.out (fun j hj => HI.out.2.2 j (by omega) hj)]; rfl, HBB.out⟩
      | false =>
        rw [hq] at hcall
        have HC := Aside0.mk hcall
        have HQ := Aside0.mk hq
        clear hcall hq hrd
        have wi : IntKind.i64.wrap ((i : Int) + 1) = ((i + 1 : Nat) : Int) := by rw [IntKind.wrap_i64]; have := HM.out; omega
        go_wp2_with (fail)
        refine HC.out.mono ?_
        rintro e w' ⟨rfl, hb'⟩
        have HBB := Aside0.mk hb'
        clear hb'
        go_wp2
        obtain ⟨k1, rfl⟩ : ∃ k1, gk = k1 + 1 := ⟨gk - 1, by have := HI.out.2.1; omega⟩
        go_roundg k1
        case measure => omega
        case rel =>
          refine ⟨i + 1, by first | rfl | (simp; done), ⟨by omega, by have := HI.out.2.1; omega, fun j hj hji => ?_⟩, HBB⟩
          by_cases e : j = i
          · subst e
            exact HQ.out
          · exact HI.out.2.2 j hj (by omega)
    · have c1 : decide ((i : Int) < (l0.length : Int)) = false := decide_eq_false (by omega)
      go_wp2
      go_ret
      have hno : ∀ x ∈ l0, p x = false := by
        intro x hx
        obtain ⟨j, hj, rfl⟩ := List.getElem_of_mem hx
        exact HI.out.2.2 j hj (by omega)
      exact ⟨by rw [placeOf_none hno]; rfl, HB.out⟩
end Go.Proofs.YtdjepocklmlnbaaDoor.Hand

/- cells.Runs, walked by hand: the row that is left lies in a variable that the test looks at. -/
namespace Go.Proofs.YtdjepocklmlnbaaDoor.Hand
open Go.RowKit Go.Proofs.YtdjepocklmlnbaaDoorW.PrintWords Go.Proofs.YtdjepocklmlnbaaDoorW.PrintLast Go.Proofs.YtdjepocklmlnbaaDoorW.PrintMore Go.Proofs.YtdjepocklmlnbaaDoor.X
set_option linter.unusedVariables false
set_option linter.unusedSimpArgs false

/-- How long the first run is. -/
def runLen (l : List S44) : Nat := (l.findIdx? (fun g => g.f1 != (rd_T44 l 0).f1)).getD l.length
theorem runLen_le (l : List S44) : runLen l ≤ l.length := by
  unfold runLen
  cases h : l.findIdx? (fun g => g.f1 != (rd_T44 l 0).f1) with
  | none => exact Nat.le_refl _
  | some i =>
    have := (List.findIdx?_eq_some_iff_getElem.1 h).1
    simp only [Option.getD_some]
    omega
theorem runLen_pos {l : List S44} (h : 0 < l.length) : 0 < runLen l := by
  unfold runLen
  cases hf : l.findIdx? (fun g => g.f1 != (rd_T44 l 0).f1) with
  | none => exact h
  | some i =>
    simp only [Option.getD_some]
    rcases Nat.eq_zero_or_pos i with e | e
    · subst e
      obtain ⟨h1, h2, _⟩ := List.findIdx?_eq_some_iff_getElem.1 hf
      simp [rd_T44, List.getD_eq_getElem?_getD, List.getElem?_eq_getElem h1] at h2
    · exact e
def runsN : Nat → List S44 → List (List S44)
  | 0, _ => []
  | n + 1, l => if l.length = 0 then [] else l.take (runLen l) :: runsN n (l.drop (runLen l))
def runs (l : List S44) : List (List S44) := runsN l.length l
theorem runsN_enough : ∀ (n m : Nat) (l : List S44), l.length ≤ n → l.length ≤ m → runsN n l = runsN m l
  | 0, 0, _, _, _ => rfl
  | 0, m + 1, l, h, _ => by
    have h0 : l.length = 0 := by omega
    simp [runsN, h0]
  | n + 1, 0, l, _, h => by
    have h0 : l.length = 0 := by omega
    simp [runsN, h0]
  | n + 1, m + 1, l, h1, h2 => by
    by_cases h0 : l.length = 0
    · simp [runsN, h0]
    · have hp := runLen_pos (l := l) (by omega)
      simp only [runsN]
      rw [if_neg h0, if_neg h0, runsN_enough n m (l.drop (runLen l)) (by rw [List.length_drop]; omega) (by rw [List.length_drop]; omega)]
theorem runs_nil {l : List S44} (h : l.length = 0) : runs l = [] := by
  unfold runs
  rw [h]
  rfl
theorem runs_cons {l : List S44} (h : 0 < l.length) : runs l = l.take (runLen l) :: runs (l.drop (runLen l)) := by
  have hp := runLen_pos h
  unfold runs
  obtain ⟨n, hn⟩ : ∃ n, l.length = n + 1 := ⟨l.length - 1, by omega⟩
  rw [hn]
  simp only [runsN]
  rw [if_neg (by omega), runsN_enough n (l.drop (runLen l)).length (l.drop (runLen l)) (by rw [List.length_drop]; omega) (Nat.le_refl _)]
theorem runs_length : ∀ (n : Nat) (l : List S44), l.length ≤ n → (runs l).length ≤ l.length
  | 0, l, h => by rw [runs_nil (by omega)]; simp
  | n + 1, l, h => by
    by_cases h0 : l.length = 0
    · rw [runs_nil h0]
      simp
    · have hp := runLen_pos (l := l) (by omega)
      rw [runs_cons (by omega), List.length_cons]
      have := runs_length n (l.drop (runLen l)) (by rw [List.length_drop]; omega)
      rw [List.length_drop] at this
      omega
def cells_Runs.f (l : List S44) : Option (List (List S44)) := if l.length < 1000000000000 then some (runs l) else none

theorem place_runLen (l : List S44) : placeOf (fun g => g.f1 != (rd_T44 l 0).f1) l = if runLen l = l.length ∧ l.findIdx? (fun g => g.f1 != (rd_T44 l 0).f1) = none then -1 else (runLen l : Int) := by
  unfold placeOf runLen
  cases h : l.findIdx? (fun g => g.f1 != (rd_T44 l 0).f1) with
  | none => simp
  | some i => simp

set_option maxHeartbeats 8000000 in
set_option maxRecDepth 100000 in
theorem runs_test (g : Nat) (A : Option Addr) (c : Nat) (l : List S44) (w : World) (hl : 0 < l.length) (hg : w.heap[g]? = some (.cells #[.slice A l.length c] 33 (0, 0))) (hr : Kd.C k44 w A l.length l) :
    TestG 49 #[.pointer (some ⟨g, 0, none⟩)] (fun x => x.f1 != (rd_T44 l 0).f1) w := by
  intro W x hb
  obtain ⟨ad, e, hx0, hx1⟩ := at_T44 hr 0 (by omega) (by omega)
  subst e
  generalize (rd_T44 l 0).f1 = s at hx1 ⊢
  have hgl : g < w.heap.size := (Array.getElem?_eq_some_iff.1 hg).1
  have hc : W.cell? ⟨g, 0, none⟩ = some (.slice (some ad) l.length c) := by
    have h := hb.block g hgl
    unfold World.cell?
    simp only [h, hg]
    rfl
  have hy : W.cell? ⟨ad.block, ad.off + 1, none⟩ = some (.int .u8 s) := by
    have h := (hb.cell (World.block_lt_of_cell? w _ hx1)).trans hx1
    simpa [Addr.add] using h
  have hgW : g < W.heap.size := Nat.lt_of_lt_of_le hgl hb.size
  have hne : g ≠ W.heap.size := by omega
  have hal : ad.block ≠ W.heap.size := by
    have h1 := World.block_lt_of_cell? W _ hy
    simp only at h1
    omega
  have hln : (0 : Int) < (l.length : Int) := by omega
  have HB := Aside0.mk hb
  clear hb hx0 hx1 hg hr
  show Calls Tryd.prog 49 #[.agg #[.int .i32 x.f0, .int .u8 x.f1], .pointer (some ⟨g, 0, none⟩)] W _
  go_enter Tryd.func49, Tryd.ntmps49
  go_wp2
  have HB1 : Aside0 (Below w.heap.size w (W.alloc (.cells #[.int .i32 x.f0, .int .u8 x.f1] 44))) := ⟨HB.out.alloc HB.out.size _⟩
  have k1 : (W.alloc (.cells #[.int .i32 x.f0, .int .u8 x.f1] 44)).cell? ⟨W.heap.size, 1, none⟩ = some (.int .u8 x.f1) := by
    rw [World.cell?_alloc_at _ _ _ _ rfl]
    rfl
  have k2 : (W.alloc (.cells #[.int .i32 x.f0, .int .u8 x.f1] 44)).cell? ⟨g, 0, none⟩ = some (.slice (some ad) l.length c) := Lib.cell?_alloc_some _ hc
  have k3 : (W.alloc (.cells #[.int .i32 x.f0, .int .u8 x.f1] 44)).cell? ⟨ad.block, ad.off + 1, none⟩ = some (.int .u8 s) := Lib.cell?_alloc_some _ hy
  generalize W.heap.size = b at *
  generalize W.alloc (.cells #[.int .i32 x.f0, .int .u8 x.f1] 44) = W1 at *
  clear hc hy
  go_quiet (fail)
  go_wp2
  go_ret
  exact ⟨rfl, by repeat (first | exact HB1.out | apply below_drew | apply pw_below_drewN)⟩

set_option maxHeartbeats 8000000 in
set_option maxRecDepth 100000 in
theorem cells_Runs.calls (A0 : Option Addr) (c0 : Nat) (l0 : List (S44)) (r : List (List S44)) (w : World) (hr0 : Kd.C k44 w A0 l0.length l0) (hc0 : l0.length ≤ c0) (h : cells_Runs.f l0 = some r) :
    Calls Tryd.prog 35 #[.slice A0 l0.length c0] w fun e w' => ∃ v0_ : Value, e = .returned (v0_) ∧ Kd.S (Kd.slice 44 k44) 33 w' w.heap.size (fun _ => True) v0_ r ∧ Below w.heap.size w w' := by
  have hmf : ∀ (fn : Fn) (first cap : Array Value) (w : World), (Instr.makeFunc fn first cap).run Tryd.prog w = .ok (.func fn first cap) w := fun _ _ _ _ => rfl
  have eg : ∀ args w, (callFunc 49 args).run Tryd.prog w = .ok (.enter 49 args) w := enters_of Tryd.func49 (by kernel_rfl) rfl
  unfold cells_Runs.f at h
  split at h
  · rename_i hl
    obtain rfl := Option.some.inj h
    clear h
    have HL := Aside0.mk hl
    have HR0 := Aside0.mk hr0
    have HC0 := Aside0.mk hc0
    clear hl hr0 hc0
    have hg0 : (w.alloc (.cells #[.slice A0 l0.length c0] 33)).heap[w.heap.size]? = some (.cells #[.slice A0 l0.length c0] 33 (0, 0)) := heap_alloc_new w _
    have HG0 := Aside0.mk hg0
    clear hg0
    have HB0 : Aside0 (Below w.heap.size w (w.alloc (.cells #[.slice A0 l0.length c0] 33))) := ⟨(Below.refl _ w).alloc (Nat.le_refl _) _⟩
    go_enter Tryd.func35, Tryd.ntmps35
    go_wp2
    obtain ⟨i0, hi0, hz0, hz1, hz2⟩ := info_parts info44
    go_loopg [3] l0.length (fun kq v3 w' => ∃ (A : Option Addr) (c : Nat) (l : List S44) (outs : List (List S44)), Aside0 (w'.heap[w.heap.size]? = some (.cells #[.slice A l.length c] 33 (0, 0))) ∧ Aside0 (Kd.C k44 w A l.length l ∧ l.length ≤ c ∧ l.length ≤ l0.length ∧ l.length ≤ kq ∧ outs ++ runs l = runs l0 ∧ outs.length + l.length ≤ l0.length) ∧ Aside0 (Kd.S (Kd.slice 44 k44) 33 w' w.heap.size (fun k_ => k_ ≠ w.heap.size) v3 outs) ∧ Aside0 (Below w.heap.size w w'))
    case atStart => exact ⟨A0, c0, l0, [], HG0, ⟨HR0.out, HC0.out, Nat.le_refl _, Nat.le_refl _, rfl, by simp⟩, ⟨Kd.S_nil _ _ _ _ _⟩, HB0⟩
    case round =>
      clear HG0 HB0
      obtain ⟨A, c, l, outs, HG, HC, HS, HB⟩ := hrel
      have HSZ : Aside0 (w.heap.size < wr.heap.size) := ⟨(Array.getElem?_eq_some_iff.1 HG.out).1⟩
      have hcell : wr.cell? ⟨w.heap.size, 0, none⟩ = some (.slice A l.length c) := (blk_cell HG.out 0).trans rfl
      by_cases hpos : 0 < l.length
      · have c1 : decide ((0 : Int) < (l.length : Int)) = true := decide_eq_true (by omega)
        have hm0 := runLen_pos hpos
        have hm1 := runLen_le l
        obtain ⟨y, hy0⟩ : ∃ y, y = l.take (runLen l) := ⟨_, rfl⟩
        have HY := Aside0.mk hy0
        clear hy0
        have hidx := index_G A c l wr (Kd.C_below HC.out.1 HB.out) _ _ _ eg (runs_test w.heap.size A c l wr hpos HG.out (Kd.C_below HC.out.1 HB.out))
        rw [place_runLen] at hidx
        by_cases hcase : runLen l = l.length ∧ l.findIdx? (fun g => g.f1 != (rd_T44 l 0).f1) = none
        · rw [if_pos hcase] at hidx
          have HX := Aside0.mk hidx
          have hrl := hcase.1
          clear hidx hcase
          have HYC : Aside0 (Kd.C k44 w A y.length y) := ⟨by rw [HY.out]; exact Kd.C_take HC.out.1 hm1⟩
          have HYF : Aside0 (clone_G.f y = some y) := ⟨by unfold clone_G.f; rw [if_pos (by rw [HY.out, List.length_take]; have := HL.out; have := HC.out.2.2.1; omega)]⟩
          have hcc : l.length ≤ c := HC.out.2.1
          have hy : Aside0 (y.length = l.length) := ⟨by rw [HY.out, List.length_take]; have := runLen_le l; omega⟩
          have HCL : Aside0 (∀ W, Kd.C k44 W A y.length y → Calls Tryd.prog 50 #[.slice A (l.length) c] W fun e w' => ∃ v0_ : Value, e = .returned (v0_) ∧ Kd.R k44 44 w' W.heap.size (fun _ => True) v0_ y ∧ Below W.heap.size W w') := ⟨fun W hC => by
            have h := clone_G.calls A c y y W hC (by have := HC.out.2.1; have := hy.out; omega) HYF.out
            rw [hy.out] at h
            exact h⟩
          have hcut := cut_to (P := Tryd.prog) 33 44 .i64 Tryd.underlying33 hi0 A l.length c ((l.length : Nat) : Int) (by omega) (by have := runLen_le l; omega) (by have := HC.out.2.1; omega)
          rw [Int.toNat_natCast] at hcut
          have hcut2 := cut_from (P := Tryd.prog) 33 44 .i64 Tryd.underlying33 hi0 2 hz1 A l.length c ((l.length : Nat) : Int) (by omega) (by have := runLen_le l; omega)
          rw [Int.toNat_natCast] at hcut2
          obtain ⟨A', hA'⟩ : ∃ A' : Option Addr, A' = (if c = l.length then A else A.map (·.add (l.length * 2))) := ⟨_, rfl⟩
          rw [← hA'] at hcut2
          have HA' := Aside0.mk hA'
          clear hA'
          go_wp2_with (first | (go_at_call 48; refine HX.out.mono ?_; rintro e w1 ⟨rfl, hb1⟩; have HB1 := Aside0.mk hb1; clear hb1; have hcell1 : w1.cell? ⟨w.heap.size, 0, none⟩ = some (.slice A l.length c) := (HB1.out.cell (World.block_lt_of_cell? _ _ hcell)).trans hcell) | (go_at_call 50; refine (HCL.out _ (Kd.C_below HYC.out (below_step HB.out HB1.out))).mono ?_; rintro e w2 ⟨vc, rfl, ho, hb2⟩; obtain ⟨Ac, cc, rfl⟩ := Kd.R_slice ho; have HO2 := Aside0.mk ho; have HB2 := Aside0.mk hb2; clear ho hb2) | ((with_reducible refine gate_builtin (b := .append) (xs := #[.tmp 15, .tmp 20]) rfl ?_); at_builtin; refine Kd.S_append (Kd.slice 44 k44) (w0 := w) w.heap.size rfl (.tmp 15) (.tmp 20) 40 33 (.slice none 0 0) 24 rfl Tryd.underlying40 info33 rfl (by decide) (by omega) u3 outs y [.slice Ac y.length cc] (fun k_ => k_ ≠ w.heap.size) (fun k_ => some k_ = (Value.slice Ac y.length cc).ownBlock) rfl rfl ?aP ?aK ?aF ?aO ?aB ?aS ?aL ?_))
          case aP => exact ⟨_, rfl, Kd.R_lower (Kd.R_tight rfl HO2.out) (Nat.le_trans (below_size HB.out) HB1.out.size)⟩
          case aK =>
            intro k_ hk
            have h1 := Kd.R_base HO2.out k_ hk.symm
            have h2 := HB.out.size
            have h3 := HB1.out.size
            refine ⟨by have := HSZ.out; omega, fun e => ?_⟩
            have := Kd.S_lt (Kd.S_below HS.out HB1.out) k_ e.symm
            omega
          case aF =>
            intro k_ hk
            have h3 := HB1.out.size
            have h4 := HB2.out.size
            have := HSZ.out
            omega
          case aO =>
            refine Kd.S_mono (Kd.S_old (Kd.S_below HS.out HB1.out) HB2.out) (fun k_ hk => ⟨hk.1, fun e => ?_⟩)
            have h1 := Kd.R_base HO2.out k_ e.symm
            have := hk.2
            omega
          case aB => exact below_step (below_step HB.out HB1.out) HB2.out
          case aS => exact below_size (below_step (below_step HB.out HB1.out) HB2.out)
          case aL => have := HC.out.2.2.2.2.2; have := HL.out; omega
          intro v4 w3 ho3 hb3 hg3 hat
          have hne : some w.heap.size ≠ u3.ownBlock := fun e => (Kd.S_away HS.out (g := w.heap.size) (fun k_ hk => hk)) e
          have hbox3 : w3.heap[w.heap.size]? = some (.cells #[.slice A l.length c] 33 (0, 0)) := by
            have h3 := HB1.out.size
            have h4 := HB2.out.size
            have h5 := HSZ.out
            rw [hg3.block w.heap.size (by omega) hne, HB2.out.block w.heap.size (by omega), HB1.out.block w.heap.size (by omega)]
            exact HG.out
          have HS3 := Aside0.mk ho3
          have HB3 := Aside0.mk hb3
          have HG3 := Aside0.mk hbox3
          clear ho3 hb3 hg3 hat hbox3
          have hc3 : w3.cell? ⟨w.heap.size, 0, none⟩ = some (.slice A l.length c) := (blk_cell HG3.out 0).trans rfl
          have hf3 := blk_frozen HG3.out 0
          go_wp2
          obtain ⟨k1, rfl⟩ : ∃ k1, gk = k1 + 1 := ⟨gk - 1, by have := HC.out.2.2.2.1; omega⟩
          go_roundg k1
          case measure => omega
          case rel =>
            have hlen : (l.drop (runLen l)).length = l.length - l.length := by rw [List.length_drop]; omega
            refine ⟨A', c - l.length, l.drop (runLen l), outs ++ [y], ⟨?_⟩, ⟨?_, ?_, ?_, ?_, ?_, ?_⟩, ⟨?_⟩, ⟨?_⟩⟩
            · rw [hlen]
              exact blk_put HG3.out 0 _ (by first | rfl | simp)
            · have h1 := Kd.C_drop (c := c) (m := runLen l) HC.out.1 (runLen_le l) HC.out.2.1
              have e : l.length = runLen l := by omega
              rw [HA'.out, e]
              exact h1
            · rw [hlen]; have := HC.out.2.1; omega
            · rw [hlen]; have := HC.out.2.2.1; omega
            · rw [hlen]; have := HC.out.2.2.2.1; omega
            · rw [← HC.out.2.2.2.2.1, runs_cons (l := l) hpos, HY.out, List.append_assoc]
              rfl
            · rw [hlen, List.length_append, List.length_singleton]; have := HC.out.2.2.2.2.2; omega
            · exact Kd.S_far HS3.out (fun k_ hk => hk) _
            · exact below_set HB3.out (Nat.le_refl _)
        · rw [if_neg hcase] at hidx
          have HX := Aside0.mk hidx
          clear hidx hcase
          have c2 : decide ((runLen l : Int) < 0) = false := decide_eq_false (by omega)
          have c3 : ¬ ((runLen l : Int) < 0) := by omega
          have HYC : Aside0 (Kd.C k44 w A y.length y) := ⟨by rw [HY.out]; exact Kd.C_take HC.out.1 hm1⟩
          have HYF : Aside0 (clone_G.f y = some y) := ⟨by unfold clone_G.f; rw [if_pos (by rw [HY.out, List.length_take]; have := HL.out; have := HC.out.2.2.1; omega)]⟩
          have hcc : l.length ≤ c := HC.out.2.1
          have hy : Aside0 (y.length = runLen l) := ⟨by rw [HY.out, List.length_take]; have := runLen_le l; omega⟩
          have HCL : Aside0 (∀ W, Kd.C k44 W A y.length y → Calls Tryd.prog 50 #[.slice A (runLen l) c] W fun e w' => ∃ v0_ : Value, e = .returned (v0_) ∧ Kd.R k44 44 w' W.heap.size (fun _ => True) v0_ y ∧ Below W.heap.size W w') := ⟨fun W hC => by
            have h := clone_G.calls A c y y W hC (by have := HC.out.2.1; have := hy.out; omega) HYF.out
            rw [hy.out] at h
            exact h⟩
          have hcut := cut_to (P := Tryd.prog) 33 44 .i64 Tryd.underlying33 hi0 A l.length c ((runLen l : Nat) : Int) (by omega) (by have := runLen_le l; omega) (by have := HC.out.2.1; omega)
          rw [Int.toNat_natCast] at hcut
          have hcut2 := cut_from (P := Tryd.prog) 33 44 .i64 Tryd.underlying33 hi0 2 hz1 A l.length c ((runLen l : Nat) : Int) (by omega) (by have := runLen_le l; omega)
          rw [Int.toNat_natCast] at hcut2
          obtain ⟨A', hA'⟩ : ∃ A' : Option Addr, A' = (if c = runLen l then A else A.map (·.add (runLen l * 2))) := ⟨_, rfl⟩
          rw [← hA'] at hcut2
          have HA' := Aside0.mk hA'
          clear hA'
          go_wp2_with (first | (go_at_call 48; refine HX.out.mono ?_; rintro e w1 ⟨rfl, hb1⟩; have HB1 := Aside0.mk hb1; clear hb1; have hcell1 : w1.cell? ⟨w.heap.size, 0, none⟩ = some (.slice A l.length c) := (HB1.out.cell (World.block_lt_of_cell? _ _ hcell)).trans hcell) | (go_at_call 50; refine (HCL.out _ (Kd.C_below HYC.out (below_step HB.out HB1.out))).mono ?_; rintro e w2 ⟨vc, rfl, ho, hb2⟩; obtain ⟨Ac, cc, rfl⟩ := Kd.R_slice ho; have HO2 := Aside0.mk ho; have HB2 := Aside0.mk hb2; clear ho hb2) | ((with_reducible refine gate_builtin (b := .append) (xs := #[.tmp 15, .tmp 20]) rfl ?_); at_builtin; refine Kd.S_append (Kd.slice 44 k44) (w0 := w) w.heap.size rfl (.tmp 15) (.tmp 20) 40 33 (.slice none 0 0) 24 rfl Tryd.underlying40 info33 rfl (by decide) (by omega) u3 outs y [.slice Ac y.length cc] (fun k_ => k_ ≠ w.heap.size) (fun k_ => some k_ = (Value.slice Ac y.length cc).ownBlock) rfl rfl ?aP ?aK ?aF ?aO ?aB ?aS ?aL ?_))
          case aP => exact ⟨_, rfl, Kd.R_lower (Kd.R_tight rfl HO2.out) (Nat.le_trans (below_size HB.out) HB1.out.size)⟩
          case aK =>
            intro k_ hk
            have h1 := Kd.R_base HO2.out k_ hk.symm
            have h2 := HB.out.size
            have h3 := HB1.out.size
            refine ⟨by have := HSZ.out; omega, fun e => ?_⟩
            have := Kd.S_lt (Kd.S_below HS.out HB1.out) k_ e.symm
            omega
          case aF =>
            intro k_ hk
            have h3 := HB1.out.size
            have h4 := HB2.out.size
            have := HSZ.out
            omega
          case aO =>
            refine Kd.S_mono (Kd.S_old (Kd.S_below HS.out HB1.out) HB2.out) (fun k_ hk => ⟨hk.1, fun e => ?_⟩)
            have h1 := Kd.R_base HO2.out k_ e.symm
            have := hk.2
            omega
          case aB => exact below_step (below_step HB.out HB1.out) HB2.out
          case aS => exact below_size (below_step (below_step HB.out HB1.out) HB2.out)
          case aL => have := HC.out.2.2.2.2.2; have := HL.out; omega
          intro v4 w3 ho3 hb3 hg3 hat
          have hne : some w.heap.size ≠ u3.ownBlock := fun e => (Kd.S_away HS.out (g := w.heap.size) (fun k_ hk => hk)) e
          have hbox3 : w3.heap[w.heap.size]? = some (.cells #[.slice A l.length c] 33 (0, 0)) := by
            have h3 := HB1.out.size
            have h4 := HB2.out.size
            have h5 := HSZ.out
            rw [hg3.block w.heap.size (by omega) hne, HB2.out.block w.heap.size (by omega), HB1.out.block w.heap.size (by omega)]
            exact HG.out
          have HS3 := Aside0.mk ho3
          have HB3 := Aside0.mk hb3
          have HG3 := Aside0.mk hbox3
          clear ho3 hb3 hg3 hat hbox3
          have hc3 : w3.cell? ⟨w.heap.size, 0, none⟩ = some (.slice A l.length c) := (blk_cell HG3.out 0).trans rfl
          have hf3 := blk_frozen HG3.out 0
          go_wp2
          obtain ⟨k1, rfl⟩ : ∃ k1, gk = k1 + 1 := ⟨gk - 1, by have := HC.out.2.2.2.1; omega⟩
          go_roundg k1
          case measure => omega
          case rel =>
            have hlen : (l.drop (runLen l)).length = l.length - runLen l := by rw [List.length_drop]
            refine ⟨A', c - runLen l, l.drop (runLen l), outs ++ [y], ⟨?_⟩, ⟨?_, ?_, ?_, ?_, ?_, ?_⟩, ⟨?_⟩, ⟨?_⟩⟩
            · rw [hlen]
              exact blk_put HG3.out 0 _ (by first | rfl | simp)
            · have h1 := Kd.C_drop (c := c) (m := runLen l) HC.out.1 (runLen_le l) HC.out.2.1
              rw [HA'.out]
              exact h1
            · rw [hlen]; have := HC.out.2.1; omega
            · rw [hlen]; have := HC.out.2.2.1; omega
            · rw [hlen]; have := HC.out.2.2.2.1; omega
            · rw [← HC.out.2.2.2.2.1, runs_cons (l := l) hpos, HY.out, List.append_assoc]
              rfl
            · rw [hlen, List.length_append, List.length_singleton]; have := HC.out.2.2.2.2.2; omega
            · exact Kd.S_far HS3.out (fun k_ hk => hk) _
            · exact below_set HB3.out (Nat.le_refl _)
      · have c1 : decide ((0 : Int) < (l.length : Int)) = false := decide_eq_false (by omega)
        go_wp2
        go_ret
        refine ⟨_, rfl, ?_, HB.out⟩
        rw [← HC.out.2.2.2.2.1, runs_nil (by omega), List.append_nil]
        exact Kd.S_mono HS.out (fun _ _ => trivial)
  · cases h
end Go.Proofs.YtdjepocklmlnbaaDoor.Hand
