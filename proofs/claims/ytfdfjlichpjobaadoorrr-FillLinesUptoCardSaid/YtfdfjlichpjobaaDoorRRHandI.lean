/- HandI: several of this session's texts in one. -/
import Derived.Test.YtfdfjlichpjobaaDoorRRX0
import Derived.Shelf.Abstract
/- slices.IndexFunc over glyphs, walked by hand, whatever the test: a function value whose calls lay only new blocks. -/
namespace Go.Proofs.YtfdfjlichpjobaaDoorRR.Hand
open Go.RowKit Go.Proofs.YtfdfjlichpjobaaDoorRRW.PrintWords Go.Proofs.YtfdfjlichpjobaaDoorRRW.PrintLast Go.Proofs.YtfdfjlichpjobaaDoorRRW.PrintMore Go.Proofs.YtfdfjlichpjobaaDoorRR.X
set_option linter.unusedVariables false
set_option linter.unusedSimpArgs false

/-- The place of the first that passes. -/
def placeOf {α : Type} (p : α → Bool) (l : List α) : Int := match l.findIdx? p with | some i => (i : Int) | none => -1
theorem placeOf_hit {α : Type} {p : α → Bool} {l : List α} {i : Nat} (hi : i < l.length) (hp : p l[i] = true) (h : ∀ j (hj : j < i), p (l[j]'(by omega)) = false) : placeOf p l = i := by
  unfold placeOf
  rw [List.findIdx?_eq_some_iff_getElem.2 ⟨hi, hp, fun j hj => by simpa using h j hj⟩]
theorem placeOf_none {α : Type} {p : α → Bool} {l : List α} (h : ∀ x ∈ l, p x = false) : placeOf p l = -1 := by
  unfold placeOf
  rw [List.findIdx?_eq_none_iff.2 h]

/-- What is asked of a test. -/
def TestG (g : Nat) (lb : Array Value) (p : S39 → Bool) (w : World) : Prop :=
  ∀ (W : World) (x : S39), Below w.heap.size w W → Calls Tryd.prog g (#[.agg #[.int .i32 x.f0, .int .u8 x.f1]] ++ lb) W fun e w' => e = .returned (.bool (p x)) ∧ Below w.heap.size w w'

set_option maxHeartbeats 8000000 in
set_option maxRecDepth 100000 in
theorem index_G (A0 : Option Addr) (c0 : Nat) (l0 : List (S39)) (w : World) (hr0 : Kd.C k39 w A0 l0.length l0) (p : S39 → Bool) (g : Nat) (lb : Array Value)
    (eg : ∀ args w, (callFunc g args).run Tryd.prog w = .ok (.enter g args) w) (hp : TestG g lb p w) :
    Calls Tryd.prog 27 #[.slice A0 l0.length c0, .func (.func g) #[] lb] w fun e w' => e = .returned (.int .i64 (placeOf p l0)) ∧ Below w.heap.size w w' := by
  have HR0 := Aside0.mk hr0
  have hmax := hr0.2.1
  have HM := Aside0.mk hmax
  clear hr0 hmax
  have HP := Aside0.mk hp
  clear hp
  go_enter Tryd.func27, Tryd.ntmps27
  go_wp2
  go_loopg [5, 8] l0.length (fun kq v5 v8 w' => ∃ i : Nat, v8 = .int .i64 i ∧ Aside0 (i ≤ l0.length ∧ l0.length - i ≤ kq ∧ ∀ j (hj : j < l0.length), j < i → p l0[j] = false) ∧ Aside0 (Below w.heap.size w w'))
  case atStart => exact ⟨0, rfl, ⟨by omega, by omega, fun j _ h => absurd h (by omega)⟩, ⟨Below.refl _ _⟩⟩
  case round =>
    obtain ⟨i, rfl, HI, HB⟩ := hrel
    by_cases hlt : i < l0.length
    · have c1 : decide ((i : Int) < (l0.length : Int)) = true := decide_eq_true (by omega)
      have c2 : (0 : Int) ≤ (i : Int) := by omega
      have c3 : (i : Int) < (l0.length : Int) := by omega
      obtain ⟨ad, e, hx0, hx1⟩ := at_T39 HR0.out (i : Int) (by omega) (by omega)
      have hcall := HP.out wr l0[i] HB.out
      have hrd : rd_T39 l0 (i : Int) = l0[i] := by simp [rd_T39, List.getD_eq_getElem?_getD, List.getElem?_eq_getElem hlt]
      rw [hrd] at hx0 hx1
      subst e
      replace hx0 := (HB.out.cell (World.block_lt_of_cell? w _ hx0)).trans hx0
      replace hx1 := (HB.out.cell (World.block_lt_of_cell? w _ hx1)).trans hx1
      have hu := Tryd.underlying39
      rw [Int.toNat_natCast] at hx0 hx1
      cases hq : p l0[i] with
      | true =>
        rw [hq] at hcall
        have HC := Aside0.mk hcall
        have HQ := Aside0.mk hq
        clear hcall hq hrd
        go_wp2_with (fail)
        refine HC.out.mono ?_
        rintro e w' ⟨rfl, hb'⟩
        have HBB := Aside0.mk hb'
        clear hb'
        go_wp2
        go_ret
        exact ⟨by rw [placeOf_hit hlt HQ.out (fun j hj => HI.out.2.2 j (by omega) hj)]; rfl, HBB.out⟩
      | false =>
        rw [hq] at hcall
        have HC := Aside0.mk hcall
        have HQ := Aside0.mk hq
        clear hcall hq hrd
        have wi : IntKind.i64.wrap ((i : Int) + 1) = ((i + 1 : Nat) : Int) := by rw [IntKind.wrap_i64]; have := HM.out; omega
        go_wp2_with (fail)
        refine HC.out.mono ?_
        rintro e w' ⟨rfl, hb'⟩
        have HBB := Aside0.mk hb'
        clear hb'
        go_wp2
        obtain ⟨k1, rfl⟩ : ∃ k1, gk = k1 + 1 := ⟨gk - 1, by have := HI.out.2.1; omega⟩
        go_roundg k1
        case measure => omega
        case rel =>
          refine ⟨i + 1, by first | rfl | (simp; done), ⟨by omega, by have := HI.out.2.1; omega, fun j hj hji => ?_⟩, HBB⟩
          by_cases e : j = i
          · subst e
            exact HQ.out
          · exact HI.out.2.2 j hj (by omega)
    · have c1 : decide ((i : Int) < (l0.length : Int)) = false := decide_eq_false (by omega)
      go_wp2
      go_ret
      have hno : ∀ x ∈ l0, p x = false := by
        intro x hx
        obtain ⟨j, hj, rfl⟩ := List.getElem_of_mem hx
        exact HI.out.2.2 j hj (by omega)
      exact ⟨by rw [placeOf_none hno]; rfl, HB.out⟩
end Go.Proofs.YtfdfjlichpjobaaDoorRR.Hand

/- slices.IndexFunc of the first blank: package fill's test, walked by hand. -/
namespace Go.Proofs.YtfdfjlichpjobaaDoorRR.Hand
open Go.RowKit Go.Proofs.YtfdfjlichpjobaaDoorRRW.PrintWords Go.Proofs.YtfdfjlichpjobaaDoorRRW.PrintLast Go.Proofs.YtfdfjlichpjobaaDoorRRW.PrintMore Go.Proofs.YtfdfjlichpjobaaDoorRR.X
set_option linter.unusedVariables false
theorem sp_test (w : World) : TestG 28 #[] (fun x => x.f0 == 32) w := by
  intro W x hb
  have HB := Aside0.mk hb
  clear hb
  show Calls Tryd.prog 28 #[.agg #[.int .i32 x.f0, .int .u8 x.f1]] W _
  go_enter Tryd.func28, Tryd.ntmps28
  go_wp2
  go_ret
  exact ⟨rfl, HB.out.alloc HB.out.size _⟩
def index_sp.f (l : List S39) : Option Int := some (placeOf (fun x => x.f0 == 32) l)
theorem index_sp.calls (A0 : Option Addr) (c0 : Nat) (l0 : List (S39)) (r : Int) (w : World) (hr0 : Kd.C k39 w A0 l0.length l0) (hc0 : l0.length ≤ c0) (h : index_sp.f l0 = some r) :
    Calls Tryd.prog 27 #[.slice A0 l0.length c0, .func (.func 28) #[] #[]] w fun e w' => e = .returned (.int .i64 r) ∧ Below w.heap.size w w' := by
  obtain rfl := Option.some.inj h
  have eg : ∀ args w, (callFunc 28 args).run Tryd.prog w = .ok (.enter 28 args) w := enters_of Tryd.func28 (by kernel_rfl) rfl
  exact index_G A0 c0 l0 w hr0 _ _ _ eg (sp_test w)
end Go.Proofs.YtfdfjlichpjobaaDoorRR.Hand
