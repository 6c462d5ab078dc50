/- HandH: several of this session's texts in one. -/
import Derived.Test.YtmfkokjbjmahkaaDoorHandS
/- slices.ContainsFunc over texts at package lines' test (a line feed, a return, or a backslash), walked by hand. -/
namespace Go.Proofs.YtmfkokjbjmahkaaDoor.Hand
open Go Go.RowKit Go.Proofs.YtmfkokjbjmahkaaDoorW.PrintWords Go.Proofs.YtmfkokjbjmahkaaDoorW.PrintLast Go.Proofs.YtmfkokjbjmahkaaDoorW.PrintMore
set_option linter.unusedVariables false
set_option linter.unusedSimpArgs false
set_option maxHeartbeats 8000000
set_option maxRecDepth 100000
/-- The place of the first that passes. -/
def placeT {α : Type} (p : α → Bool) (l : List α) : Int := match l.findIdx? p with | some i => (i : Int) | none => -1
theorem placeT_hit {α : Type} {p : α → Bool} {l : List α} {i : Nat} (hi : i < l.length) (hp : p l[i] = true) (h : ∀ j (hj : j < i), p (l[j]'(by omega)) = false) : placeT p l = i := by
  unfold placeT
  rw [List.findIdx?_eq_some_iff_getElem.2 ⟨hi, hp, fun j hj => by simpa using h j hj⟩]
theorem placeT_none {α : Type} {p : α → Bool} {l : List α} (h : ∀ x ∈ l, p x = false) : placeT p l = -1 := by
  unfold placeT
  rw [List.findIdx?_eq_none_iff.2 h]
def badT (s : ByteArray) : Bool := Lib.containsAny s.data.toList [10, 13, 92]
theorem bad_test (s : ByteArray) (w : World) (h : s.size ≤ 140737488355328) :
    Calls Tryd.prog 39 #[.string s] w fun e w' => e = .returned (.bool (badT s)) ∧ Below w.heap.size w w' := by
  have hc := fun W => @strings_ContainsAny.calls s ⟨#[10, 13, 92]⟩ (badT s) W (if_pos ⟨by decide, by decide, h, by decide⟩)
  have HC := Aside0.mk hc
  clear hc
  go_enter Tryd.func39, Tryd.ntmps39
  go_wp2_with (fail)
  refine (HC.out _).mono ?_
  rintro e w' ⟨rfl, hb'⟩
  have HB := Aside0.mk hb'
  clear hb'
  go_wp2
  go_ret
  exact ⟨rfl, HB.out⟩
theorem index_bad (A0 : Option Addr) (c0 : Nat) (l0 : List ByteArray) (w : World) (hr0 : Kd.C Kd.string w A0 l0.length l0) (hq : ∀ s ∈ l0, s.size ≤ 140737488355328) :
    Calls Tryd.prog 57 #[.slice A0 l0.length c0, .func (.func 39) #[] #[]] w fun e w' => e = .returned (.int .i64 (placeT badT l0)) ∧ Below w.heap.size w w' := by
  have eg : ∀ args w, (callFunc 39 args).run Tryd.prog w = .ok (.enter 39 args) w := enters_of Tryd.func39 (by kernel_rfl) rfl
  have HR0 := Aside0.mk hr0
  have hmax := hr0.2.1
  have HM := Aside0.mk hmax
  clear hr0 hmax
  have HQ0 := Aside0.mk hq
  clear hq
  go_enter Tryd.func57, Tryd.ntmps57
  go_wp2
  go_loopg [5, 8] l0.length (fun kq v5 v8 w' => ∃ i : Nat, v8 = .int .i64 i ∧ Aside0 (i ≤ l0.length ∧ l0.length - i ≤ kq ∧ ∀ j (hj : j < l0.length), j < i → badT l0[j] = false) ∧ Aside0 (Below w.heap.size w w'))
  case atStart => exact ⟨0, rfl, ⟨by omega, by omega, fun j _ h => absurd h (by omega)⟩, ⟨Below.refl _ _⟩⟩
  case round =>
    obtain ⟨i, rfl, HI, HB⟩ := hrel
    by_cases hlt : i < l0.length
    · have c1 : decide ((i : Int) < (l0.length : Int)) = true := decide_eq_true (by omega)
      have c2 : (0 : Int) ≤ (i : Int) := by omega
      have c3 : (i : Int) < (l0.length : Int) := by omega
      obtain ⟨ad, e, hx0⟩ := Kd.at_string HR0.out (i : Int) (by omega) (by omega)
      have hcall := bad_test l0[i] wr (HQ0.out _ (List.getElem_mem hlt))
      have hrd : rdOf ByteArray.empty l0 (i : Int) = l0[i] := by simp [rdOf, List.getD_eq_getElem?_getD, List.getElem?_eq_getElem hlt]
      rw [hrd] at hx0
      subst e
      replace hx0 := (HB.out.cell (World.block_lt_of_cell? w _ hx0)).trans hx0
      rw [Int.toNat_natCast] at hx0
      cases hq : badT l0[i] with
      | true =>
        rw [hq] at hcall
        have HC := Aside0.mk hcall
        have HQ := Aside0.mk hq
        clear hcall hq hrd
        go_wp2_with (fail)
        refine HC.out.mono ?_
        rintro e w' ⟨rfl, hb'⟩
        have HBB := Aside0.mk (HB.out.trans (hb'.mono HB.out.size))
        clear hb'
        go_wp2
        go_ret
        exact ⟨by rw [placeT_hit hlt HQ.out (fun j hj => HI.out.2.2 j (by omega) hj)]; rfl, HBB.out⟩
      | false =>
        rw [hq] at hcall
        have HC := Aside0.mk hcall
        have HQ := Aside0.mk hq
        clear hcall hq hrd
        have wi : IntKind.i64.wrap ((i : Int) + 1) = ((i + 1 : Nat) : Int) := by rw [IntKind.wrap_i64]; have := HM.out; omega
        go_wp2_with (fail)
        refine HC.out.mono ?_
        rintro e w' ⟨rfl, hb'⟩
        have HBB := Aside0.mk (HB.out.trans (hb'.mono HB.out.size))
        clear hb'
        go_wp2
        obtain ⟨k1, rfl⟩ : ∃ k1, gk = k1 + 1 := ⟨gk - 1, by have := HI.out.2.1; omega⟩
        go_roundg k1
        case measure => omega
        case rel =>
          refine ⟨i + 1, by first | rfl | (simp; done), ⟨by omega, by have := HI.out.2.1; omega, fun j hj hji => ?_⟩, HBB⟩
          by_cases e : j = i
          · subst e
            exact HQ.out
          · exact HI.out.2.2 j hj (by omega)
    · have c1 : decide ((i : Int) < (l0.length : Int)) = false := decide_eq_false (by omega)
      go_wp2
      go_ret
      have hno : ∀ x ∈ l0, badT x = false := by
        intro x hx
        obtain ⟨j, hj, rfl⟩ := List.getElem_of_mem hx
        exact HI.out.2.2 j hj (by omega)
      exact ⟨by rw [placeT_none hno]; rfl, HB.out⟩
theorem place_any (p : ByteArray → Bool) (l : List ByteArray) : decide (placeT p l ≥ 0) = l.any p := by
  have h := @List.findIdx?_isSome _ l p
  unfold placeT
  cases e : l.findIdx? p with
  | none =>
    rw [e] at h
    rw [← h]
    rfl
  | some i =>
    rw [e] at h
    rw [← h]
    exact decide_eq_true (by simp)
def has_bad.f (l : List ByteArray) : Option Bool := if (l.all fun s => decide (s.size ≤ 140737488355328)) = true then some (l.any badT) else none
theorem has_bad.calls (A0 : Option Addr) (c0 : Nat) (l0 : List ByteArray) (r : Bool) (w : World) (hr0 : Kd.C Kd.string w A0 l0.length l0) (hc0 : l0.length ≤ c0) (h : has_bad.f l0 = some r) :
    Calls Tryd.prog 38 #[.slice A0 l0.length c0, .func (.func 39) #[] #[]] w fun e w' => e = .returned (.bool r) ∧ Below w.heap.size w w' := by
  unfold has_bad.f at h
  split at h
  · rename_i hh
    obtain rfl := Option.some.inj h
    have hq : ∀ s ∈ l0, s.size ≤ 140737488355328 := fun s hs => of_decide_eq_true (List.all_eq_true.1 hh s hs)
    have hc := fun W h => index_bad A0 c0 l0 W h hq
    have HC := Aside0.mk hc
    have HR0 := Aside0.mk hr0
    clear hc hr0 hh
    go_enter Tryd.func38, Tryd.ntmps38
    go_wp2_with (fail)
    refine (HC.out _ ?_).mono ?_
    · exact HR0.out
    rintro e w' ⟨rfl, hb'⟩
    have HB := Aside0.mk hb'
    have hpa := place_any badT l0
    clear hb'
    go_wp2
    go_ret
    exact ⟨rfl, HB.out⟩
  · cases h
end Go.Proofs.YtmfkokjbjmahkaaDoor.Hand
