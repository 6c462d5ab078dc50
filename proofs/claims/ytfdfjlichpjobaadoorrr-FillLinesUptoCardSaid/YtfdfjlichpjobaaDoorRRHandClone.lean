/- slices.Clone of glyphs, walked by hand: the library's own text; nil stays nil, anything else is laid anew. -/
import Derived.Test.YtfdfjlichpjobaaDoorRRX0
import Derived.Lib.SliceRun
namespace Go.Proofs.YtfdfjlichpjobaaDoorRR.Hand
open Go.RowKit Go.Proofs.YtfdfjlichpjobaaDoorRRW.PrintWords Go.Proofs.YtfdfjlichpjobaaDoorRRW.PrintLast Go.Proofs.YtfdfjlichpjobaaDoorRRW.PrintMore Go.Proofs.YtfdfjlichpjobaaDoorRR.X
set_option linter.unusedVariables false
set_option linter.unusedSimpArgs false

def clone_G.f (l : List S39) : Option (List S39) := if l.length < 17592186044416 then some l else none

set_option maxHeartbeats 8000000 in
set_option maxRecDepth 100000 in
theorem clone_G.calls (A0 : Option Addr) (c0 : Nat) (l0 : List (S39)) (r : List (S39)) (w : World) (hr0 : Kd.C k39 w A0 l0.length l0) (hc0 : l0.length ≤ c0) (h : clone_G.f l0 = some r) :
    Calls Tryd.prog 34 #[.slice A0 l0.length c0] w fun e w' => ∃ v0_ : Value, e = .returned (v0_) ∧ Kd.R k39 39 w' w.heap.size (fun _ => True) v0_ r ∧ Below w.heap.size w w' := by
  have q22 : ∀ (w : World) (a : Option Addr) (n c n' c' : Nat), (binOp .eql 22 (.slice a n c) (.slice none n' c')).run Tryd.prog w = .ok (.bool a.isNone) w := fun w a n c n' c' => Lib.run_eql_slice_nil w _ _ a n c n' c' Tryd.underlying22
  unfold clone_G.f at h
  split at h
  · rename_i hl
    obtain rfl := Option.some.inj h
    clear h
    have HR0 := Aside0.mk hr0
    have HL := Aside0.mk hl
    clear hl
    rcases A0 with _ | ad
    · have h0 : l0 = [] := by
        rcases Nat.eq_zero_or_pos l0.length with h0 | h0
        · exact List.eq_nil_of_length_eq_zero h0
        · obtain ⟨ad, h, _⟩ := hr0.2.2 h0
          cases h
      subst h0
      clear hr0
      go_enter Tryd.func34, Tryd.ntmps34
      go_wp2
      go_ret
      exact ⟨_, rfl, Kd.R_nil _ _ _ _ _, Below.refl _ _⟩
    · clear hr0
      go_enter Tryd.func34, Tryd.ntmps34
      go_wp2_with (first | ((with_reducible refine gate_builtin (b := .append) (xs := #[.tmp 5, .tmp 6]) rfl ?_); at_builtin; refine Kd.R_append_rows k39 (w0 := w) w.heap.size rfl (.tmp 5) (.tmp 6) 22 39 (.agg #[(.int .i32 0), (.int .u8 0)]) 8 rfl Tryd.underlying22 info39 rfl (by decide) (by omega) _ ([] : List (S39)) l0 _ _ _ (fun _ => True) (fun _ => False) rfl rfl ?aO ?aR (fun _ _ h => h) (fun _ h => h.elim) ?aF ?aB ?aS ?aL ?_))
      case aO => exact ⟨fun _ _ => trivial, [], World.ownsRow_made w #[] 0 (Nat.le_refl _) (Nat.zero_le _) rfl, Reps.none _ _⟩
      case aR => exact Kd.C_alloc HR0.out _
      case aF => exact fun _ _ => trivial
      case aB => exact below_alloc (Below.refl _ _) _
      case aS => exact below_size (below_alloc (Below.refl _ _) _)
      case aL => have := HL.out; simp only [List.length_nil]; omega
      intro v1 w1 ho hb hg hat
      have HO := Aside0.mk ho
      have HB := Aside0.mk hb
      clear ho hb hg hat
      go_wp2
      go_ret
      exact ⟨_, rfl, by have := HO.out; simpa using this, HB.out⟩
  · cases h
end Go.Proofs.YtfdfjlichpjobaaDoorRR.Hand
