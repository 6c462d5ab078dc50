/- Words for what a printed walk says over and over: each takes the search as an argument of its own. -/
import Derived.Test.YtmfkokjbjmahkaaDoorX0
namespace Go.Proofs.YtmfkokjbjmahkaaDoor.X
open Go Go.RowKit Go.Proofs.YtmfkokjbjmahkaaDoorW.PrintWords Go.Proofs.YtmfkokjbjmahkaaDoorW.PrintLast Go.Proofs.YtmfkokjbjmahkaaDoorW.PrintMore
set_option linter.unusedVariables false
theorem bA {B : Nat} {w W : World} (h : Below B w W := by repeat (first | (with_reducible first | exact HB.out | apply below_alloc | apply pw_below_drewN | apply below_drew1) | exact HB.out)) : Below B w W := h
theorem bG {B : Nat} {w W : World} (h : Below B w W := by repeat (first | (with_reducible first | exact HB.out | apply below_alloc | apply pw_below_drewN | apply below_drew1 | refine below_set ?_ (Aside0.out (by assumption))) | exact HB.out)) : Below B w W := h
theorem geA {B g : Nat} {W : World} (hg : g = W.heap.size) (h : B ≤ W.heap.size := by exact below_size bA) : B ≤ g := by rw [hg]; exact h
theorem kB {p q : Prop} (h : Aside0 p) (t : p → q := by intro h_; (with_reducible repeat (first | refine blk_drewN ?_ _ | refine blk_drew ?_ | refine blk_alloc ?_ _)); exact h_) : q := t h.out
theorem kR {p q : Prop} (h : Aside0 p) (t : p → q := by intro h_; (with_reducible repeat (first | apply Kd.R_alloc | apply Kd.R_drewN | apply Kd.R_drew)); exact h_) : q := t h.out
theorem aP {p : Prop} (h : p := by (try simp only [List.map_toArray, List.map_cons, List.map_nil]); first | done | rfl | (simp only [List.length_drop, List.length_take]; rfl)) : p := h
theorem asA {p : Prop} (h : p := by first | (with_reducible assumption) | assumption) : p := h
theorem hyA {α : Sort _} {a b : α} {p q : Prop} (e : a = b) (H : p) (t : a = b → p → q := by intro e_ H_; first | (rw [e_]; with_reducible exact H_) | (have H1_ := (Option.bind_some _ _).symm.trans H_; rw [e_]; with_reducible exact H1_) | (have H1_ := (Option.bind_some _ _).symm.trans H_; with_reducible exact H1_) | with_reducible exact H_ | (rw [e_]; exact H_) | exact H_) : q := t e H
theorem sA {p : Prop} (h : p := by first | rfl | (simp; done) | (simp [*]; done)) : p := h
theorem eW {p : Prop} (h : p := by first | rfl | (simp [errW_none, errW_some] <;> rfl) | (simp [*, errW_none, errW_some] <;> rfl)) : p := h
end Go.Proofs.YtmfkokjbjmahkaaDoor.X
