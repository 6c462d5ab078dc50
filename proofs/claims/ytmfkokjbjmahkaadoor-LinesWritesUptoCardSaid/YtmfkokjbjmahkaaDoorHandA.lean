/- HandA: several of this session's texts in one. -/
import Derived.Test.YtmfkokjbjmahkaaDoorProg
import Derived.Test.YtmfkokjbjmahkaaDoorVMore
import Derived.Lib.ConvBytes
import Derived.Laws.AppendOwn
/- A text turned into bytes, as if that were a call: new memory that is read. -/
namespace Go.Proofs.YtmfkokjbjmahkaaDoor.Hand
open Go.RowKit Go.Proofs.YtmfkokjbjmahkaaDoorW.PrintWords Go.Proofs.YtmfkokjbjmahkaaDoorW.PrintLast Go.Proofs.YtmfkokjbjmahkaaDoorW.PrintMore
set_option linter.unusedVariables false

/-- The conversion's run, told as a call's is. -/
def ConvCalls (P : Program) (src dst : TypeId) (s : ByteArray) (w : World) (Q : Ending → World → Prop) : Prop := ∃ v w', (convert src dst (.string s)).run P w = .ok v w' ∧ Q (.returned v) w'
theorem ConvCalls.mono {P : Program} {src dst : TypeId} {s : ByteArray} {w : World} {Q Q' : Ending → World → Prop} (h : ConvCalls P src dst s w Q) (k : ∀ e w', Q e w' → Q' e w') : ConvCalls P src dst s w Q' := by
  obtain ⟨v, w', hr, hq⟩ := h
  exact ⟨v, w', hr, k _ _ hq⟩
section
variable {P : Program} {ops : Array Oper} {Q : Exit → Act → World → Prop}
end

def conv_bytes.f (a0 : ByteArray) : Option (List Int) := if a0.size ≤ 9223372036854775807 then some (bytesOf a0) else none
theorem cell_same {w w' : World} {b o : Nat} (h : w'.heap[b]? = w.heap[b]?) : w'.cell? ⟨b, o, none⟩ = w.cell? ⟨b, o, none⟩ := by
  unfold World.cell?
  simp only [h]
theorem conv_bytes.calls (a0 : ByteArray) (r : List Int) (w : World) (h : conv_bytes.f a0 = some r) :
    ConvCalls Tryd.prog 9 65 a0 w fun e w' => ∃ v0_ : Value, e = .returned (v0_) ∧ Kd.V (Kd.int .u8) 5 w' w.heap.size (fun k_ => (w.heap.size ≤ k_)) v0_ r ∧ Below w.heap.size w w' := by
  unfold conv_bytes.f at h
  split at h
  · rename_i hs
    obtain rfl := Option.some.inj h
    refine ⟨_, _, print_bytes (P := Tryd.prog) 9 65 5 Tryd.underlying9 Tryd.underlying65 Tryd.underlying5 a0 w, _, rfl, ?_, bytes_below (Below.refl _ _) (Nat.le_refl _) _ _⟩
    refine ⟨some ⟨w.heap.size, 0, none⟩, _, by rw [bytesOf_length], ?_, ?_⟩
    · rw [bytesOf_length]
      exact grownCap_ge _ _ _ _
    · intro W' hW
      have hb : W'.heap[w.heap.size]? = (Lib.bytesWorld w 5 a0).heap[w.heap.size]? := hW _ (Nat.le_refl _) (by rw [Lib.bytesWorld_size]; omega)
      refine ⟨rfl, by rw [bytesOf_length]; exact hs, fun _ => ⟨_, rfl, fun j p hp => ⟨[.int .u8 p], rfl, rfl, fun i u hu => ?_⟩⟩⟩
      have hi : i = 0 := by
        have := (List.getElem?_eq_some_iff.1 hu).1
        simp at this
        exact this
      subst hi
      simp at hu
      subst hu
      have hj : j < a0.size := by
        have := (List.getElem?_eq_some_iff.1 hp).1
        rwa [bytesOf_length] at this
      rw [add_plain, cell_same hb]
      show (Lib.bytesWorld w 5 a0).cell? ⟨w.heap.size, j * 1 + 0, none⟩ = _
      rw [show j * 1 + 0 = j from by omega, Lib.bytesWorld_cell w _ a0 j hj]
      have h' : j < a0.data.toList.length := by rw [data_length]; exact hj
      simp [bytesOf, List.getElem?_eq_getElem h'] at hp
      simp [List.getD_eq_getElem?_getD, List.getElem?_eq_getElem h', hp]
  · cases h
end Go.Proofs.YtmfkokjbjmahkaaDoor.Hand

/- What the walks of this seat ask of the package variables, group by group. -/
namespace Go.Proofs.YtmfkokjbjmahkaaDoor.Hand
open Go.RowKit Go.Proofs.YtmfkokjbjmahkaaDoorW.PrintWords Go.Proofs.YtmfkokjbjmahkaaDoorW.PrintLast Go.Proofs.YtmfkokjbjmahkaaDoorW.PrintMore

/-- 0: internal/bytealg.MaxLen holds some number. -/
def Glob : Nat → World → Prop
  | 0, w => ∃ m, w.cell? ⟨0, 0, none⟩ = some (.int .i64 m)
  | _, _ => True
theorem Glob.of_below {w w1 : World} (hb : Below w.heap.size w w1) : ∀ (i : Nat), Glob i w → Glob i w1
  | 0, ⟨m, h⟩ => ⟨m, pw_cell_below hb h⟩
  | _ + 1, _ => trivial
def GOK (s : List Nat) (w : World) : Prop := ∀ i ∈ s, Glob i w
theorem GOK.of_below {s : List Nat} {w w1 : World} (h : GOK s w) (hb : Below w.heap.size w w1) : GOK s w1 := fun i hi => Glob.of_below hb i (h i hi)
theorem GOK.sub {s s' : List Nat} {w : World} (h : GOK s w) (hs : s'.all (s.contains ·) = true) : GOK s' w := fun i hi => h i (by simpa using List.all_eq_true.1 hs i hi)
theorem GOK.nil (w : World) : GOK [] w := fun _ hi => by cases hi
theorem GOK.cons {i : Nat} {s : List Nat} {w : World} (h0 : Glob i w) (h : GOK s w) : GOK (i :: s) w := fun j hj => by
  rcases List.mem_cons.1 hj with rfl | hj
  · exact h0
  · exact h j hj
end Go.Proofs.YtmfkokjbjmahkaaDoor.Hand
