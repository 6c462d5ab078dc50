/- A text turned into runes, as if that were a call; and runes turned into a text: what the model's conversions answer. -/
import Derived.Test.YtaoiogpgncjolaaDoorHandA
import Derived.Laws.IdiomStrings
import Derived.Laws.Cover4
namespace Go.Proofs.YtaoiogpgncjolaaDoor.Hand
open Go.RowKit Go.Proofs.YtaoiogpgncjolaaDoorW.PrintWords Go.Proofs.YtaoiogpgncjolaaDoorW.PrintLast Go.Proofs.YtaoiogpgncjolaaDoorW.PrintMore
set_option linter.unusedVariables false

/-- The runes of a text, as the model reads them. -/
def goRunesN (s : ByteArray) : Nat → Nat → List Int
  | 0, _ => []
  | b + 1, i => if i < s.size then (((Utf8.decode s i).1 : Nat) : Int) :: goRunesN s b (i + (Utf8.decode s i).2) else []
theorem runesFrom_eq (s : ByteArray) : ∀ (b i : Nat) (acc : Array Value), (Conv.runesFrom s b i acc).toList = acc.toList ++ (goRunesN s b i).map (Value.int .i32)
  | 0, i, acc => by simp [Conv.runesFrom, goRunesN]
  | b + 1, i, acc => by
    unfold Conv.runesFrom goRunesN
    split
    · rename_i h
      have := runesFrom_eq s b (i + (Utf8.decode s i).2) (acc.push (.int .i32 (Int.ofNat (Utf8.decode s i).1)))
      rw [this]
      simp
    · simp
theorem goRunesN_length (s : ByteArray) : ∀ (b i : Nat), (goRunesN s b i).length ≤ b
  | 0, i => by simp [goRunesN]
  | b + 1, i => by
    unfold goRunesN
    split
    · have := goRunesN_length s b (i + (Utf8.decode s i).2)
      simp only [List.length_cons]
      omega
    · simp
def conv_runes.f (a0 : ByteArray) : Option (List Int) := if a0.size ≤ 70368744177664 then some (goRunesN a0 a0.size 0) else none
theorem conv_runes.calls (a0 : ByteArray) (r : List Int) (w : World) (h : conv_runes.f a0 = some r) :
    ConvCalls Tryd.prog 9 26 a0 w fun e w' => ∃ v0_ : Value, e = .returned (v0_) ∧ Kd.V (Kd.int .i32) 21 w' w.heap.size (fun k_ => (w.heap.size ≤ k_)) v0_ r ∧ Below w.heap.size w w' := by
  unfold conv_runes.f at h
  split at h
  · rename_i hs
    obtain rfl := Option.some.inj h
    have hl := goRunesN_length a0 a0.size 0
    have he : (Conv.runesFrom a0 a0.size 0 #[]).toList = (goRunesN a0 a0.size 0).map (Value.int .i32) := by simpa using runesFrom_eq a0 a0.size 0 #[]
    have hsz : (Conv.runesFrom a0 a0.size 0 #[]).size = (goRunesN a0 a0.size 0).length := by
      rw [← Array.length_toList, he, List.length_map]
    refine ⟨_, _, run_runes_of_string (P := Tryd.prog) w 9 26 21 a0 Tryd.underlying9 Tryd.underlying26 Tryd.underlying21 (by omega), _, rfl, ?_, (below_drew (Below.refl _ _)).alloc (Nat.le_refl _) _⟩
    rw [hsz]
    refine ⟨some ⟨w.heap.size, 0, none⟩, _, rfl, grownCap_ge _ _ _ _, ?_⟩
    intro W' hW
    have hb := hW w.heap.size (Nat.le_refl _) (by simp)
    refine ⟨rfl, by omega, fun _ => ⟨_, rfl, fun j p hp => ⟨[.int .i32 p], rfl, rfl, fun i u hu => ?_⟩⟩⟩
    have hi : i = 0 := by
      have := (List.getElem?_eq_some_iff.1 hu).1
      simp at this
      exact this
    subst hi
    simp at hu
    subst hu
    have hj : j < (goRunesN a0 a0.size 0).length := (List.getElem?_eq_some_iff.1 hp).1
    rw [add_plain, cell_same hb]
    show World.cell? _ ⟨w.heap.size, j * 1 + 0, none⟩ = _
    rw [show j * 1 + 0 = j from by omega]
    have hk : (Conv.runesFrom a0 a0.size 0 #[])[j]? = some (.int .i32 p) := by
      rw [← Array.getElem?_toList, he, List.getElem?_map, hp]
      rfl
    have hh : (w.drew.alloc (.cells (Conv.runesFrom a0 a0.size 0 #[] ++ Array.replicate (grownCap w (goRunesN a0 a0.size 0).length 0 21 - (goRunesN a0 a0.size 0).length) (.int .i32 0)) 21)).heap[w.heap.size]? = some (.cells (Conv.runesFrom a0 a0.size 0 #[] ++ Array.replicate (grownCap w (goRunesN a0 a0.size 0).length 0 21 - (goRunesN a0 a0.size 0).length) (.int .i32 0)) 21 (0, 0)) := heap_alloc_new w.drew _
    unfold World.cell?
    rw [show (w.drew.alloc _).heap[w.heap.size]? = _ from hh]
    have hj2 : j < (Conv.runesFrom a0 a0.size 0 #[]).size := by omega
    simpa [Array.getElem?_append_left hj2] using hk
  · cases h
theorem C_text {P : Program} {w : World} {src dst e : TypeId} {A : Option Addr} {n c : Nat} {xs : List Int} (hs : P.underlying src = some (.slice e)) (he : P.underlying e = some (.int .i32)) (hd : P.underlying dst = some .string)
    (h : (Kd.int .i32).C w A n xs) : (convert src dst (.slice A n c)).run P w = .ok (.string (runesBytes xs)) w := by
  obtain ⟨hl, _, hc⟩ := h
  rcases A with _ | a
  · have h0 : n = 0 := by
      rcases Nat.eq_zero_or_pos n with h0 | h0
      · exact h0
      · obtain ⟨ad, h, _⟩ := hc h0
        cases h
    obtain rfl : xs = [] := List.eq_nil_of_length_eq_zero (by omega)
    exact run_convert_runes_nil w src dst e n c hs he hd
  · have h2 := run_convert_runes (P := P) w src dst e a n c xs (by omega) hs he hd (fun j hj => by
      obtain ⟨ad, e1, hcell⟩ := hc (by omega)
      injection e1 with e1
      subst e1
      obtain ⟨cs, h3, h4, h5⟩ := hcell j xs[j] (List.getElem?_eq_getElem hj)
      have h6 : cs = [.int .i32 xs[j]] := h4
      have h7 := h5 0 (.int .i32 xs[j]) (by rw [h6]; rfl)
      rw [show j * (Kd.int .i32).sz + 0 = j from Nat.mul_one j] at h7
      rw [h7, List.getD_eq_getElem?_getD, List.getElem?_eq_getElem hj]
      rfl)
    rw [h2, ← hl, List.take_length]
theorem own_text {P : Program} {w : World} {base n : Nat} {e e' src dst : TypeId} {v : Value} {xs : List Int} (hs : P.underlying src = some (.slice e)) (he : P.underlying e = some (.int .i32)) (hd : P.underlying dst = some .string)
    (h : w.ownsRow base e' 1 v n (nums .i32 xs)) : (convert src dst v).run P w = .ok (.string (runesBytes xs)) w := by
  have hl : xs.length = n := by have := h.1; simp [nums] at this; exact this
  rcases h.2 with ⟨rfl, rfl⟩ | ⟨g, cap, cur, rfl, _⟩
  · obtain rfl : xs = [] := List.eq_nil_of_length_eq_zero hl
    exact run_convert_runes_nil w src dst e 0 0 hs he hd
  · have h2 := run_convert_runes (P := P) w src dst e ⟨g, 0, none⟩ n cap xs (by omega) hs he hd (fun i hi => by
      have hc := h.cells (g := g) rfl i (.int .i32 (xs.getD i 0)) (by simp [nums, List.getElem?_eq_getElem (show i < xs.length by omega), List.getD_eq_getElem?_getD])
      exact hc)
    rw [h2, ← hl, List.take_length]
end Go.Proofs.YtaoiogpgncjolaaDoor.Hand
