/- HandL: several of this session's texts in one. -/
import Derived.Test.YtfdfjlichpjobaaDoorRRSpecA
import Derived.Test.YtfdfjlichpjobaaDoorRRX3
import Derived.Test.YtfdfjlichpjobaaDoorRRHandClone
import Derived.Shelf.Abstract
/- How wide a row of glyphs is. -/
namespace Go.Proofs.YtfdfjlichpjobaaDoorRR.Pure
open Go.RowKit Go.Proofs.YtfdfjlichpjobaaDoorRRW.PrintWords Go.Proofs.YtfdfjlichpjobaaDoorRRW.PrintLast Go.Proofs.YtfdfjlichpjobaaDoorRRW.PrintMore Go.Proofs.YtfdfjlichpjobaaDoorRR.X Go.Proofs.YtfdfjlichpjobaaDoorRR.Hand
set_option linter.unusedSimpArgs false
set_option linter.unusedVariables false
/-- How wide a row is. -/
def width (l : List Gl) : Int := sum (l.map (·.f0))
theorem width_nil : width [] = 0 := rfl
theorem width_cons (g : Gl) (l : List Gl) : width (g :: l) = wid g.f0 + width l := by simp [width, sum_cons]
theorem width_append (a b : List Gl) : width (a ++ b) = width a + width b := by simp [width, sum_append]
theorem width_range (l : List Gl) : 0 ≤ width l ∧ width l ≤ 2 * l.length := by
  have := sum_range (l.map (·.f0))
  simpa [width] using this
theorem width_ev (l : List Gl) (h : l.length ≤ 4611686018427387903) : Ev (fun k => cells_Width.f k l) (width l) := by
  unfold cells_Width.f
  refine ev_eq (loop_up (fun k n i => cells_Width.l0 k n l (l.length : Int) i) l.length (fun n i => n + width (l.drop i)) (fun n i => 0 ≤ n ∧ n ≤ 2 * i) ?_ ?_ 0 0 (by omega) ⟨by omega, by omega⟩) (by simp)
  · intro n _
    exact Ev.step (f := fun _ => some n) (fun k => by simp only [cells_Width.l0]; rw [if_neg (by omega)]) (ev_eq (Ev.now _) (by simp [width_nil]))
  · intro n i hi ⟨h0, h1⟩ ih
    have hw := wid_range l[i].f0
    refine Ev.step (f := fun k => cells_Width.l0 k (n + wid l[i].f0) l (l.length : Int) ((i + 1 : Nat) : Int)) (fun k => ?_) (ev_eq (ih (n + wid l[i].f0) ⟨by omega, by omega⟩) ?_)
    · simp only [cells_Width.l0]
      rw [if_pos (by omega), if_pos (by omega), if_pos (by omega), rdG l i hi, show runes_Width.f l[i].f0 = some (wid l[i].f0) from rfl, Option.bind_some, wrap_of (x := n + wid l[i].f0) (by omega) (by omega), wrap_up hi (by omega)]
    · rw [List.drop_eq_getElem_cons hi, width_cons]
      omega
end Go.Proofs.YtfdfjlichpjobaaDoorRR.Pure

/- Package fill: words laid in lines, plainly. -/
namespace Go.Proofs.YtfdfjlichpjobaaDoorRR.Pure
open Go.RowKit Go.Proofs.YtfdfjlichpjobaaDoorRRW.PrintWords Go.Proofs.YtfdfjlichpjobaaDoorRRW.PrintLast Go.Proofs.YtfdfjlichpjobaaDoorRRW.PrintMore Go.Proofs.YtfdfjlichpjobaaDoorRR.X Go.Proofs.YtfdfjlichpjobaaDoorRR.Hand
set_option linter.unusedSimpArgs false
set_option linter.unusedVariables false
/-- How much there is of some rows. -/
def tot (ws : List (List Gl)) : Nat := (ws.map (fun w => w.length + 1)).sum
theorem tot_nil : tot [] = 0 := rfl
theorem tot_cons (w : List Gl) (ws : List (List Gl)) : tot (w :: ws) = w.length + 1 + tot ws := by simp [tot]
theorem tot_append (a b : List (List Gl)) : tot (a ++ b) = tot a + tot b := by simp [tot]
theorem tot_length : ∀ ws : List (List Gl), ws.length ≤ tot ws
  | [] => Nat.le_refl _
  | w :: ws => by
    have := tot_length ws
    rw [tot_cons, List.length_cons]
    omega
theorem tot_mem : ∀ {ws : List (List Gl)} {w : List Gl}, w ∈ ws → w.length + 1 ≤ tot ws
  | x :: ws, w, h => by
    rw [tot_cons]
    rcases List.mem_cons.1 h with rfl | h
    · omega
    · have := tot_mem h
      omega
def fsp : Gl := ⟨32, 0⟩
/-- The last one, with what is behind a blank. -/
def addLast (outs : List (List Gl)) (w : List Gl) : List (List Gl) := outs.set (outs.length - 1) (outs.getD (outs.length - 1) [] ++ [fsp] ++ w)
theorem addLast_snoc (o : List (List Gl)) (x w : List Gl) : addLast (o ++ [x]) w = o ++ [x ++ [fsp] ++ w] := by
  unfold addLast
  rw [List.length_append, List.length_singleton, Nat.add_sub_cancel, List.getD_eq_getElem?_getD, List.getElem?_append_right (Nat.le_refl _), Nat.sub_self]
  rw [List.set_append_right _ _ (Nat.le_refl _), Nat.sub_self]
  rfl
theorem addLast_length (outs : List (List Gl)) (w : List Gl) : (addLast outs w).length = outs.length := by simp [addLast]
theorem addLast_tot {outs : List (List Gl)} (w : List Gl) (h : outs ≠ []) : tot (addLast outs w) = tot outs + (w.length + 1) := by
  rcases List.eq_nil_or_concat outs with e | ⟨o, x, e⟩
  · exact absurd e h
  · rw [List.concat_eq_append] at e
    subst e
    rw [addLast_snoc, tot_append, tot_append, tot_cons, tot_cons, tot_nil, List.length_append, List.length_append, List.length_singleton]
    omega
/-- One word more. -/
def layB (W : Int) (outs : List (List Gl)) (u : Int) (w : List Gl) : Bool := decide (0 < outs.length) && decide (u + 1 + width w ≤ W)
def lay (W : Int) (s : List (List Gl) × Int) (w : List Gl) : List (List Gl) × Int := if layB W s.1 s.2 w = true then (addLast s.1 w, s.2 + (1 + width w)) else (s.1 ++ [w], width w)
def layW (W : Int) (s : List (List Gl) × Int) (w : List Gl) : List (List Gl) × Int := if w.length = 0 then s else lay W s w
def layAll (W : Int) (s : List (List Gl) × Int) (ws : List (List Gl)) : List (List Gl) × Int := ws.foldl (layW W) s
theorem layAll_nil (W : Int) (s : List (List Gl) × Int) : layAll W s [] = s := rfl
theorem layAll_cons (W : Int) (s : List (List Gl) × Int) (w : List Gl) (ws : List (List Gl)) : layAll W s (w :: ws) = layAll W (layW W s w) ws := rfl
theorem lay_tot (W : Int) (s : List (List Gl) × Int) (w : List Gl) : tot (lay W s w).1 = tot s.1 + (w.length + 1) := by
  unfold lay
  split
  · rename_i h
    refine addLast_tot w ?_
    intro e
    unfold layB at h
    rw [e] at h
    simp at h
  · show tot (s.1 ++ [w]) = _
    rw [tot_append, tot_cons, tot_nil]
theorem layW_tot (W : Int) (s : List (List Gl) × Int) (w : List Gl) : tot (layW W s w).1 ≤ tot s.1 + (w.length + 1) := by
  unfold layW
  split
  · omega
  · exact Nat.le_of_eq (lay_tot W s w)
theorem lay_used (W : Int) (s : List (List Gl) × Int) (w : List Gl) (h0 : 0 ≤ s.2) (h1 : s.2 ≤ 2 * tot s.1) : 0 ≤ (lay W s w).2 ∧ (lay W s w).2 ≤ 2 * tot (lay W s w).1 := by
  have hw := width_range w
  have ht := lay_tot W s w
  rw [ht]
  unfold lay
  split
  · show 0 ≤ s.2 + (1 + width w) ∧ s.2 + (1 + width w) ≤ _
    omega
  · show 0 ≤ width w ∧ width w ≤ _
    omega
theorem layW_used (W : Int) (s : List (List Gl) × Int) (w : List Gl) (h0 : 0 ≤ s.2) (h1 : s.2 ≤ 2 * tot s.1) : 0 ≤ (layW W s w).2 ∧ (layW W s w).2 ≤ 2 * tot (layW W s w).1 := by
  unfold layW
  split
  · exact ⟨h0, h1⟩
  · exact lay_used W s w h0 h1
end Go.Proofs.YtfdfjlichpjobaaDoorRR.Pure

/- fill.Lines' closure, walked by hand: one word more. -/
namespace Go.Proofs.YtfdfjlichpjobaaDoorRR.Hand
open Go.RowKit Go.Proofs.YtfdfjlichpjobaaDoorRRW.PrintWords Go.Proofs.YtfdfjlichpjobaaDoorRRW.PrintLast Go.Proofs.YtfdfjlichpjobaaDoorRRW.PrintMore Go.Proofs.YtfdfjlichpjobaaDoorRR.X Go.Proofs.YtfdfjlichpjobaaDoorRR.Pure
set_option linter.unusedVariables false
set_option linter.unusedSimpArgs false

def fill_lay.T3 : Bool × List (List Nat × List Nat) := (true, [([], []), ([], []), ([], []), ([], []), ([2, 3], [2, 3]), ([4], [4]), ([], []), ([6], [6]), ([5, 7], [5, 7]), ([], []), ([8, 9, 8], [8, 9]), ([0, 1, 0, 1, 2, 3, 4, 5, 6, 7, 8, 9, 10], [0, 1]), ([11, 10, 10, 0, 1, 2, 3, 4, 5, 6, 7, 8, 9, 10], [10, 11])])
def fill_lay.B3 : List Nat := [0, 0, 0, 0, 12, 28, 0, 64, 252, 0, 1020, 2047, 4095]
theorem fill_lay.tab3 : rtab .any (opsOf Tryd.f33 3) = fill_lay.T3 := by kernel_rfl
theorem fill_lay.bits3 : waitsOk fill_lay.T3.2 fill_lay.B3 = true := by kernel_rfl
def fill_lay.T5 : Bool × List (List Nat × List Nat) := (true, [([], []), ([], []), ([1], [1]), ([2], [2]), ([0, 3, 2], [0, 3]), ([], []), ([4, 4, 0, 1, 2, 3, 4], [4]), ([5, 6, 0, 1, 2, 3, 4, 5, 6], [5])])
def fill_lay.B5 : List Nat := [0, 0, 2, 6, 15, 0, 31, 127]
theorem fill_lay.tab5 : rtab .any (opsOf Tryd.f33 5) = fill_lay.T5 := by kernel_rfl
theorem fill_lay.bits5 : waitsOk fill_lay.T5.2 fill_lay.B5 = true := by kernel_rfl

/-- The three variables: the lines, how much of the last one is used, the room. -/
def Boxes (bo bu bw : Nat) (v : Value) (u wd : Int) (W : World) : Prop :=
  W.heap[bo]? = some (.cells #[v] 24 (0, 0)) ∧ W.heap[bu]? = some (.cells #[.int .i64 u] 3 (0, 0)) ∧ W.heap[bw]? = some (.cells #[.int .i64 wd] 3 (0, 0))
theorem Boxes.below {bo bu bw : Nat} {v : Value} {u wd : Int} {W W1 : World} (h : Boxes bo bu bw v u wd W) (hb : Below W.heap.size W W1) : Boxes bo bu bw v u wd W1 := ⟨blk_below h.1 hb, blk_below h.2.1 hb, blk_below h.2.2 hb⟩

theorem Boxes.grown {bo bu bw : Nat} {v : Value} {u wd : Int} {W W1 : World} {row : Option Nat} (h : Boxes bo bu bw v u wd W) (hg : W.grownBy W1 row) (h1 : ∀ k, row = some k → k ≠ bo ∧ k ≠ bu ∧ k ≠ bw) : Boxes bo bu bw v u wd W1 :=
  ⟨blk_grown h.1 hg (fun e => (h1 bo e.symm).1 rfl), blk_grown h.2.1 hg (fun e => (h1 bu e.symm).2.1 rfl), blk_grown h.2.2 hg (fun e => (h1 bw e.symm).2.2 rfl)⟩
theorem cell_grown {W W1 : World} {row : Option Nat} {p : Addr} {v : Value} (hg : W.grownBy W1 row) (h : W.cell? p = some v) (hne : some p.block ≠ row) : W1.cell? p = some v := (World.cell?_of_block (hg.block p.block (World.block_lt_of_cell? W p h) hne)).trans h
theorem away_of {P : Nat → Prop} {row : Option Nat} {g : Nat} (h : ∀ k, row = some k → P k) (hg : ¬ P g) : some g ≠ row := fun e => hg (h g e.symm)

set_option maxHeartbeats 8000000 in
set_option maxRecDepth 100000 in
theorem fill_lay.calls (w0 W : World) (bo bu bw : Nat) (v : Value) (outs : List (List Gl)) (u wd : Int) (A : Option Addr) (c : Nat) (l : List Gl)
    (hl : Kd.C k39 w0 A l.length l) (hc : l.length ≤ c) (hG : GOK [0, 2] w0) (hB : Below w0.heap.size w0 W) (hX : Boxes bo bu bw v u wd W)
    (hne : bu ≠ bw) (hbase : w0.heap.size ≤ bo ∧ w0.heap.size ≤ bu ∧ w0.heap.size ≤ bw) (hS : Kd.S (Kd.slice 39 k39) 22 W w0.heap.size (fun k => k ≠ bo ∧ k ≠ bu ∧ k ≠ bw) v outs)
    (hu : 0 ≤ u ∧ u ≤ 2 * tot outs) (hn : tot outs + (l.length + 1) ≤ 1000000000) :
    Calls Tryd.prog 33 #[.slice A l.length c, .pointer (some ⟨bo, 0, none⟩), .pointer (some ⟨bu, 0, none⟩), .pointer (some ⟨bw, 0, none⟩)] W fun e w' => e = .returned (.tuple #[]) ∧ ∃ v', Boxes bo bu bw v' (lay wd (outs, u) l).2 wd w' ∧ Kd.S (Kd.slice 39 k39) 22 w' w0.heap.size (fun k => k ≠ bo ∧ k ≠ bu ∧ k ≠ bw) v' (lay wd (outs, u) l).1 ∧ Below w0.heap.size w0 w' := by
  have HG := Aside0.mk hG
  have HL := Aside0.mk hl
  have HC := Aside0.mk hc
  have HB := Aside0.mk hB
  have HX := Aside0.mk hX
  have HS := Aside0.mk hS
  have HN := Aside0.mk hn
  have HU := Aside0.mk hu
  have HBA := Aside0.mk hbase
  have HNE := Aside0.mk hne
  obtain ⟨kw, hkw⟩ := width_ev l (by omega)
  have hw0 := hkw kw (Nat.le_refl _)
  have hwr := width_range l
  obtain ⟨n, hnw⟩ : ∃ n, n = width l := ⟨_, rfl⟩
  rw [← hnw] at hw0 hwr
  have HW := Aside0.mk hw0
  have HNW := Aside0.mk hnw
  have HWR := Aside0.mk hwr
  have hol := tot_length outs
  have HOL := Aside0.mk hol
  clear hl hG hB hX hS hkw hbase hne hwr hc hw0 hnw
  obtain ⟨Av, cv, rfl⟩ := Kd.S_slice HS.out
  go_enter Tryd.func33, Tryd.ntmps33
  go_wp2_with (go_at_call 30; refine (cells_Width.calls kw A c l n W (Kd.C_below HL.out HB.out) HC.out (GOK.of_below (GOK.sub HG.out rfl) HB.out) HW.out).mono ?_; rintro e w1 ⟨rfl, hb1⟩; have HX1 := Aside0.mk (HX.out.below hb1); have HS1 := Aside0.mk (Kd.S_below HS.out hb1); have HB1 := Aside0.mk (below_step HB.out hb1); clear hb1; have ho := blk_cell HX1.out.1 0; have hu1 := blk_cell HX1.out.2.1 0; have hw1 := blk_cell HX1.out.2.2 0)
  · -- the word behind a blank
    have hlen : (1 : Int) ≤ outs.length := by assumption
    have hfit : wrap64 (u + 1 + n) ≤ wd := by assumption
    have hwr := HWR.out
    rw [wrap_of (by omega) (by omega)] at hfit
    have hpos : 0 < outs.length := by omega
    obtain ⟨g, cap, hv, hgb, hgl, hgc⟩ := Kd.S_form HS1.out hpos
    injection hv with hv1 hv2 hv3
    subst hv1
    subst hv3
    clear hv2 hgc
    obtain ⟨oki, ce, hcl, hM, hcc, hfr, hoki, hH⟩ := Kd.S_elem HS1.out ([] : List Gl) ((outs.length : Int) - 1) (by omega) (by omega)
    obtain ⟨ve, rfl, hR⟩ := hM
    have hi : ((outs.length : Int) - 1).toNat = outs.length - 1 := by omega
    rw [hi] at hR hcc hfr
    obtain ⟨x, hx⟩ : ∃ x, x = outs.getD (outs.length - 1) [] := ⟨_, rfl⟩
    rw [← hx] at hR
    have HXD := Aside0.mk hx
    clear hx
    obtain ⟨Ae, cae, rfl⟩ := Kd.R_slice hR
    have he := hcc 0 _ rfl
    have hf := hfr 0
    have hxl : x.length + 1 ≤ tot outs := by
      rw [HXD.out, List.getD_eq_getElem?_getD, List.getElem?_eq_getElem (by omega)]
      exact tot_mem (List.getElem_mem _)
    have HXL := Aside0.mk hxl
    rw [show (Kd.slice 39 k39).sz = 1 from rfl, Nat.mul_one, Nat.add_zero] at he hf
    have HB2 : Aside0 (Below w0.heap.size w0 w1.drew) := ⟨below_drew HB1.out⟩
    have HX2 : Aside0 (Boxes bo bu bw (.slice (some ⟨g, 0, none⟩) outs.length cv) u wd w1.drew) := ⟨HX1.out⟩
    have HH2 := Aside0.mk (Kd.H_drew hH)
    have HR2 := Aside0.mk (Kd.R_drew hR)
    have HE2 : Aside0 (w1.drew.cell? ⟨g, outs.length - 1, none⟩ = some (.slice Ae x.length cae)) := ⟨he⟩
    have HOK := Aside0.mk hoki
    have hgd : g < w1.drew.heap.size := hgl
    have hgk : g ≠ bo ∧ g ≠ bu ∧ g ≠ bw := (Kd.S_R HS1.out).1 g (by simp [Value.ownBlock])
    clear hcc hfr hoki hH hR hcl hxl he hf HX1 HS1 HX HS HB1 HB ho hu1 hw1 hgl
    refine start_ (n := 13) (S := fun w' => w'.cell? ⟨bo, 0, none⟩ = some (.slice (some ⟨g, 0, none⟩) outs.length cv) ∧ w'.cell? ⟨g, outs.length - 1, none⟩ = some (.slice Ae x.length cae) ∧ w'.cell? ⟨0, 0, none⟩ = some (.int .i32 32) ∧ w'.cell? ⟨0, 1, none⟩ = some (.int .u8 0)) (ds := [12]) #[false, false, false, false, false, false, false, false, false, false, false, false, false] (by kernel_rfl) rfl rfl ?_ (fun hHeld => ?_)
    · exact ⟨(blk_cell HX2.out.1 0).trans rfl, HE2.out, fblank_0 (GOK.of_below HG.out HB2.out) (by decide), fblank_1 (GOK.of_below HG.out HB2.out) (by decide)⟩
    refine with_tabW fill_lay.tab3 fill_lay.bits3 (fun HT_ HW_ => ?_)
    generalize w1.drew = w2 at HB2 HX2 HH2 HR2 HE2 hgd hHeld ⊢
    have c1 : (0 : Int) ≤ (outs.length : Int) - 1 := by omega
    have c2 : (outs.length : Int) - 1 < (outs.length : Int) := by omega
    refine pure_ (i := 1) (N := some 23) (v := ?_) (a' := ?_) #[false, true, false, false, false, false, false, false, false, false, false, false, false] rfl rfl (any_of HT_.out (by kernel_rfl)) (fun _ _ _ h => h) (Or.inl ⟨by rfl, ?_⟩) ?_ ?_
    rotate_left
    · intro w'
      go_simp
      with_reducible rfl
    rotate_left
    · simp only [Act.put, List.setIfInBounds_toArray, List.set_cons_zero, List.set_cons_succ, i64_w, i32_w]
      rfl
    refine pure_ (i := 3) (N := some 25) (v := ?_) (a' := ?_) #[false, true, false, true, false, false, false, false, false, false, false, false, false] rfl rfl (any_of HT_.out (by kernel_rfl)) (fun _ _ _ h => h) (Or.inl ⟨by rfl, ?_⟩) ?_ ?_
    rotate_left
    · intro w'
      go_simp
      with_reducible rfl
    rotate_left
    · simp only [Act.put, List.setIfInBounds_toArray, List.set_cons_zero, List.set_cons_succ, i64_w, i32_w]
      rfl
    refine pure_ (i := 9) (N := some 31) (v := ?_) (a' := ?_) #[false, true, false, true, false, false, false, false, false, true, false, false, false] rfl rfl (any_of HT_.out (by kernel_rfl)) (fun _ _ _ h => h) (Or.inl ⟨by rfl, ?_⟩) ?_ ?_
    rotate_left
    · intro w'
      go_simp
      with_reducible rfl
    rotate_left
    · simp only [Act.put, List.setIfInBounds_toArray, List.set_cons_zero, List.set_cons_succ, i64_w, i32_w]
      rfl
    refine take_ (i := 0) (N := some 22) (v := ?_) (a' := ?_) #[true, true, false, true, false, false, false, false, false, true, false, false, false] rfl rfl (take_ofW HT_.out HW_.out (by kernel_rfl)) (fun _ _ _ h => h) (Or.inl ⟨by rfl, ?_⟩) hHeld ?_ ?_
    rotate_left
    · rintro w' ⟨s0, s1, s2, s3⟩
      go_simp
      with_reducible rfl
    rotate_left
    · simp only [Act.put, List.setIfInBounds_toArray, List.set_cons_zero, List.set_cons_succ, i64_w, i32_w]
      rfl
    refine take_ (i := 2) (N := some 24) (v := ?_) (a' := ?_) #[true, true, true, true, false, false, false, false, false, true, false, false, false] rfl rfl (take_ofW HT_.out HW_.out (by kernel_rfl)) (fun _ _ _ h => h) (Or.inl ⟨by rfl, ?_⟩) hHeld ?_ ?_
    rotate_left
    · rintro w' ⟨s0, s1, s2, s3⟩
      go_simp
      with_reducible rfl
    rotate_left
    · simp only [Act.put, List.setIfInBounds_toArray, List.set_cons_zero, List.set_cons_succ, i64_w, i32_w]
      rfl
    refine pure_ (i := 4) (N := some 26) (v := ?_) (a' := ?_) #[true, true, true, true, true, false, false, false, false, true, false, false, false] rfl rfl (any_of HT_.out (by kernel_rfl)) (fun _ _ _ h => h) (Or.inl ⟨by rfl, ?_⟩) ?_ ?_
    rotate_left
    · intro w'
      go_simp
      with_reducible rfl
    rotate_left
    · simp only [Act.put, List.setIfInBounds_toArray, List.set_cons_zero, List.set_cons_succ, i64_w, i32_w]
      rfl
    refine take_ (i := 5) (N := some 27) (v := ?_) (a' := ?_) #[true, true, true, true, true, true, false, false, false, true, false, false, false] rfl rfl (take_ofW HT_.out HW_.out (by kernel_rfl)) (fun _ _ _ h => h) (Or.inl ⟨by rfl, ?_⟩) hHeld ?_ ?_
    rotate_left
    · rintro w' ⟨s0, s1, s2, s3⟩
      go_simp
      with_reducible rfl
    rotate_left
    · simp only [Act.put, List.setIfInBounds_toArray, List.set_cons_zero, List.set_cons_succ, i64_w, i32_w]
      rfl
    refine take_ (i := 6) (N := some 28) (v := ?_) (a' := ?_) #[true, true, true, true, true, true, true, false, false, true, false, false, false] rfl rfl (take_ofW HT_.out HW_.out (by kernel_rfl)) (fun _ _ _ h => h) (Or.inl ⟨by rfl, ?_⟩) hHeld ?_ ?_
    rotate_left
    · rintro w' ⟨s0, s1, s2, s3⟩
      go_simp
      with_reducible rfl
    rotate_left
    · simp only [Act.put, List.setIfInBounds_toArray, List.set_cons_zero, List.set_cons_succ, i64_w, i32_w]
      rfl
    refine one_ (i := 7) (N := some 29) #[true, true, true, true, true, true, true, true, false, true, false, false, false] rfl rfl (one_of HT_.out (by kernel_rfl)) (by decide) (fun K hK => ?_)
    refine value_ (w1 := ?_) (v := ?_) (by rfl) rfl ?_ ?_
    rotate_left 2
    · go_simp
      constructor
      · rfl
      · rfl
    refine hK.out _ _ ⟨Lib.cell?_alloc_some _ hHeld.1, Lib.cell?_alloc_some _ hHeld.2.1, Lib.cell?_alloc_some _ hHeld.2.2.1, Lib.cell?_alloc_some _ hHeld.2.2.2⟩ (fun hHeld => ?_)
    clear hK K
    refine norm_ (a' := ?_) ?_ ?_
    rotate_left
    · show Act.put _ (some 29) _ = _
      simp only [Act.put, List.setIfInBounds_toArray, List.set_cons_zero, List.set_cons_succ, i64_w, i32_w]
      rfl
    refine one_ (i := 8) (N := some 30) #[true, true, true, true, true, true, true, true, true, true, false, false, false] rfl rfl (one_of HT_.out (by kernel_rfl)) (by decide) (fun K hK => ?_)
    refine Kd.R_append_step k39 (w0 := w0) w0.heap.size (by rfl) (.tmp 27) (.tmp 29) 22 39 (.agg #[(.int .i32 0), (.int .u8 0)]) 8 rfl Tryd.underlying22 info39 rfl (by decide) (by omega) (.slice Ae x.length cae) x fsp [.int .i32 32, .int .u8 0] (fun k => oki k ∨ (k ≠ bo ∧ k ≠ bu ∧ k ≠ bw) ∧ w2.heap.size ≤ k) (fun _ => False) rfl rfl (k39_mkM _ _ _ fsp) (fun _ h => h.elim) ?aF ?aO ?aB ?aS ?aL ?_
    case aF => exact fun k hk => .inr ⟨⟨by have := blk_lt HX2.out.1; omega, by have := blk_lt HX2.out.2.1; omega, by have := blk_lt HX2.out.2.2; omega⟩, hk⟩
    case aO => exact Kd.R_mono HR2.out (fun k h => .inl h)
    case aB => exact HB2.out
    case aS => exact HB2.out.size
    case aL => have := HXL.out; have := HN.out; omega
    intro v3 w3 hr3 hb3 hg3 hat3
    have hrow3 : ∀ k, (Value.slice Ae x.length cae).ownBlock = some k → (k ≠ bo ∧ k ≠ bu ∧ k ≠ bw) ∧ k ≠ g := fun k hk => HOK.out k (HR2.out.1 k hk)
    have HX3 := Aside0.mk (Boxes.grown HX2.out hg3 (fun k hk => (hrow3 k hk).1))
    have HE3 := Aside0.mk (cell_grown hg3 HE2.out (away_of hrow3 (fun h => h.2 rfl)))
    have HB3 := Aside0.mk hb3
    have HH3 := Aside0.mk (Kd.H_grown (Kd.H_widen HH2.out) hg3 (fun k hk => .inl (HR2.out.1 k hk)))
    have HR3 := Aside0.mk hr3
    have hgd3 : g < w3.heap.size := Nat.lt_of_lt_of_le hgd hg3.size
    have HQ3 : Aside0 (∀ k, (oki k ∨ (k ≠ bo ∧ k ≠ bu ∧ k ≠ bw) ∧ w2.heap.size ≤ k) → (k ≠ bo ∧ k ≠ bu ∧ k ≠ bw) ∧ k ≠ g) := ⟨fun k hk => hk.elim (HOK.out k) (fun h => ⟨h.1, by omega⟩)⟩
    have HS3 : Aside0 (w2.heap.size ≤ w3.heap.size) := ⟨hg3.size⟩
    clear hr3 hb3 hg3 hat3 hrow3 HX2 HE2 HB2 HR2 HH2
    refine hK.out _ _ ⟨(blk_cell HX3.out.1 0).trans rfl, HE3.out, fblank_0 (GOK.of_below HG.out HB3.out) (by decide), fblank_1 (GOK.of_below HG.out HB3.out) (by decide)⟩ (fun hHeld => ?_)
    clear hK K
    refine norm_ (a' := ?_) ?_ ?_
    rotate_left
    · show Act.put _ (some 30) _ = _
      simp only [Act.put, List.setIfInBounds_toArray, List.set_cons_zero, List.set_cons_succ, i64_w, i32_w]
      rfl
    refine one_ (i := 10) (N := some 32) #[true, true, true, true, true, true, true, true, true, true, true, false, false] rfl rfl (one_of HT_.out (by kernel_rfl)) (by decide) (fun K hK => ?_)
    refine Kd.R_append_rows_step k39 (w0 := w0) w0.heap.size (by rfl) (.tmp 30) (.tmp 31) 22 39 (.agg #[(.int .i32 0), (.int .u8 0)]) 8 rfl Tryd.underlying22 info39 rfl (by decide) (by omega) v3 (x ++ [fsp]) l A l.length c (fun k => oki k ∨ (k ≠ bo ∧ k ≠ bu ∧ k ≠ bw) ∧ w2.heap.size ≤ k) (fun _ => False) rfl rfl HR3.out (Kd.C_below HL.out HB3.out) (fun _ _ h => h) (fun _ h => h.elim) ?bF ?bB ?bS ?bL ?_
    case bF => exact fun k hk => .inr ⟨⟨by have := blk_lt HX3.out.1; omega, by have := blk_lt HX3.out.2.1; omega, by have := blk_lt HX3.out.2.2; omega⟩, by have := HS3.out; omega⟩
    case bB => exact HB3.out
    case bS => exact HB3.out.size
    case bL => have := HXL.out; have := HN.out; rw [List.length_append, List.length_singleton]; omega
    intro v4 w4 hr4 hb4 hg4 hat4
    have hrow4 : ∀ k, v3.ownBlock = some k → (k ≠ bo ∧ k ≠ bu ∧ k ≠ bw) ∧ k ≠ g := fun k hk => HQ3.out k (HR3.out.1 k hk)
    have HX4 := Aside0.mk (Boxes.grown HX3.out hg4 (fun k hk => (hrow4 k hk).1))
    have HE4 := Aside0.mk (cell_grown hg4 HE3.out (away_of hrow4 (fun h => h.2 rfl)))
    have HB4 := Aside0.mk hb4
    have HH4 := Aside0.mk (Kd.H_grown HH3.out hg4 (fun k hk => HR3.out.1 k hk))
    have HR4 := Aside0.mk hr4
    clear hr4 hb4 hg4 hat4 hrow4 HX3 HE3 HB3 HR3 HH3
    refine hK.out _ _ ⟨(blk_cell HX4.out.1 0).trans rfl, HE4.out, fblank_0 (GOK.of_below HG.out HB4.out) (by decide), fblank_1 (GOK.of_below HG.out HB4.out) (by decide)⟩ (fun hHeld => ?_)
    clear hK K
    refine norm_ (a' := ?_) ?_ ?_
    rotate_left
    · show Act.put _ (some 32) _ = _
      simp only [Act.put, List.setIfInBounds_toArray, List.set_cons_zero, List.set_cons_succ, i64_w, i32_w]
      rfl
    refine pure_ (i := 11) (N := some 33) (v := ?_) (a' := ?_) #[true, true, true, true, true, true, true, true, true, true, true, true, false] rfl rfl (any_of HT_.out (by kernel_rfl)) (fun _ _ _ h => h) (Or.inl ⟨by rfl, ?_⟩) ?_ ?_
    rotate_left
    · intro w'
      go_simp
      with_reducible rfl
    rotate_left
    · simp only [Act.put, List.setIfInBounds_toArray, List.set_cons_zero, List.set_cons_succ, i64_w, i32_w]
      rfl
    obtain ⟨y, hy⟩ : ∃ y, y = x ++ [fsp] ++ l := ⟨_, rfl⟩
    have hr4 := HR4.out
    clear HR4
    rw [← hy] at hr4
    obtain ⟨A4, c4, rfl⟩ := Kd.R_slice hr4
    have HR4 := Aside0.mk hr4
    have HY := Aside0.mk hy
    clear hr4 hy
    have hf4 := (Kd.H_at HH4.out (by omega) (by omega)).2 0
    rw [hi, show (Kd.slice 39 k39).sz = 1 from rfl, Nat.mul_one, Nat.add_zero] at hf4
    have he4 := HE4.out
    refine last_ (i := 12) (N := none) #[true, true, true, true, true, true, true, true, true, true, true, true, true] rfl rfl (one_of HT_.out (by kernel_rfl)) (by decide) (fun K hK => ?_)
    refine skip_ (w1 := ?_) (by rfl) rfl ?_ ?_
    rotate_left
    · go_simp
      rfl
    have hseg := Kd.S_seg0 HH4.out (by omega) (by omega) (seg := [.slice A4 y.length c4]) (j := 0) (show 0 + 1 ≤ 1 from by decide) (x' := y) (okp := fun k => oki k ∨ (k ≠ bo ∧ k ≠ bu ∧ k ≠ bw) ∧ w2.heap.size ≤ k) ⟨_, rfl, HR4.out⟩ (fun _ h => h)
    rw [hi, show (Kd.slice 39 k39).sz = 1 from rfl, Nat.mul_one, Nat.add_zero] at hseg
    refine hK.out _ _ ?_
    clear hK K
    have HS5 : Aside0 (Kd.S (Kd.slice 39 k39) 22 (w4.setCell ⟨g, outs.length - 1, none⟩ (.slice A4 y.length c4)) w0.heap.size (fun k => k ≠ bo ∧ k ≠ bu ∧ k ≠ bw) (.slice (some ⟨g, 0, none⟩) outs.length cv) (outs.set (outs.length - 1) y)) := ⟨hseg.1⟩
    have HX5 : Aside0 (Boxes bo bu bw (.slice (some ⟨g, 0, none⟩) outs.length cv) u wd (w4.setCell ⟨g, outs.length - 1, none⟩ (.slice A4 y.length c4))) := ⟨⟨blk_far HX4.out.1 (Ne.symm hgk.1) _, blk_far HX4.out.2.1 (Ne.symm hgk.2.1) _, blk_far HX4.out.2.2 (Ne.symm hgk.2.2) _⟩⟩
    have HB5 := Aside0.mk (below_set (j := outs.length - 1) (v := .slice A4 y.length c4) HB4.out hgb)
    clear hseg HX4 HE4 HB4 HH4 HR4 he4 hf4 hHeld
    generalize w4.setCell ⟨g, outs.length - 1, none⟩ (.slice A4 y.length c4) = w5 at HS5 HX5 HB5 ⊢
    refine done_ (done_of HT_.out (by kernel_rfl)) ?_
    have hu5 : w5.cell? ⟨bu, 0, none⟩ = some (.int .i64 u) := (blk_cell HX5.out.2.1 0).trans rfl
    have hf5 := blk_frozen HX5.out.2.1 0
    have wz1 : wrap64 (1 + n) = 1 + n := wrap_of (by omega) (by omega)
    have wz2 : wrap64 (u + (1 + n)) = u + (1 + n) := wrap_of (by omega) (by omega)
    go_wp2
    first | go_end0 | ((try simp only [Exit.inBlock, Exit.then]); refine bodyPost_ret (results_none rfl _ _ _) rfl ?_)
    have hlay : lay wd (outs, u) l = (outs.set (outs.length - 1) y, u + (1 + n)) := by
      unfold lay
      rw [if_pos (by simp only [layB, ← HNW.out, Bool.and_eq_true, decide_eq_true_eq]; exact ⟨hpos, hfit⟩), ← HNW.out]
      show (addLast outs l, _) = _
      rw [HY.out, HXD.out]
      rfl
    rw [hlay]
    have hb := HBA.out
    refine ⟨rfl, .slice (some ⟨g, 0, none⟩) outs.length cv, ⟨blk_far HX5.out.1 ?_ _, blk_put HX5.out.2.1 0 _ rfl, blk_far HX5.out.2.2 (Ne.symm HNE.out) _⟩, Kd.S_far HS5.out (fun k hk => hk.2.1) _, below_set HB5.out hb.2.1⟩
    exact blk_ne HX5.out.1 HX5.out.2.1 (by decide)
  all_goals
    have hwr := HWR.out
    have hlay : lay wd (outs, u) l = (outs ++ [l], n) := by
      unfold lay
      rw [if_neg (by
        simp only [layB, ← HNW.out, Bool.and_eq_true, decide_eq_true_eq]
        intro hh
        have h2 := hh.2
        have h1 := hh.1
        first
          | (have h3 : wd < wrap64 (u + 1 + n) := by assumption
             rw [wrap_of (by omega) (by omega)] at h3
             omega)
          | (have h3 : (outs.length : Int) < 1 := by assumption
             omega)), ← HNW.out]
    have HLAY := Aside0.mk hlay
    clear hlay
    have HCF : Aside0 (clone_G.f l = some l) := ⟨by unfold clone_G.f; rw [if_pos (by omega)]⟩
    have HB2 : Aside0 (Below w0.heap.size w0 w1.drew) := ⟨below_drew HB1.out⟩
    have HX2 : Aside0 (Boxes bo bu bw (.slice Av outs.length cv) u wd w1.drew) := ⟨HX1.out⟩
    have HS2 := Aside0.mk (Kd.S_drew HS1.out)
    clear HX1 HS1 HX HS HB1 HB ho hu1 hw1
    refine start_ (n := 8) (S := fun w' => w'.cell? ⟨bo, 0, none⟩ = some (.slice Av outs.length cv)) (ds := [6, 7]) #[false, false, false, false, false, false, false, false] (by kernel_rfl) rfl rfl ?_ (fun hHeld => ?_)
    · exact (blk_cell HX2.out.1 0).trans rfl
    refine with_tabW fill_lay.tab5 fill_lay.bits5 (fun HT_ HW_ => ?_)
    generalize w1.drew = w2 at HB2 HX2 HS2 hHeld ⊢
    refine pure_ (i := 1) (N := some 39) (v := ?_) (a' := ?_) #[false, true, false, false, false, false, false, false] rfl rfl (any_of HT_.out (by kernel_rfl)) (fun _ _ _ h => h) (Or.inl ⟨by rfl, ?_⟩) ?_ ?_
    rotate_left
    · intro w'
      go_simp
      with_reducible rfl
    rotate_left
    · simp only [Act.put, List.setIfInBounds_toArray, List.set_cons_zero, List.set_cons_succ, i64_w, i32_w]
      rfl
    refine pure_ (i := 5) (N := some 43) (v := ?_) (a' := ?_) #[false, true, false, false, false, true, false, false] rfl rfl (any_of HT_.out (by kernel_rfl)) (fun _ _ _ h => h) (Or.inl ⟨by rfl, ?_⟩) ?_ ?_
    rotate_left
    · intro w'
      go_simp
      with_reducible rfl
    rotate_left
    · simp only [Act.put, List.setIfInBounds_toArray, List.set_cons_zero, List.set_cons_succ, i64_w, i32_w]
      rfl
    refine take_ (i := 0) (N := some 38) (v := ?_) (a' := ?_) #[true, true, false, false, false, true, false, false] rfl rfl (take_ofW HT_.out HW_.out (by kernel_rfl)) (fun _ _ _ h => h) (Or.inl ⟨by rfl, ?_⟩) hHeld ?_ ?_
    rotate_left
    · rintro w' s0
      go_simp
      with_reducible rfl
    rotate_left
    · simp only [Act.put, List.setIfInBounds_toArray, List.set_cons_zero, List.set_cons_succ, i64_w, i32_w]
      rfl
    refine one_ (i := 2) (N := some 40) #[true, true, true, false, false, true, false, false] rfl rfl (one_of HT_.out (by kernel_rfl)) (by decide) (fun K hK => ?_)
    refine goes_ Tryd.func34 (by kernel_rfl) rfl #[.slice A l.length c] (by rfl) rfl rfl (by (try simp only [List.map_toArray, List.map_cons, List.map_nil]); first | done | rfl) ?_
    refine (clone_G.calls A c l l w2 (Kd.C_below HL.out HB2.out) HC.out HCF.out).mono ?_
    rintro e w3 ⟨vc, rfl, hr3, hb3⟩
    have HX3 := Aside0.mk (HX2.out.below hb3)
    have HB3 := Aside0.mk (below_step HB2.out hb3)
    have HS3 := Aside0.mk (Kd.S_old HS2.out hb3)
    have HR3 := Aside0.mk hr3
    have HZ3 : Aside0 (w2.heap.size ≤ w3.heap.size) := ⟨hb3.size⟩
    have HZ2 : Aside0 (bo < w2.heap.size ∧ bu < w2.heap.size ∧ bw < w2.heap.size) := ⟨blk_lt HX2.out.1, blk_lt HX2.out.2.1, blk_lt HX2.out.2.2⟩
    have HW2 : Aside0 (w0.heap.size ≤ w2.heap.size) := ⟨HB2.out.size⟩
    clear hr3 hb3 HX2 HB2 HS2
    refine ⟨_, rfl, ?_⟩
    refine hK.out _ _ ((blk_cell HX3.out.1 0).trans rfl) (fun hHeld => ?_)
    clear hK K
    obtain ⟨Ac, cc, rfl⟩ := Kd.R_slice HR3.out
    refine norm_ (a' := ?_) ?_ ?_
    rotate_left
    · show Act.put _ (some 40) _ = _
      simp only [Act.put, List.setIfInBounds_toArray, List.set_cons_zero, List.set_cons_succ, i64_w, i32_w]
      rfl
    refine one_ (i := 3) (N := some 41) #[true, true, true, true, false, true, false, false] rfl rfl (one_of HT_.out (by kernel_rfl)) (by decide) (fun K hK => ?_)
    refine value_ (w1 := ?_) (v := ?_) (by rfl) rfl ?_ ?_
    rotate_left 2
    · go_simp
      constructor
      · rfl
      · rfl
    refine hK.out _ _ (Lib.cell?_alloc_some _ hHeld) (fun hHeld => ?_)
    clear hK K
    refine norm_ (a' := ?_) ?_ ?_
    rotate_left
    · show Act.put _ (some 41) _ = _
      simp only [Act.put, List.setIfInBounds_toArray, List.set_cons_zero, List.set_cons_succ, i64_w, i32_w]
      rfl
    refine one_ (i := 4) (N := some 42) #[true, true, true, true, true, true, false, false] rfl rfl (one_of HT_.out (by kernel_rfl)) (by decide) (fun K hK => ?_)
    refine Kd.S_append_step (Kd.slice 39 k39) (w0 := w0) w0.heap.size (by rfl) (.tmp 38) (.tmp 41) 24 22 (.slice none 0 0) 24 rfl Tryd.underlying24 info22 rfl (by decide) (by omega) (.slice Av outs.length cv) outs l [.slice Ac l.length cc] (fun k => k ≠ bo ∧ k ≠ bu ∧ k ≠ bw) (fun k => some k = (Value.slice Ac l.length cc).ownBlock) rfl rfl ?aP ?aK ?aF ?aO ?aB ?aS ?aL ?_
    case aP => exact ⟨_, rfl, Kd.R_lower (Kd.R_tight rfl HR3.out) HW2.out⟩
    case aK =>
      intro k hk
      have h1 := Kd.R_base HR3.out k hk.symm
      have h2 := HZ2.out
      refine ⟨⟨by omega, by omega, by omega⟩, fun e => ?_⟩
      have := (Kd.S_R HS3.out).1 k e.symm
      omega
    case aF =>
      intro k hk
      have h2 := HZ2.out
      have h3 := HZ3.out
      exact ⟨by omega, by omega, by omega⟩
    case aO =>
      refine Kd.S_mono HS3.out (fun k hk => ⟨hk.1, fun e => ?_⟩)
      have h1 := Kd.R_base HR3.out k e.symm
      have := hk.2
      omega
    case aB => exact HB3.out
    case aS => exact HB3.out.size
    case aL => have := HOL.out; have := HN.out; omega
    intro v4 w4 hs4 hb4 hg4 hat4
    have hrow4 : ∀ k, (Value.slice Av outs.length cv).ownBlock = some k → k ≠ bo ∧ k ≠ bu ∧ k ≠ bw := fun k hk => ((Kd.S_R HS3.out).1 k hk).1
    have HX4 := Aside0.mk (Boxes.grown HX3.out hg4 hrow4)
    have HB4 := Aside0.mk hb4
    obtain ⟨ys, hys⟩ : ∃ ys, ys = outs ++ [l] := ⟨_, rfl⟩
    rw [← hys] at hs4
    obtain ⟨Av4, cv4, rfl⟩ := Kd.S_slice hs4
    have HS4 := Aside0.mk hs4
    have HYS := Aside0.mk hys
    clear hs4 hb4 hg4 hat4 hrow4 hys HX3 HB3 HS3 HR3
    refine hK.out _ _ ((blk_cell HX4.out.1 0).trans rfl) (fun hHeld => ?_)
    clear hK K
    refine norm_ (a' := ?_) ?_ ?_
    rotate_left
    · show Act.put _ (some 42) _ = _
      simp only [Act.put, List.setIfInBounds_toArray, List.set_cons_zero, List.set_cons_succ, i64_w, i32_w]
      rfl
    have ho4 : w4.cell? ⟨bo, 0, none⟩ = some (.slice Av outs.length cv) := (blk_cell HX4.out.1 0).trans rfl
    have hf4 := blk_frozen HX4.out.1 0
    refine last_ (i := 6) (N := none) #[true, true, true, true, true, true, true, false] rfl rfl (one_of HT_.out (by kernel_rfl)) (by decide) (fun K hK => ?_)
    refine skip_ (w1 := ?_) (by rfl) rfl ?_ ?_
    rotate_left
    · go_simp
      rfl
    refine hK.out _ _ ?_
    clear hK K
    have hou : bo ≠ bu := blk_ne HX4.out.1 HX4.out.2.1 (by decide)
    have how : bo ≠ bw := blk_ne HX4.out.1 HX4.out.2.2 (by decide)
    have HX5 : Aside0 (Boxes bo bu bw (.slice Av4 ys.length cv4) u wd (w4.setCell ⟨bo, 0, none⟩ (.slice Av4 ys.length cv4))) := ⟨⟨blk_put HX4.out.1 0 _ rfl, blk_far HX4.out.2.1 (Ne.symm hou) _, blk_far HX4.out.2.2 (Ne.symm how) _⟩⟩
    have HS5 := Aside0.mk (Kd.S_far HS4.out (p := ⟨bo, 0, none⟩) (fun k hk => hk.1) (.slice Av4 ys.length cv4))
    have HB5 := Aside0.mk (below_set (g := bo) (j := 0) (v := .slice Av4 ys.length cv4) HB4.out HBA.out.1)
    clear HX4 HS4 HB4 ho4 hf4 hHeld
    generalize w4.setCell ⟨bo, 0, none⟩ (.slice Av4 ys.length cv4) = w5 at HS5 HX5 HB5 ⊢
    have hu5 : w5.cell? ⟨bu, 0, none⟩ = some (.int .i64 u) := (blk_cell HX5.out.2.1 0).trans rfl
    have hf5 := blk_frozen HX5.out.2.1 0
    refine last_ (i := 7) (N := none) #[true, true, true, true, true, true, true, true] rfl rfl (one_of HT_.out (by kernel_rfl)) (by decide) (fun K hK => ?_)
    refine skip_ (w1 := ?_) (by rfl) rfl ?_ ?_
    rotate_left
    · go_simp
      rfl
    refine hK.out _ _ ?_
    clear hK K
    refine done_ (done_of HT_.out (by kernel_rfl)) ?_
    first | go_end0 | ((try simp only [Exit.inBlock, Exit.then]); refine bodyPost_ret (results_none rfl _ _ _) rfl ?_)
    rw [HLAY.out, ← HYS.out]
    exact ⟨rfl, .slice Av4 ys.length cv4, ⟨blk_far HX5.out.1 hou _, blk_put HX5.out.2.1 0 _ rfl, blk_far HX5.out.2.2 (Ne.symm HNE.out) _⟩, Kd.S_far HS5.out (fun k hk => hk.2.1) _, below_set HB5.out HBA.out.2.1⟩
end Go.Proofs.YtfdfjlichpjobaaDoorRR.Hand

/- fill.Lines, walked by hand: words, one by one, laid by its closure. -/
namespace Go.Proofs.YtfdfjlichpjobaaDoorRR.Hand
open Go.RowKit Go.Proofs.YtfdfjlichpjobaaDoorRRW.PrintWords Go.Proofs.YtfdfjlichpjobaaDoorRRW.PrintLast Go.Proofs.YtfdfjlichpjobaaDoorRRW.PrintMore Go.Proofs.YtfdfjlichpjobaaDoorRR.X Go.Proofs.YtfdfjlichpjobaaDoorRR.Pure
set_option linter.unusedVariables false
set_option linter.unusedSimpArgs false

def fill_Lines.f (wd : Int) (ws : List (List Gl)) : Option (List (List Gl)) := if tot ws ≤ 1000000000 then some (layAll wd ([], 0) ws).1 else none

set_option maxHeartbeats 8000000 in
set_option maxRecDepth 100000 in
theorem fill_Lines.calls (a0 : Int) (A1 : Option Addr) (c1 : Nat) (l1 : List (List Gl)) (r : List (List Gl)) (w : World) (hr1 : Kd.C (Kd.slice 39 k39) w A1 l1.length l1) (hc1 : l1.length ≤ c1) (hG : GOK [0, 2] w) (h : fill_Lines.f a0 l1 = some r) :
    Calls Tryd.prog 17 #[.int .i64 a0, .slice A1 l1.length c1] w fun e w' => ∃ v0_ : Value, e = .returned (v0_) ∧ Kd.S (Kd.slice 39 k39) 22 w' w.heap.size (fun _ => True) v0_ r ∧ Below w.heap.size w w' := by
  have hmf : ∀ (fn : Fn) (first cap : Array Value) (w : World), (Instr.makeFunc fn first cap).run Tryd.prog w = .ok (.func fn first cap) w := fun _ _ _ _ => rfl
  have eg : ∀ args w, (callFunc 33 args).run Tryd.prog w = .ok (.enter 33 args) w := enters_of Tryd.func33 (by kernel_rfl) rfl
  unfold fill_Lines.f at h
  split at h
  · rename_i ht
    have hL := Option.some.inj h
    clear h
    have HR := Aside0.mk hr1
    have HC := Aside0.mk hc1
    have HT := Aside0.mk ht
    have HL := Aside0.mk hL
    have HG := Aside0.mk hG
    have hll := tot_length l1
    clear hr1 hc1 ht hL hG
    go_enter Tryd.func17, Tryd.ntmps17
    go_wp2
    have HX0 : Aside0 (Boxes (w.heap.size + 1) (w.heap.size + 1 + 1) w.heap.size (.slice none 0 0) 0 a0 (((w.alloc (.cells #[.int .i64 a0] 3)).alloc (.cells #[.slice none 0 0] 24)).alloc (.cells #[.int .i64 0] 3))) := ⟨by
      have h1 := blk_new (w.alloc (.cells #[.int .i64 a0] 3)) (.cells #[.slice none 0 0] 24)
      have h2 := blk_new ((w.alloc (.cells #[.int .i64 a0] 3)).alloc (.cells #[.slice none 0 0] 24)) (.cells #[.int .i64 0] 3)
      simp only [World.size_alloc] at h1 h2
      exact ⟨blk_alloc h1 _, h2, blk_alloc (blk_alloc (blk_new w _) _) _⟩⟩
    have HB0 : Aside0 (Below w.heap.size w (((w.alloc (.cells #[.int .i64 a0] 3)).alloc (.cells #[.slice none 0 0] 24)).alloc (.cells #[.int .i64 0] 3))) := ⟨below_alloc (below_alloc (below_alloc (Below.refl _ _) _) _) _⟩
    go_loopg [9, 13] l1.length (fun kq v9 v13 w' => ∃ (i : Nat) (v : Value) (outs : List (List Gl)) (u : Int), v13 = .int .i64 i ∧ Aside0 (i ≤ l1.length ∧ l1.length - i ≤ kq) ∧ Aside0 (Boxes (w.heap.size + 1) (w.heap.size + 1 + 1) w.heap.size v u a0 w') ∧ Aside0 (Kd.S (Kd.slice 39 k39) 22 w' w.heap.size (fun k => k ≠ w.heap.size + 1 ∧ k ≠ w.heap.size + 1 + 1 ∧ k ≠ w.heap.size) v outs) ∧ Aside0 (Below w.heap.size w w') ∧ Aside0 ((layAll a0 (outs, u) (l1.drop i)).1 = r ∧ tot outs + tot (l1.drop i) ≤ tot l1 ∧ 0 ≤ u ∧ u ≤ 2 * tot outs))
    case atStart => exact ⟨0, _, [], 0, rfl, ⟨by omega, by omega⟩, HX0, ⟨Kd.S_nil _ _ _ _ _⟩, HB0, ⟨by rw [List.drop_zero]; exact HL.out, by rw [List.drop_zero, tot_nil]; omega, by omega, by omega⟩⟩
    case round =>
      clear HX0 HB0
      obtain ⟨i, v, outs, u, rfl, HI, HX, HS, HB, HE⟩ := hrel
      by_cases hlt : i < l1.length
      · have c1 : decide ((i : Int) < (l1.length : Int)) = true := decide_eq_true (by omega)
        have c2 : (0 : Int) ≤ (i : Int) := by omega
        have c3 : (i : Int) < (l1.length : Int) := by omega
        obtain ⟨ad, A0, c0, e, hx, hl0, hC⟩ := at_L3 HR.out (i : Int) (by omega) (by omega)
        have hrd : rd_L3 l1 (i : Int) = l1[i] := by simp [rd_L3, List.getD_eq_getElem?_getD, List.getElem?_eq_getElem hlt]
        rw [hrd] at hx hl0 hC
        subst e
        replace hx := (HB.out.cell (World.block_lt_of_cell? w _ hx)).trans hx
        rw [Int.toNat_natCast] at hx
        have hd : l1.drop i = l1[i] :: l1.drop (i + 1) := List.drop_eq_getElem_cons hlt
        obtain ⟨y, hy⟩ : ∃ y, y = l1[i] := ⟨_, rfl⟩
        rw [← hy] at hx hl0 hC hd
        clear hrd hy
        have HD := Aside0.mk hd
        have HC := Aside0.mk hC
        have HL0 := Aside0.mk hl0
        clear hd hC hl0
        have wi : IntKind.i64.wrap ((i : Int) + 1) = ((i + 1 : Nat) : Int) := by rw [IntKind.wrap_i64]; have := HT.out; omega
        obtain ⟨e1, e2, e3, e4⟩ := HE.out
        rw [HD.out, layAll_cons] at e1
        rw [HD.out, tot_cons] at e2
        by_cases hz : 0 < y.length
        · have c4 : decide ((y.length : Int) > 0) = true := decide_eq_true (by omega)
          have c5 : (0 : Int) < (y.length : Int) := by omega
          have hcall := fill_lay.calls w wr (w.heap.size + 1) (w.heap.size + 1 + 1) w.heap.size v outs u a0 A0 c0 y HC.out HL0.out HG.out HB.out HX.out (by omega) ⟨by omega, by omega, by omega⟩ HS.out ⟨e3, e4⟩ (by have := HT.out; omega)
          have HCALL := Aside0.mk hcall
          clear hcall
          go_wp2_with (fail)
          refine HCALL.out.mono ?_
          rintro e w1 ⟨rfl, v', hx1, hs1, hb1⟩
          have HX1 := Aside0.mk hx1
          have HS1 := Aside0.mk hs1
          have HB1 := Aside0.mk hb1
          clear hx1 hs1 hb1 HX HS HB
          go_wp2
          obtain ⟨k1, rfl⟩ : ∃ k1, gk = k1 + 1 := ⟨gk - 1, by have := HI.out.2; omega⟩
          go_roundg k1
          case measure => omega
          case rel =>
            have hle : layW a0 (outs, u) y = lay a0 (outs, u) y := by unfold layW; rw [if_neg (by omega)]
            have ht := lay_tot a0 (outs, u) y
            have hu := lay_used a0 (outs, u) y e3 e4
            rw [hle] at e1
            exact ⟨i + 1, v', (lay a0 (outs, u) y).1, (lay a0 (outs, u) y).2, by first | rfl | (simp; done), ⟨by omega, by have := HI.out.2; omega⟩, HX1, HS1, HB1, ⟨e1, by simp only at ht; omega, hu.1, hu.2⟩⟩
        · have c4 : decide ((y.length : Int) > 0) = false := decide_eq_false (by omega)
          have c5 : ¬ ((0 : Int) < (y.length : Int)) := by omega
          go_wp2
          obtain ⟨k1, rfl⟩ : ∃ k1, gk = k1 + 1 := ⟨gk - 1, by have := HI.out.2; omega⟩
          go_roundg k1
          case measure => omega
          case rel =>
            have hle : layW a0 (outs, u) y = (outs, u) := by unfold layW; rw [if_pos (by omega)]
            rw [hle] at e1
            exact ⟨i + 1, v, outs, u, by first | rfl | (simp; done), ⟨by omega, by have := HI.out.2; omega⟩, HX, HS, HB, ⟨e1, by omega, e3, e4⟩⟩
      · have c1 : decide ((i : Int) < (l1.length : Int)) = false := decide_eq_false (by omega)
        have c3 : ¬ ((i : Int) < (l1.length : Int)) := by omega
        have ho := (blk_cell HX.out.1 0).trans rfl
        obtain ⟨Av, cv, rfl⟩ := Kd.S_slice HS.out
        go_wp2
        go_ret
        obtain ⟨e1, e2, e3, e4⟩ := HE.out
        rw [List.drop_eq_nil_of_le (by omega), layAll_nil] at e1
        refine ⟨_, rfl, ?_, HB.out⟩
        rw [← e1]
        exact Kd.S_mono HS.out (fun _ _ => trivial)
  · cases h
end Go.Proofs.YtfdfjlichpjobaaDoorRR.Hand
