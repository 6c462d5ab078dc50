/- HandE: several of this session's texts in one. -/
import Derived.Test.YtmfkokjbjmahkaaDoorHandD
import Derived.Test.YtmfkokjbjmahkaaDoorX2
/- (*reader).take, walked by hand: a line of input. -/
namespace Go.Proofs.YtmfkokjbjmahkaaDoor.Hand
open Go Go.RowKit Go.Proofs.YtmfkokjbjmahkaaDoorW.PrintWords Go.Proofs.YtmfkokjbjmahkaaDoorW.PrintLast Go.Proofs.YtmfkokjbjmahkaaDoorW.PrintMore Go.Proofs.YtmfkokjbjmahkaaDoor.X
set_option linter.unusedVariables false
set_option linter.unusedSimpArgs false
/-- What a line that is whole makes. -/
def doneF (k : Nat) (frm : Int) (whole : ByteArray) (out : List Rw) (bad : List Dg) : Option (List Rw × List Dg) :=
  (lines_control.f whole).bind fun c => if c.2 = true then (if c.1.size ≤ 4294960000 then ((strings_IndexAny.f (c.1 ++ ⟨#[32]⟩) ⟨#[32, 9]⟩).bind fun n => if n = 0 then some (out, bad) else (if 0 ≤ n ∧ n ≤ c.1.size then
      ((lines_Args.f k (c.1.extract n.toNat c.1.size)).bind fun a => some (out ++ [⟨frm, c.1.extract 0 n.toNat, if (200 : Int) < (a.1.length : Int) then a.1.take 200 else a.1, ⟨#[]⟩⟩], (bad ++ (if a.2 = true then [] else [⟨5, frm, 0⟩])) ++ (if (200 : Int) < (a.1.length : Int) then [⟨11, frm, 0⟩] else []))) else none)) else none)
    else some (out ++ [⟨frm, ⟨#[]⟩, [], whole⟩], bad)
theorem doneF_mono (frm : Int) (whole : ByteArray) (out : List Rw) (bad : List Dg) (k : Nat) : LeO (doneF k frm whole out bad) (doneF (k + 1) frm whole out bad) := by
  intro r h
  unfold doneF at h ⊢
  obtain ⟨c, h1, h2⟩ := Option.bind_eq_some_iff.1 h
  rw [h1, Option.bind_some]
  split at h2
  · rename_i hc
    rw [if_pos hc]
    split at h2
    · rename_i hs
      rw [if_pos hs]
      obtain ⟨n, h3, h4⟩ := Option.bind_eq_some_iff.1 h2
      rw [h3, Option.bind_some]
      split at h4
      · rename_i hn
        rw [if_pos hn]
        exact h4
      · rename_i hn
        rw [if_neg hn]
        split at h4
        · rename_i hr
          rw [if_pos hr]
          obtain ⟨a, h5, h6⟩ := Option.bind_eq_some_iff.1 h4
          rw [lines_Args.mono _ k a h5, Option.bind_some]
          exact h6
        · cases h4
    · cases h2
  · rename_i hc
    rw [if_neg hc]
    exact h2
theorem done_calls (k : Nat) (w0 W : World) (p : Nat) (ok : Nat → Prop) (vo vb : Value) (out : List Rw) (bad : List Dg) (line : Int) (whole : ByteArray) (frm : Int) (r1 : List Rw) (r2 : List Dg)
    (hB : Below w0.heap.size w0 W) (hX : RdAt p vo vb line whole frm W) (hp : w0.heap.size ≤ p) (hok : ∀ q, W.heap.size ≤ q → ok q) (hpk : ¬ ok p)
    (hS : Kd.S k35 35 W w0.heap.size ok vo out) (hD : Kd.S k37 37 W w0.heap.size ok vb bad) (hl : out.length ≤ 1000000000 ∧ bad.length ≤ 1000000000)
    (h : doneF k frm whole out bad = some (r1, r2)) :
    Calls Tryd.prog 34 #[.pointer (some ⟨p, 0, none⟩)] W fun e w' => e = .returned (.tuple #[]) ∧ ∃ vo' vb', RdAt p vo' vb' line ⟨#[]⟩ 0 w' ∧ Kd.S k35 35 w' w0.heap.size ok vo' r1 ∧ Kd.S k37 37 w' w0.heap.size ok vb' r2 ∧ Below w0.heap.size w0 w' ∧ Fr ok p W w' := by
  unfold doneF at h
  obtain ⟨⟨rest, is⟩, h1, h2⟩ := Option.bind_eq_some_iff.1 h
  simp only at h2
  cases is with
  | false =>
    rw [if_neg (by decide)] at h2
    obtain ⟨rfl, rfl⟩ := Prod.mk.inj (Option.some.inj h2)
    exact done_text k w0 W p ok vo vb out bad line whole frm rest hB hX hp hok hpk hS hD hl h1
  | true =>
    rw [if_pos rfl] at h2
    split at h2
    · rename_i hs
      obtain ⟨n, h3, h4⟩ := Option.bind_eq_some_iff.1 h2
      split at h4
      · rename_i hn
        subst hn
        obtain ⟨rfl, rfl⟩ := Prod.mk.inj (Option.some.inj h4)
        exact done_bare k w0 W p ok vo vb out bad line whole frm rest hB hX hp hok hpk hS hD hl h1 hs h3
      · rename_i hn
        split at h4
        · rename_i hr
          obtain ⟨⟨l, okb⟩, h5, h6⟩ := Option.bind_eq_some_iff.1 h4
          simp only at h6
          obtain ⟨rfl, rfl⟩ := Prod.mk.inj (Option.some.inj h6)
          by_cases hb : (200 : Int) < (l.length : Int)
          · rw [if_pos hb, if_pos hb]
            cases okb with
            | true => simpa using done_macro01 k w0 W p ok vo vb out bad line whole frm rest n l hB hX hp hok hpk hS hD hl h1 hs h3 hn hr.1 hr.2 h5 hb
            | false => simpa using done_macro11 k w0 W p ok vo vb out bad line whole frm rest n l hB hX hp hok hpk hS hD hl h1 hs h3 hn hr.1 hr.2 h5 hb
          · rw [if_neg hb, if_neg hb]
            cases okb with
            | true => simpa using done_macro00 k w0 W p ok vo vb out bad line whole frm rest n l hB hX hp hok hpk hS hD hl h1 hs h3 hn hr.1 hr.2 h5 hb
            | false => simpa using done_macro10 k w0 W p ok vo vb out bad line whole frm rest n l hB hX hp hok hpk hS hD hl h1 hs h3 hn hr.1 hr.2 h5 hb
        · cases h4
    · cases h2
set_option maxHeartbeats 8000000 in
set_option maxRecDepth 100000 in
theorem take_A1 (k : Nat) (w0 W : World) (p : Nat) (ok : Nat → Prop) (vo vb : Value) (out : List Rw) (bad : List Dg) (line : Int) (whole s : ByteArray) (at_ : Int)
    (hB : Below w0.heap.size w0 W) (hX : RdAt p vo vb line whole 0 W) (hp : w0.heap.size ≤ p) (hok : ∀ q, W.heap.size ≤ q → ok q) (hpk : ¬ ok p) (hl1 : 0 ≤ line) (hl2 : line ≤ 1000000000)
    (hS : Kd.S k35 35 W w0.heap.size ok vo out) (hD : Kd.S k37 37 W w0.heap.size ok vb bad) (hl : out.length ≤ 1000000000 ∧ bad.length ≤ 1000000000) (hz : whole.size + s.size ≤ 140737488355328) (hc : lines_comment.f k s = some at_)
    (hat : 0 ≤ at_) (hat2 : at_ ≤ s.size) (rest : ByteArray) (is : Bool) (hr : lines_control.f (s.extract 0 at_.toNat) = some (rest, is)) (hem : (s.extract 0 at_.toNat).toList = []) :
    Calls Tryd.prog 32 #[.pointer (some ⟨p, 0, none⟩), .string s] W fun e w' => e = .returned (.tuple #[]) ∧ ∃ vo' vb', RdAt p vo' vb' (line + 1) (whole) (0) w' ∧ Kd.S k35 35 w' w0.heap.size ok vo' (out) ∧ Kd.S k37 37 w' w0.heap.size ok vb' (bad) ∧ Below w0.heap.size w0 w' ∧ Fr ok p W w' := by
  have hu55 := Tryd.underlying55
  have HB := Aside0.mk hB
  have HX := Aside0.mk hX
  have HS := Aside0.mk hS
  have HD := Aside0.mk hD
  have HP := Aside0.mk hp
  have HOK := Aside0.mk hok
  have HPK := Aside0.mk hpk
  have HC := Aside0.mk hc
  have HL := Aside0.mk hl
  have HF := Aside0.mk (Fr.refl ok p W)
  have hx2 : W.cell? ⟨p, 2, none⟩ = some (.int .i64 line) := (blk_cell HX.out 2).trans rfl
  have hf2 := blk_frozen HX.out 2
  have hx3 : W.cell? ⟨p, 3, none⟩ = some (.string whole) := (blk_cell HX.out 3).trans rfl
  have hf3 := blk_frozen HX.out 3
  have hx4 : W.cell? ⟨p, 4, none⟩ = some (.int .i64 0) := (blk_cell HX.out 4).trans rfl
  have hf4 := blk_frozen HX.out 4
  have HR := Aside0.mk hr
  clear hr
  clear hB hX hS hD hp hok hpk hc hl
  go_enter Tryd.func32, Tryd.ntmps32
  go_wp2_with (first | (go_at_call 51; refine (lines_comment.calls k s at_ _ HC.out).mono ?_; rintro e w1 ⟨rfl, hb⟩; clear hx2 hf2 hx3 hf3 hx4 hf4; have mX : Aside0 (RdAt p vo vb (line + 1) whole (line + 1) _) := ⟨blk_below (blk_put (blk_put HX.out 2 _ rfl) 4 _ rfl) hb⟩; have mS := Aside0.mk (Kd.S_below (Kd.S_far (p := ⟨p, 4, none⟩) (Kd.S_far (p := ⟨p, 2, none⟩) HS.out (fun q hq => ne_ok HPK.out hq) (.int .i64 (line + 1))) (fun q hq => ne_ok HPK.out hq) (.int .i64 (line + 1))) hb); have mD := Aside0.mk (Kd.S_below (Kd.S_far (p := ⟨p, 4, none⟩) (Kd.S_far (p := ⟨p, 2, none⟩) HD.out (fun q hq => ne_ok HPK.out hq) (.int .i64 (line + 1))) (fun q hq => ne_ok HPK.out hq) (.int .i64 (line + 1))) hb); have mB := Aside0.mk (below_step (below_set (j := 4) (v := .int .i64 (line + 1)) (below_set (j := 2) (v := .int .i64 (line + 1)) HB.out HP.out) HP.out) hb); have mF := Aside0.mk (Fr.below ((HF.out.set_p HX.out 2 (.int .i64 (line + 1))).set_p (blk_put HX.out 2 _ rfl) 4 (.int .i64 (line + 1))) hb); clear HX HS HD HB HF; have HX := mX; have HS := mS; have HD := mD; have HB := mB; have HF := mF; clear mX mS mD mB mF; have hx3 : w1.cell? ⟨p, 3, none⟩ = some (.string whole) := (blk_cell HX.out 3).trans rfl; have hf3 := blk_frozen HX.out 3; have hx4 : w1.cell? ⟨p, 4, none⟩ = some (.int .i64 (line + 1)) := (blk_cell HX.out 4).trans rfl; have hf4 := blk_frozen HX.out 4; clear hb) | (go_at_call 52; refine (lines_control.calls (s.extract 0 at_.toNat) rest _ _ HR.out).mono ?_; rintro e w2 ⟨rfl, hb⟩; clear hx3 hf3 hx4 hf4; have mX : Aside0 (RdAt p vo vb (line + 1) whole (line + 1) _) := ⟨blk_below HX.out hb⟩; have mS := Aside0.mk (Kd.S_below HS.out hb); have mD := Aside0.mk (Kd.S_below HD.out hb); have mB := Aside0.mk (below_step HB.out hb); have mF := Aside0.mk (Fr.below HF.out hb); clear HX HS HD HB HF; have HX := mX; have HS := mS; have HD := mD; have HB := mB; have HF := mF; clear mX mS mD mB mF; have hx3 : w2.cell? ⟨p, 3, none⟩ = some (.string whole) := (blk_cell HX.out 3).trans rfl; have hf3 := blk_frozen HX.out 3; have hx4 : w2.cell? ⟨p, 4, none⟩ = some (.int .i64 (line + 1)) := (blk_cell HX.out 4).trans rfl; have hf4 := blk_frozen HX.out 4; clear hb))
  first | go_end0 | ((try simp only [Exit.inBlock, Exit.then]); refine bodyPost_ret (results_none rfl _ _ _) rfl ?_)
  exact ⟨rfl, vo, vb, blk_put HX.out 4 _ rfl, Kd.S_far (p := ⟨p, 4, none⟩) HS.out (fun q hq => ne_ok HPK.out hq) _, Kd.S_far (p := ⟨p, 4, none⟩) HD.out (fun q hq => ne_ok HPK.out hq) _, below_set HB.out HP.out, HF.out.set_p HX.out 4 _⟩
set_option maxHeartbeats 8000000 in
set_option maxRecDepth 100000 in
theorem take_A2 (k : Nat) (w0 W : World) (p : Nat) (ok : Nat → Prop) (vo vb : Value) (out : List Rw) (bad : List Dg) (line : Int) (whole s : ByteArray) (at_ : Int)
    (hB : Below w0.heap.size w0 W) (hX : RdAt p vo vb line whole 0 W) (hp : w0.heap.size ≤ p) (hok : ∀ q, W.heap.size ≤ q → ok q) (hpk : ¬ ok p) (hl1 : 0 ≤ line) (hl2 : line ≤ 1000000000)
    (hS : Kd.S k35 35 W w0.heap.size ok vo out) (hD : Kd.S k37 37 W w0.heap.size ok vb bad) (hl : out.length ≤ 1000000000 ∧ bad.length ≤ 1000000000) (hz : whole.size + s.size ≤ 140737488355328) (hc : lines_comment.f k s = some at_)
    (hat : 0 ≤ at_) (hat2 : at_ ≤ s.size) (rest : ByteArray) (hr : lines_control.f (s.extract 0 at_.toNat) = some (rest, true)) (hne : (s.extract 0 at_.toNat).toList ≠ []) (hre : rest.toList = []) :
    Calls Tryd.prog 32 #[.pointer (some ⟨p, 0, none⟩), .string s] W fun e w' => e = .returned (.tuple #[]) ∧ ∃ vo' vb', RdAt p vo' vb' (line + 1) (whole) (0) w' ∧ Kd.S k35 35 w' w0.heap.size ok vo' (out) ∧ Kd.S k37 37 w' w0.heap.size ok vb' (bad) ∧ Below w0.heap.size w0 w' ∧ Fr ok p W w' := by
  have hu55 := Tryd.underlying55
  have HB := Aside0.mk hB
  have HX := Aside0.mk hX
  have HS := Aside0.mk hS
  have HD := Aside0.mk hD
  have HP := Aside0.mk hp
  have HOK := Aside0.mk hok
  have HPK := Aside0.mk hpk
  have HC := Aside0.mk hc
  have HL := Aside0.mk hl
  have HF := Aside0.mk (Fr.refl ok p W)
  have hx2 : W.cell? ⟨p, 2, none⟩ = some (.int .i64 line) := (blk_cell HX.out 2).trans rfl
  have hf2 := blk_frozen HX.out 2
  have hx3 : W.cell? ⟨p, 3, none⟩ = some (.string whole) := (blk_cell HX.out 3).trans rfl
  have hf3 := blk_frozen HX.out 3
  have hx4 : W.cell? ⟨p, 4, none⟩ = some (.int .i64 0) := (blk_cell HX.out 4).trans rfl
  have hf4 := blk_frozen HX.out 4
  have HR := Aside0.mk hr
  clear hr
  clear hB hX hS hD hp hok hpk hc hl
  go_enter Tryd.func32, Tryd.ntmps32
  go_wp2_with (first | (go_at_call 51; refine (lines_comment.calls k s at_ _ HC.out).mono ?_; rintro e w1 ⟨rfl, hb⟩; clear hx2 hf2 hx3 hf3 hx4 hf4; have mX : Aside0 (RdAt p vo vb (line + 1) whole (line + 1) _) := ⟨blk_below (blk_put (blk_put HX.out 2 _ rfl) 4 _ rfl) hb⟩; have mS := Aside0.mk (Kd.S_below (Kd.S_far (p := ⟨p, 4, none⟩) (Kd.S_far (p := ⟨p, 2, none⟩) HS.out (fun q hq => ne_ok HPK.out hq) (.int .i64 (line + 1))) (fun q hq => ne_ok HPK.out hq) (.int .i64 (line + 1))) hb); have mD := Aside0.mk (Kd.S_below (Kd.S_far (p := ⟨p, 4, none⟩) (Kd.S_far (p := ⟨p, 2, none⟩) HD.out (fun q hq => ne_ok HPK.out hq) (.int .i64 (line + 1))) (fun q hq => ne_ok HPK.out hq) (.int .i64 (line + 1))) hb); have mB := Aside0.mk (below_step (below_set (j := 4) (v := .int .i64 (line + 1)) (below_set (j := 2) (v := .int .i64 (line + 1)) HB.out HP.out) HP.out) hb); have mF := Aside0.mk (Fr.below ((HF.out.set_p HX.out 2 (.int .i64 (line + 1))).set_p (blk_put HX.out 2 _ rfl) 4 (.int .i64 (line + 1))) hb); clear HX HS HD HB HF; have HX := mX; have HS := mS; have HD := mD; have HB := mB; have HF := mF; clear mX mS mD mB mF; have hx3 : w1.cell? ⟨p, 3, none⟩ = some (.string whole) := (blk_cell HX.out 3).trans rfl; have hf3 := blk_frozen HX.out 3; have hx4 : w1.cell? ⟨p, 4, none⟩ = some (.int .i64 (line + 1)) := (blk_cell HX.out 4).trans rfl; have hf4 := blk_frozen HX.out 4; clear hb) | (go_at_call 52; refine (lines_control.calls (s.extract 0 at_.toNat) rest _ _ HR.out).mono ?_; rintro e w2 ⟨rfl, hb⟩; clear hx3 hf3 hx4 hf4; have mX : Aside0 (RdAt p vo vb (line + 1) whole (line + 1) _) := ⟨blk_below HX.out hb⟩; have mS := Aside0.mk (Kd.S_below HS.out hb); have mD := Aside0.mk (Kd.S_below HD.out hb); have mB := Aside0.mk (below_step HB.out hb); have mF := Aside0.mk (Fr.below HF.out hb); clear HX HS HD HB HF; have HX := mX; have HS := mS; have HD := mD; have HB := mB; have HF := mF; clear mX mS mD mB mF; have hx3 : w2.cell? ⟨p, 3, none⟩ = some (.string whole) := (blk_cell HX.out 3).trans rfl; have hf3 := blk_frozen HX.out 3; have hx4 : w2.cell? ⟨p, 4, none⟩ = some (.int .i64 (line + 1)) := (blk_cell HX.out 4).trans rfl; have hf4 := blk_frozen HX.out 4; clear hb))
  first | go_end0 | ((try simp only [Exit.inBlock, Exit.then]); refine bodyPost_ret (results_none rfl _ _ _) rfl ?_)
  exact ⟨rfl, vo, vb, blk_put HX.out 4 _ rfl, Kd.S_far (p := ⟨p, 4, none⟩) HS.out (fun q hq => ne_ok HPK.out hq) _, Kd.S_far (p := ⟨p, 4, none⟩) HD.out (fun q hq => ne_ok HPK.out hq) _, below_set HB.out HP.out, HF.out.set_p HX.out 4 _⟩
set_option maxHeartbeats 8000000 in
set_option maxRecDepth 100000 in
theorem take_B1 (k : Nat) (w0 W : World) (p : Nat) (ok : Nat → Prop) (vo vb : Value) (out : List Rw) (bad : List Dg) (line : Int) (whole s : ByteArray) (at_ : Int)
    (hB : Below w0.heap.size w0 W) (hX : RdAt p vo vb line whole 0 W) (hp : w0.heap.size ≤ p) (hok : ∀ q, W.heap.size ≤ q → ok q) (hpk : ¬ ok p) (hl1 : 0 ≤ line) (hl2 : line ≤ 1000000000)
    (hS : Kd.S k35 35 W w0.heap.size ok vo out) (hD : Kd.S k37 37 W w0.heap.size ok vb bad) (hl : out.length ≤ 1000000000 ∧ bad.length ≤ 1000000000) (hz : whole.size + s.size ≤ 140737488355328) (hc : lines_comment.f k s = some at_)
    (hat : 0 ≤ at_) (hat2 : at_ ≤ s.size) (rest : ByteArray) (hr : lines_control.f (s.extract 0 at_.toNat) = some (rest, false)) (hne : (s.extract 0 at_.toNat).toList ≠ []) (r1 : List Rw) (r2 : List Dg) (hd : doneF k (line + 1) (whole ++ s.extract 0 at_.toNat) out bad = some (r1, r2)) :
    Calls Tryd.prog 32 #[.pointer (some ⟨p, 0, none⟩), .string s] W fun e w' => e = .returned (.tuple #[]) ∧ ∃ vo' vb', RdAt p vo' vb' (line + 1) (⟨#[]⟩) (0) w' ∧ Kd.S k35 35 w' w0.heap.size ok vo' (r1) ∧ Kd.S k37 37 w' w0.heap.size ok vb' (r2) ∧ Below w0.heap.size w0 w' ∧ Fr ok p W w' := by
  have hu55 := Tryd.underlying55
  have HB := Aside0.mk hB
  have HX := Aside0.mk hX
  have HS := Aside0.mk hS
  have HD := Aside0.mk hD
  have HP := Aside0.mk hp
  have HOK := Aside0.mk hok
  have HPK := Aside0.mk hpk
  have HC := Aside0.mk hc
  have HL := Aside0.mk hl
  have HF := Aside0.mk (Fr.refl ok p W)
  have hx2 : W.cell? ⟨p, 2, none⟩ = some (.int .i64 line) := (blk_cell HX.out 2).trans rfl
  have hf2 := blk_frozen HX.out 2
  have hx3 : W.cell? ⟨p, 3, none⟩ = some (.string whole) := (blk_cell HX.out 3).trans rfl
  have hf3 := blk_frozen HX.out 3
  have hx4 : W.cell? ⟨p, 4, none⟩ = some (.int .i64 0) := (blk_cell HX.out 4).trans rfl
  have hf4 := blk_frozen HX.out 4
  have HR := Aside0.mk hr
  clear hr
  have hsx : (s.extract 0 at_.toNat).size = at_.toNat := (by rw [ByteArray.size_extract]; omega)
  have hcc : whole.size + (s.extract 0 at_.toNat).size ≤ 9223372036854775807 := by omega
  have hcd := eq_false (Nat.not_lt.2 hcc)
  have HG := Aside0.mk hd
  clear hd
  have hne_ : (s.extract 0 at_.toNat).toList.isEmpty = false := by simpa using hne
  clear hB hX hS hD hp hok hpk hc hl
  go_enter Tryd.func32, Tryd.ntmps32
  go_wp2_with (first | (go_at_call 51; refine (lines_comment.calls k s at_ _ HC.out).mono ?_; rintro e w1 ⟨rfl, hb⟩; clear hx2 hf2 hx3 hf3 hx4 hf4; have mX : Aside0 (RdAt p vo vb (line + 1) whole (line + 1) _) := ⟨blk_below (blk_put (blk_put HX.out 2 _ rfl) 4 _ rfl) hb⟩; have mS := Aside0.mk (Kd.S_below (Kd.S_far (p := ⟨p, 4, none⟩) (Kd.S_far (p := ⟨p, 2, none⟩) HS.out (fun q hq => ne_ok HPK.out hq) (.int .i64 (line + 1))) (fun q hq => ne_ok HPK.out hq) (.int .i64 (line + 1))) hb); have mD := Aside0.mk (Kd.S_below (Kd.S_far (p := ⟨p, 4, none⟩) (Kd.S_far (p := ⟨p, 2, none⟩) HD.out (fun q hq => ne_ok HPK.out hq) (.int .i64 (line + 1))) (fun q hq => ne_ok HPK.out hq) (.int .i64 (line + 1))) hb); have mB := Aside0.mk (below_step (below_set (j := 4) (v := .int .i64 (line + 1)) (below_set (j := 2) (v := .int .i64 (line + 1)) HB.out HP.out) HP.out) hb); have mF := Aside0.mk (Fr.below ((HF.out.set_p HX.out 2 (.int .i64 (line + 1))).set_p (blk_put HX.out 2 _ rfl) 4 (.int .i64 (line + 1))) hb); clear HX HS HD HB HF; have HX := mX; have HS := mS; have HD := mD; have HB := mB; have HF := mF; clear mX mS mD mB mF; have hx3 : w1.cell? ⟨p, 3, none⟩ = some (.string whole) := (blk_cell HX.out 3).trans rfl; have hf3 := blk_frozen HX.out 3; have hx4 : w1.cell? ⟨p, 4, none⟩ = some (.int .i64 (line + 1)) := (blk_cell HX.out 4).trans rfl; have hf4 := blk_frozen HX.out 4; clear hb) | (go_at_call 52; refine (lines_control.calls (s.extract 0 at_.toNat) rest _ _ HR.out).mono ?_; rintro e w2 ⟨rfl, hb⟩; clear hx3 hf3 hx4 hf4; have mX : Aside0 (RdAt p vo vb (line + 1) whole (line + 1) _) := ⟨blk_below HX.out hb⟩; have mS := Aside0.mk (Kd.S_below HS.out hb); have mD := Aside0.mk (Kd.S_below HD.out hb); have mB := Aside0.mk (below_step HB.out hb); have mF := Aside0.mk (Fr.below HF.out hb); clear HX HS HD HB HF; have HX := mX; have HS := mS; have HD := mD; have HB := mB; have HF := mF; clear mX mS mD mB mF; have hx3 : w2.cell? ⟨p, 3, none⟩ = some (.string whole) := (blk_cell HX.out 3).trans rfl; have hf3 := blk_frozen HX.out 3; have hx4 : w2.cell? ⟨p, 4, none⟩ = some (.int .i64 (line + 1)) := (blk_cell HX.out 4).trans rfl; have hf4 := blk_frozen HX.out 4; clear hb) | (go_at_call 34; clear hx3 hf3 hx4 hf4; have mX : Aside0 (RdAt p vo vb (line + 1) (whole ++ s.extract 0 at_.toNat) (line + 1) _) := ⟨(blk_put HX.out 3 _ rfl)⟩; have mS := Aside0.mk (Kd.S_far (p := ⟨p, 3, none⟩) HS.out (fun q hq => ne_ok HPK.out hq) (.string (whole ++ s.extract 0 at_.toNat))); have mD := Aside0.mk (Kd.S_far (p := ⟨p, 3, none⟩) HD.out (fun q hq => ne_ok HPK.out hq) (.string (whole ++ s.extract 0 at_.toNat))); have mB := Aside0.mk (below_set (j := 3) (v := .string (whole ++ s.extract 0 at_.toNat)) HB.out HP.out); have mF := Aside0.mk (HF.out.set_p HX.out 3 (.string (whole ++ s.extract 0 at_.toNat))); clear HX HS HD HB HF; have HX := mX; have HS := mS; have HD := mD; have HB := mB; have HF := mF; clear mX mS mD mB mF; refine (done_calls k w0 _ p ok vo vb out bad (line + 1) (whole ++ s.extract 0 at_.toNat) (line + 1) r1 r2 HB.out HX.out HP.out (fun q hq => HOK.out q (Nat.le_trans HF.out.size hq)) HPK.out HS.out HD.out HL.out HG.out).mono ?_; rintro e w3 ⟨rfl, vo', vb', hX', hS', hD', hB', hF'⟩; have HX3 := Aside0.mk hX'; have HS3 := Aside0.mk hS'; have HD3 := Aside0.mk hD'; have HB3 := Aside0.mk hB'; have HF3 := Aside0.mk (HF.out.trans hF'); clear hX' hS' hD' hB' hF' HX HS HD HB HF))
  first | go_end0 | ((try simp only [Exit.inBlock, Exit.then]); refine bodyPost_ret (results_none rfl _ _ _) rfl ?_)
  exact ⟨rfl, vo', vb', HX3.out, HS3.out, HD3.out, HB3.out, HF3.out⟩
set_option maxHeartbeats 8000000 in
set_option maxRecDepth 100000 in
theorem take_B2 (k : Nat) (w0 W : World) (p : Nat) (ok : Nat → Prop) (vo vb : Value) (out : List Rw) (bad : List Dg) (line : Int) (whole s : ByteArray) (at_ : Int)
    (hB : Below w0.heap.size w0 W) (hX : RdAt p vo vb line whole 0 W) (hp : w0.heap.size ≤ p) (hok : ∀ q, W.heap.size ≤ q → ok q) (hpk : ¬ ok p) (hl1 : 0 ≤ line) (hl2 : line ≤ 1000000000)
    (hS : Kd.S k35 35 W w0.heap.size ok vo out) (hD : Kd.S k37 37 W w0.heap.size ok vb bad) (hl : out.length ≤ 1000000000 ∧ bad.length ≤ 1000000000) (hz : whole.size + s.size ≤ 140737488355328) (hc : lines_comment.f k s = some at_)
    (hat : 0 ≤ at_) (hat2 : at_ ≤ s.size) (rest : ByteArray) (hr : lines_control.f (s.extract 0 at_.toNat) = some (rest, true)) (hne : (s.extract 0 at_.toNat).toList ≠ []) (hre : rest.toList ≠ []) (r1 : List Rw) (r2 : List Dg) (hd : doneF k (line + 1) (whole ++ s.extract 0 at_.toNat) out bad = some (r1, r2)) :
    Calls Tryd.prog 32 #[.pointer (some ⟨p, 0, none⟩), .string s] W fun e w' => e = .returned (.tuple #[]) ∧ ∃ vo' vb', RdAt p vo' vb' (line + 1) (⟨#[]⟩) (0) w' ∧ Kd.S k35 35 w' w0.heap.size ok vo' (r1) ∧ Kd.S k37 37 w' w0.heap.size ok vb' (r2) ∧ Below w0.heap.size w0 w' ∧ Fr ok p W w' := by
  have hu55 := Tryd.underlying55
  have HB := Aside0.mk hB
  have HX := Aside0.mk hX
  have HS := Aside0.mk hS
  have HD := Aside0.mk hD
  have HP := Aside0.mk hp
  have HOK := Aside0.mk hok
  have HPK := Aside0.mk hpk
  have HC := Aside0.mk hc
  have HL := Aside0.mk hl
  have HF := Aside0.mk (Fr.refl ok p W)
  have hx2 : W.cell? ⟨p, 2, none⟩ = some (.int .i64 line) := (blk_cell HX.out 2).trans rfl
  have hf2 := blk_frozen HX.out 2
  have hx3 : W.cell? ⟨p, 3, none⟩ = some (.string whole) := (blk_cell HX.out 3).trans rfl
  have hf3 := blk_frozen HX.out 3
  have hx4 : W.cell? ⟨p, 4, none⟩ = some (.int .i64 0) := (blk_cell HX.out 4).trans rfl
  have hf4 := blk_frozen HX.out 4
  have HR := Aside0.mk hr
  clear hr
  have hsx : (s.extract 0 at_.toNat).size = at_.toNat := (by rw [ByteArray.size_extract]; omega)
  have hcc : whole.size + (s.extract 0 at_.toNat).size ≤ 9223372036854775807 := by omega
  have hcd := eq_false (Nat.not_lt.2 hcc)
  have HG := Aside0.mk hd
  clear hd
  have hne_ : (s.extract 0 at_.toNat).toList.isEmpty = false := by simpa using hne
  have hre_ : rest.toList.isEmpty = false := by simpa using hre
  clear hB hX hS hD hp hok hpk hc hl
  go_enter Tryd.func32, Tryd.ntmps32
  go_wp2_with (first | (go_at_call 51; refine (lines_comment.calls k s at_ _ HC.out).mono ?_; rintro e w1 ⟨rfl, hb⟩; clear hx2 hf2 hx3 hf3 hx4 hf4; have mX : Aside0 (RdAt p vo vb (line + 1) whole (line + 1) _) := ⟨blk_below (blk_put (blk_put HX.out 2 _ rfl) 4 _ rfl) hb⟩; have mS := Aside0.mk (Kd.S_below (Kd.S_far (p := ⟨p, 4, none⟩) (Kd.S_far (p := ⟨p, 2, none⟩) HS.out (fun q hq => ne_ok HPK.out hq) (.int .i64 (line + 1))) (fun q hq => ne_ok HPK.out hq) (.int .i64 (line + 1))) hb); have mD := Aside0.mk (Kd.S_below (Kd.S_far (p := ⟨p, 4, none⟩) (Kd.S_far (p := ⟨p, 2, none⟩) HD.out (fun q hq => ne_ok HPK.out hq) (.int .i64 (line + 1))) (fun q hq => ne_ok HPK.out hq) (.int .i64 (line + 1))) hb); have mB := Aside0.mk (below_step (below_set (j := 4) (v := .int .i64 (line + 1)) (below_set (j := 2) (v := .int .i64 (line + 1)) HB.out HP.out) HP.out) hb); have mF := Aside0.mk (Fr.below ((HF.out.set_p HX.out 2 (.int .i64 (line + 1))).set_p (blk_put HX.out 2 _ rfl) 4 (.int .i64 (line + 1))) hb); clear HX HS HD HB HF; have HX := mX; have HS := mS; have HD := mD; have HB := mB; have HF := mF; clear mX mS mD mB mF; have hx3 : w1.cell? ⟨p, 3, none⟩ = some (.string whole) := (blk_cell HX.out 3).trans rfl; have hf3 := blk_frozen HX.out 3; have hx4 : w1.cell? ⟨p, 4, none⟩ = some (.int .i64 (line + 1)) := (blk_cell HX.out 4).trans rfl; have hf4 := blk_frozen HX.out 4; clear hb) | (go_at_call 52; refine (lines_control.calls (s.extract 0 at_.toNat) rest _ _ HR.out).mono ?_; rintro e w2 ⟨rfl, hb⟩; clear hx3 hf3 hx4 hf4; have mX : Aside0 (RdAt p vo vb (line + 1) whole (line + 1) _) := ⟨blk_below HX.out hb⟩; have mS := Aside0.mk (Kd.S_below HS.out hb); have mD := Aside0.mk (Kd.S_below HD.out hb); have mB := Aside0.mk (below_step HB.out hb); have mF := Aside0.mk (Fr.below HF.out hb); clear HX HS HD HB HF; have HX := mX; have HS := mS; have HD := mD; have HB := mB; have HF := mF; clear mX mS mD mB mF; have hx3 : w2.cell? ⟨p, 3, none⟩ = some (.string whole) := (blk_cell HX.out 3).trans rfl; have hf3 := blk_frozen HX.out 3; have hx4 : w2.cell? ⟨p, 4, none⟩ = some (.int .i64 (line + 1)) := (blk_cell HX.out 4).trans rfl; have hf4 := blk_frozen HX.out 4; clear hb) | (go_at_call 34; clear hx3 hf3 hx4 hf4; have mX : Aside0 (RdAt p vo vb (line + 1) (whole ++ s.extract 0 at_.toNat) (line + 1) _) := ⟨(blk_put HX.out 3 _ rfl)⟩; have mS := Aside0.mk (Kd.S_far (p := ⟨p, 3, none⟩) HS.out (fun q hq => ne_ok HPK.out hq) (.string (whole ++ s.extract 0 at_.toNat))); have mD := Aside0.mk (Kd.S_far (p := ⟨p, 3, none⟩) HD.out (fun q hq => ne_ok HPK.out hq) (.string (whole ++ s.extract 0 at_.toNat))); have mB := Aside0.mk (below_set (j := 3) (v := .string (whole ++ s.extract 0 at_.toNat)) HB.out HP.out); have mF := Aside0.mk (HF.out.set_p HX.out 3 (.string (whole ++ s.extract 0 at_.toNat))); clear HX HS HD HB HF; have HX := mX; have HS := mS; have HD := mD; have HB := mB; have HF := mF; clear mX mS mD mB mF; refine (done_calls k w0 _ p ok vo vb out bad (line + 1) (whole ++ s.extract 0 at_.toNat) (line + 1) r1 r2 HB.out HX.out HP.out (fun q hq => HOK.out q (Nat.le_trans HF.out.size hq)) HPK.out HS.out HD.out HL.out HG.out).mono ?_; rintro e w3 ⟨rfl, vo', vb', hX', hS', hD', hB', hF'⟩; have HX3 := Aside0.mk hX'; have HS3 := Aside0.mk hS'; have HD3 := Aside0.mk hD'; have HB3 := Aside0.mk hB'; have HF3 := Aside0.mk (HF.out.trans hF'); clear hX' hS' hD' hB' hF' HX HS HD HB HF))
  first | go_end0 | ((try simp only [Exit.inBlock, Exit.then]); refine bodyPost_ret (results_none rfl _ _ _) rfl ?_)
  exact ⟨rfl, vo', vb', HX3.out, HS3.out, HD3.out, HB3.out, HF3.out⟩
set_option maxHeartbeats 8000000 in
set_option maxRecDepth 100000 in
theorem take_B3 (k : Nat) (w0 W : World) (p : Nat) (ok : Nat → Prop) (vo vb : Value) (out : List Rw) (bad : List Dg) (line : Int) (whole s : ByteArray) (frm : Int) (hfr : frm ≠ 0) (at_ : Int)
    (hB : Below w0.heap.size w0 W) (hX : RdAt p vo vb line whole frm W) (hp : w0.heap.size ≤ p) (hok : ∀ q, W.heap.size ≤ q → ok q) (hpk : ¬ ok p) (hl1 : 0 ≤ line) (hl2 : line ≤ 1000000000)
    (hS : Kd.S k35 35 W w0.heap.size ok vo out) (hD : Kd.S k37 37 W w0.heap.size ok vb bad) (hl : out.length ≤ 1000000000 ∧ bad.length ≤ 1000000000) (hz : whole.size + s.size ≤ 140737488355328) (hc : lines_comment.f k s = some at_)
    (hat : 0 ≤ at_) (hat2 : at_ ≤ s.size) (rest : ByteArray) (is : Bool) (hr : lines_control.f (s.extract 0 at_.toNat) = some (rest, is)) (r1 : List Rw) (r2 : List Dg) (hd : doneF k (frm) (whole ++ s.extract 0 at_.toNat) out bad = some (r1, r2)) :
    Calls Tryd.prog 32 #[.pointer (some ⟨p, 0, none⟩), .string s] W fun e w' => e = .returned (.tuple #[]) ∧ ∃ vo' vb', RdAt p vo' vb' (line + 1) (⟨#[]⟩) (0) w' ∧ Kd.S k35 35 w' w0.heap.size ok vo' (r1) ∧ Kd.S k37 37 w' w0.heap.size ok vb' (r2) ∧ Below w0.heap.size w0 w' ∧ Fr ok p W w' := by
  have hu55 := Tryd.underlying55
  have HB := Aside0.mk hB
  have HX := Aside0.mk hX
  have HS := Aside0.mk hS
  have HD := Aside0.mk hD
  have HP := Aside0.mk hp
  have HOK := Aside0.mk hok
  have HPK := Aside0.mk hpk
  have HC := Aside0.mk hc
  have HL := Aside0.mk hl
  have HF := Aside0.mk (Fr.refl ok p W)
  have hx2 : W.cell? ⟨p, 2, none⟩ = some (.int .i64 line) := (blk_cell HX.out 2).trans rfl
  have hf2 := blk_frozen HX.out 2
  have hx3 : W.cell? ⟨p, 3, none⟩ = some (.string whole) := (blk_cell HX.out 3).trans rfl
  have hf3 := blk_frozen HX.out 3
  have hx4 : W.cell? ⟨p, 4, none⟩ = some (.int .i64 frm) := (blk_cell HX.out 4).trans rfl
  have hf4 := blk_frozen HX.out 4
  have hfr_ : (frm == 0) = false := beq_eq_false_iff_ne.2 hfr
  have HR := Aside0.mk hr
  clear hr
  have hsx : (s.extract 0 at_.toNat).size = at_.toNat := (by rw [ByteArray.size_extract]; omega)
  have hcc : whole.size + (s.extract 0 at_.toNat).size ≤ 9223372036854775807 := by omega
  have hcd := eq_false (Nat.not_lt.2 hcc)
  have HG := Aside0.mk hd
  clear hd
  clear hB hX hS hD hp hok hpk hc hl
  go_enter Tryd.func32, Tryd.ntmps32
  go_wp2_with (first | (go_at_call 51; refine (lines_comment.calls k s at_ _ HC.out).mono ?_; rintro e w1 ⟨rfl, hb⟩; clear hx2 hf2 hx3 hf3 hx4 hf4; have mX : Aside0 (RdAt p vo vb (line + 1) whole (frm) _) := ⟨blk_below (blk_put HX.out 2 _ rfl) hb⟩; have mS := Aside0.mk (Kd.S_below (Kd.S_far (p := ⟨p, 2, none⟩) HS.out (fun q hq => ne_ok HPK.out hq) (.int .i64 (line + 1))) hb); have mD := Aside0.mk (Kd.S_below (Kd.S_far (p := ⟨p, 2, none⟩) HD.out (fun q hq => ne_ok HPK.out hq) (.int .i64 (line + 1))) hb); have mB := Aside0.mk (below_step (below_set (j := 2) (v := .int .i64 (line + 1)) HB.out HP.out) hb); have mF := Aside0.mk (Fr.below (HF.out.set_p HX.out 2 (.int .i64 (line + 1))) hb); clear HX HS HD HB HF; have HX := mX; have HS := mS; have HD := mD; have HB := mB; have HF := mF; clear mX mS mD mB mF; have hx3 : w1.cell? ⟨p, 3, none⟩ = some (.string whole) := (blk_cell HX.out 3).trans rfl; have hf3 := blk_frozen HX.out 3; have hx4 : w1.cell? ⟨p, 4, none⟩ = some (.int .i64 (frm)) := (blk_cell HX.out 4).trans rfl; have hf4 := blk_frozen HX.out 4; clear hb) | (go_at_call 52; refine (lines_control.calls (s.extract 0 at_.toNat) rest _ _ HR.out).mono ?_; rintro e w2 ⟨rfl, hb⟩; clear hx3 hf3 hx4 hf4; have mX : Aside0 (RdAt p vo vb (line + 1) whole (frm) _) := ⟨blk_below HX.out hb⟩; have mS := Aside0.mk (Kd.S_below HS.out hb); have mD := Aside0.mk (Kd.S_below HD.out hb); have mB := Aside0.mk (below_step HB.out hb); have mF := Aside0.mk (Fr.below HF.out hb); clear HX HS HD HB HF; have HX := mX; have HS := mS; have HD := mD; have HB := mB; have HF := mF; clear mX mS mD mB mF; have hx3 : w2.cell? ⟨p, 3, none⟩ = some (.string whole) := (blk_cell HX.out 3).trans rfl; have hf3 := blk_frozen HX.out 3; have hx4 : w2.cell? ⟨p, 4, none⟩ = some (.int .i64 (frm)) := (blk_cell HX.out 4).trans rfl; have hf4 := blk_frozen HX.out 4; clear hb) | (go_at_call 34; clear hx3 hf3 hx4 hf4; have mX : Aside0 (RdAt p vo vb (line + 1) (whole ++ s.extract 0 at_.toNat) (frm) _) := ⟨(blk_put HX.out 3 _ rfl)⟩; have mS := Aside0.mk (Kd.S_far (p := ⟨p, 3, none⟩) HS.out (fun q hq => ne_ok HPK.out hq) (.string (whole ++ s.extract 0 at_.toNat))); have mD := Aside0.mk (Kd.S_far (p := ⟨p, 3, none⟩) HD.out (fun q hq => ne_ok HPK.out hq) (.string (whole ++ s.extract 0 at_.toNat))); have mB := Aside0.mk (below_set (j := 3) (v := .string (whole ++ s.extract 0 at_.toNat)) HB.out HP.out); have mF := Aside0.mk (HF.out.set_p HX.out 3 (.string (whole ++ s.extract 0 at_.toNat))); clear HX HS HD HB HF; have HX := mX; have HS := mS; have HD := mD; have HB := mB; have HF := mF; clear mX mS mD mB mF; refine (done_calls k w0 _ p ok vo vb out bad (line + 1) (whole ++ s.extract 0 at_.toNat) (frm) r1 r2 HB.out HX.out HP.out (fun q hq => HOK.out q (Nat.le_trans HF.out.size hq)) HPK.out HS.out HD.out HL.out HG.out).mono ?_; rintro e w3 ⟨rfl, vo', vb', hX', hS', hD', hB', hF'⟩; have HX3 := Aside0.mk hX'; have HS3 := Aside0.mk hS'; have HD3 := Aside0.mk hD'; have HB3 := Aside0.mk hB'; have HF3 := Aside0.mk (HF.out.trans hF'); clear hX' hS' hD' hB' hF' HX HS HD HB HF))
  first | go_end0 | ((try simp only [Exit.inBlock, Exit.then]); refine bodyPost_ret (results_none rfl _ _ _) rfl ?_)
  exact ⟨rfl, vo', vb', HX3.out, HS3.out, HD3.out, HB3.out, HF3.out⟩
set_option maxHeartbeats 8000000 in
set_option maxRecDepth 100000 in
theorem take_C0 (k : Nat) (w0 W : World) (p : Nat) (ok : Nat → Prop) (vo vb : Value) (out : List Rw) (bad : List Dg) (line : Int) (whole s : ByteArray) (at_ : Int)
    (hB : Below w0.heap.size w0 W) (hX : RdAt p vo vb line whole 0 W) (hp : w0.heap.size ≤ p) (hok : ∀ q, W.heap.size ≤ q → ok q) (hpk : ¬ ok p) (hl1 : 0 ≤ line) (hl2 : line ≤ 1000000000)
    (hS : Kd.S k35 35 W w0.heap.size ok vo out) (hD : Kd.S k37 37 W w0.heap.size ok vb bad) (hl : out.length ≤ 1000000000 ∧ bad.length ≤ 1000000000) (hz : whole.size + s.size ≤ 140737488355328) (hc : lines_comment.f k s = some at_)
    (hat : at_ < 0) (t : Int) (ht : lines_tail.f s = some t) (hodd : Int.tmod t 2 = 1) (hs : 0 < s.size) :
    Calls Tryd.prog 32 #[.pointer (some ⟨p, 0, none⟩), .string s] W fun e w' => e = .returned (.tuple #[]) ∧ ∃ vo' vb', RdAt p vo' vb' (line + 1) (whole ++ s.extract 0 (s.size - 1)) (line + 1) w' ∧ Kd.S k35 35 w' w0.heap.size ok vo' (out) ∧ Kd.S k37 37 w' w0.heap.size ok vb' (bad) ∧ Below w0.heap.size w0 w' ∧ Fr ok p W w' := by
  have hu55 := Tryd.underlying55
  have HB := Aside0.mk hB
  have HX := Aside0.mk hX
  have HS := Aside0.mk hS
  have HD := Aside0.mk hD
  have HP := Aside0.mk hp
  have HOK := Aside0.mk hok
  have HPK := Aside0.mk hpk
  have HC := Aside0.mk hc
  have HL := Aside0.mk hl
  have HF := Aside0.mk (Fr.refl ok p W)
  have hx2 : W.cell? ⟨p, 2, none⟩ = some (.int .i64 line) := (blk_cell HX.out 2).trans rfl
  have hf2 := blk_frozen HX.out 2
  have hx3 : W.cell? ⟨p, 3, none⟩ = some (.string whole) := (blk_cell HX.out 3).trans rfl
  have hf3 := blk_frozen HX.out 3
  have hx4 : W.cell? ⟨p, 4, none⟩ = some (.int .i64 0) := (blk_cell HX.out 4).trans rfl
  have hf4 := blk_frozen HX.out 4
  have HT := Aside0.mk ht
  clear ht
  have hsx : (s.extract 0 (s.size - 1)).size = s.size - 1 := (by rw [ByteArray.size_extract]; omega)
  have hcc : whole.size + (s.extract 0 (s.size - 1)).size ≤ 9223372036854775807 := by omega
  have hcd := eq_false (Nat.not_lt.2 hcc)
  have hc1 : (0 : Int) ≤ (s.size : Int) - 1 := by omega
  have hc2 : (s.size : Int) - 1 ≤ (s.size : Int) := by omega
  have hc3 : ((s.size : Int) - 1).toNat = s.size - 1 := by omega
  have hod_ : (Int.tmod t 2 == 1) = true := beq_iff_eq.2 hodd
  clear hB hX hS hD hp hok hpk hc hl
  go_enter Tryd.func32, Tryd.ntmps32
  go_wp2_with (first | (go_at_call 51; refine (lines_comment.calls k s at_ _ HC.out).mono ?_; rintro e w1 ⟨rfl, hb⟩; clear hx2 hf2 hx3 hf3 hx4 hf4; have mX : Aside0 (RdAt p vo vb (line + 1) whole (line + 1) _) := ⟨blk_below (blk_put (blk_put HX.out 2 _ rfl) 4 _ rfl) hb⟩; have mS := Aside0.mk (Kd.S_below (Kd.S_far (p := ⟨p, 4, none⟩) (Kd.S_far (p := ⟨p, 2, none⟩) HS.out (fun q hq => ne_ok HPK.out hq) (.int .i64 (line + 1))) (fun q hq => ne_ok HPK.out hq) (.int .i64 (line + 1))) hb); have mD := Aside0.mk (Kd.S_below (Kd.S_far (p := ⟨p, 4, none⟩) (Kd.S_far (p := ⟨p, 2, none⟩) HD.out (fun q hq => ne_ok HPK.out hq) (.int .i64 (line + 1))) (fun q hq => ne_ok HPK.out hq) (.int .i64 (line + 1))) hb); have mB := Aside0.mk (below_step (below_set (j := 4) (v := .int .i64 (line + 1)) (below_set (j := 2) (v := .int .i64 (line + 1)) HB.out HP.out) HP.out) hb); have mF := Aside0.mk (Fr.below ((HF.out.set_p HX.out 2 (.int .i64 (line + 1))).set_p (blk_put HX.out 2 _ rfl) 4 (.int .i64 (line + 1))) hb); clear HX HS HD HB HF; have HX := mX; have HS := mS; have HD := mD; have HB := mB; have HF := mF; clear mX mS mD mB mF; have hx3 : w1.cell? ⟨p, 3, none⟩ = some (.string whole) := (blk_cell HX.out 3).trans rfl; have hf3 := blk_frozen HX.out 3; have hx4 : w1.cell? ⟨p, 4, none⟩ = some (.int .i64 (line + 1)) := (blk_cell HX.out 4).trans rfl; have hf4 := blk_frozen HX.out 4; clear hb) | (go_at_call 47; refine (lines_tail.calls s t _ HT.out).mono ?_; rintro e w2 ⟨rfl, hb⟩; clear hx3 hf3 hx4 hf4; have mX : Aside0 (RdAt p vo vb (line + 1) whole (line + 1) _) := ⟨blk_below HX.out hb⟩; have mS := Aside0.mk (Kd.S_below HS.out hb); have mD := Aside0.mk (Kd.S_below HD.out hb); have mB := Aside0.mk (below_step HB.out hb); have mF := Aside0.mk (Fr.below HF.out hb); clear HX HS HD HB HF; have HX := mX; have HS := mS; have HD := mD; have HB := mB; have HF := mF; clear mX mS mD mB mF; have hx3 : w2.cell? ⟨p, 3, none⟩ = some (.string whole) := (blk_cell HX.out 3).trans rfl; have hf3 := blk_frozen HX.out 3; have hx4 : w2.cell? ⟨p, 4, none⟩ = some (.int .i64 (line + 1)) := (blk_cell HX.out 4).trans rfl; have hf4 := blk_frozen HX.out 4; clear hb))
  have mixed : Tryd.prog.follows .mixedOrders = true := by kernel_rfl
  go_region_o
  go_wp2
  first | go_end0 | ((try simp only [Exit.inBlock, Exit.then]); refine bodyPost_ret (results_none rfl _ _ _) rfl ?_)
  exact ⟨rfl, vo, vb, blk_put HX.out 3 _ rfl, Kd.S_far (p := ⟨p, 3, none⟩) (Kd.S_drew HS.out) (fun q hq => ne_ok HPK.out hq) _, Kd.S_far (p := ⟨p, 3, none⟩) (Kd.S_drew HD.out) (fun q hq => ne_ok HPK.out hq) _, below_set (below_drew HB.out) HP.out, (HF.out.below (below_drew (Below.refl _ _))).set_p (show w2.drew.heap[p]? = _ from HX.out) 3 _⟩
set_option maxHeartbeats 8000000 in
set_option maxRecDepth 100000 in
theorem take_D0 (k : Nat) (w0 W : World) (p : Nat) (ok : Nat → Prop) (vo vb : Value) (out : List Rw) (bad : List Dg) (line : Int) (whole s : ByteArray) (at_ : Int)
    (hB : Below w0.heap.size w0 W) (hX : RdAt p vo vb line whole 0 W) (hp : w0.heap.size ≤ p) (hok : ∀ q, W.heap.size ≤ q → ok q) (hpk : ¬ ok p) (hl1 : 0 ≤ line) (hl2 : line ≤ 1000000000)
    (hS : Kd.S k35 35 W w0.heap.size ok vo out) (hD : Kd.S k37 37 W w0.heap.size ok vb bad) (hl : out.length ≤ 1000000000 ∧ bad.length ≤ 1000000000) (hz : whole.size + s.size ≤ 140737488355328) (hc : lines_comment.f k s = some at_)
    (hat : at_ < 0) (t : Int) (ht : lines_tail.f s = some t) (hodd : Int.tmod t 2 ≠ 1) (r1 : List Rw) (r2 : List Dg) (hd : doneF k (line + 1) (whole ++ s) out bad = some (r1, r2)) :
    Calls Tryd.prog 32 #[.pointer (some ⟨p, 0, none⟩), .string s] W fun e w' => e = .returned (.tuple #[]) ∧ ∃ vo' vb', RdAt p vo' vb' (line + 1) (⟨#[]⟩) (0) w' ∧ Kd.S k35 35 w' w0.heap.size ok vo' (r1) ∧ Kd.S k37 37 w' w0.heap.size ok vb' (r2) ∧ Below w0.heap.size w0 w' ∧ Fr ok p W w' := by
  have hu55 := Tryd.underlying55
  have HB := Aside0.mk hB
  have HX := Aside0.mk hX
  have HS := Aside0.mk hS
  have HD := Aside0.mk hD
  have HP := Aside0.mk hp
  have HOK := Aside0.mk hok
  have HPK := Aside0.mk hpk
  have HC := Aside0.mk hc
  have HL := Aside0.mk hl
  have HF := Aside0.mk (Fr.refl ok p W)
  have hx2 : W.cell? ⟨p, 2, none⟩ = some (.int .i64 line) := (blk_cell HX.out 2).trans rfl
  have hf2 := blk_frozen HX.out 2
  have hx3 : W.cell? ⟨p, 3, none⟩ = some (.string whole) := (blk_cell HX.out 3).trans rfl
  have hf3 := blk_frozen HX.out 3
  have hx4 : W.cell? ⟨p, 4, none⟩ = some (.int .i64 0) := (blk_cell HX.out 4).trans rfl
  have hf4 := blk_frozen HX.out 4
  have HT := Aside0.mk ht
  clear ht
  have hcc : whole.size + s.size ≤ 9223372036854775807 := by omega
  have hcd := eq_false (Nat.not_lt.2 hcc)
  have HG := Aside0.mk hd
  clear hd
  have hod_ : (Int.tmod t 2 == 1) = false := beq_eq_false_iff_ne.2 hodd
  clear hB hX hS hD hp hok hpk hc hl
  go_enter Tryd.func32, Tryd.ntmps32
  go_wp2_with (first | (go_at_call 51; refine (lines_comment.calls k s at_ _ HC.out).mono ?_; rintro e w1 ⟨rfl, hb⟩; clear hx2 hf2 hx3 hf3 hx4 hf4; have mX : Aside0 (RdAt p vo vb (line + 1) whole (line + 1) _) := ⟨blk_below (blk_put (blk_put HX.out 2 _ rfl) 4 _ rfl) hb⟩; have mS := Aside0.mk (Kd.S_below (Kd.S_far (p := ⟨p, 4, none⟩) (Kd.S_far (p := ⟨p, 2, none⟩) HS.out (fun q hq => ne_ok HPK.out hq) (.int .i64 (line + 1))) (fun q hq => ne_ok HPK.out hq) (.int .i64 (line + 1))) hb); have mD := Aside0.mk (Kd.S_below (Kd.S_far (p := ⟨p, 4, none⟩) (Kd.S_far (p := ⟨p, 2, none⟩) HD.out (fun q hq => ne_ok HPK.out hq) (.int .i64 (line + 1))) (fun q hq => ne_ok HPK.out hq) (.int .i64 (line + 1))) hb); have mB := Aside0.mk (below_step (below_set (j := 4) (v := .int .i64 (line + 1)) (below_set (j := 2) (v := .int .i64 (line + 1)) HB.out HP.out) HP.out) hb); have mF := Aside0.mk (Fr.below ((HF.out.set_p HX.out 2 (.int .i64 (line + 1))).set_p (blk_put HX.out 2 _ rfl) 4 (.int .i64 (line + 1))) hb); clear HX HS HD HB HF; have HX := mX; have HS := mS; have HD := mD; have HB := mB; have HF := mF; clear mX mS mD mB mF; have hx3 : w1.cell? ⟨p, 3, none⟩ = some (.string whole) := (blk_cell HX.out 3).trans rfl; have hf3 := blk_frozen HX.out 3; have hx4 : w1.cell? ⟨p, 4, none⟩ = some (.int .i64 (line + 1)) := (blk_cell HX.out 4).trans rfl; have hf4 := blk_frozen HX.out 4; clear hb) | (go_at_call 47; refine (lines_tail.calls s t _ HT.out).mono ?_; rintro e w2 ⟨rfl, hb⟩; clear hx3 hf3 hx4 hf4; have mX : Aside0 (RdAt p vo vb (line + 1) whole (line + 1) _) := ⟨blk_below HX.out hb⟩; have mS := Aside0.mk (Kd.S_below HS.out hb); have mD := Aside0.mk (Kd.S_below HD.out hb); have mB := Aside0.mk (below_step HB.out hb); have mF := Aside0.mk (Fr.below HF.out hb); clear HX HS HD HB HF; have HX := mX; have HS := mS; have HD := mD; have HB := mB; have HF := mF; clear mX mS mD mB mF; have hx3 : w2.cell? ⟨p, 3, none⟩ = some (.string whole) := (blk_cell HX.out 3).trans rfl; have hf3 := blk_frozen HX.out 3; have hx4 : w2.cell? ⟨p, 4, none⟩ = some (.int .i64 (line + 1)) := (blk_cell HX.out 4).trans rfl; have hf4 := blk_frozen HX.out 4; clear hb) | (go_at_call 34; clear hx3 hf3 hx4 hf4; have mX : Aside0 (RdAt p vo vb (line + 1) (whole ++ s) (line + 1) _) := ⟨(blk_put HX.out 3 _ rfl)⟩; have mS := Aside0.mk (Kd.S_far (p := ⟨p, 3, none⟩) HS.out (fun q hq => ne_ok HPK.out hq) (.string (whole ++ s))); have mD := Aside0.mk (Kd.S_far (p := ⟨p, 3, none⟩) HD.out (fun q hq => ne_ok HPK.out hq) (.string (whole ++ s))); have mB := Aside0.mk (below_set (j := 3) (v := .string (whole ++ s)) HB.out HP.out); have mF := Aside0.mk (HF.out.set_p HX.out 3 (.string (whole ++ s))); clear HX HS HD HB HF; have HX := mX; have HS := mS; have HD := mD; have HB := mB; have HF := mF; clear mX mS mD mB mF; refine (done_calls k w0 _ p ok vo vb out bad (line + 1) (whole ++ s) (line + 1) r1 r2 HB.out HX.out HP.out (fun q hq => HOK.out q (Nat.le_trans HF.out.size hq)) HPK.out HS.out HD.out HL.out HG.out).mono ?_; rintro e w3 ⟨rfl, vo', vb', hX', hS', hD', hB', hF'⟩; have HX3 := Aside0.mk hX'; have HS3 := Aside0.mk hS'; have HD3 := Aside0.mk hD'; have HB3 := Aside0.mk hB'; have HF3 := Aside0.mk (HF.out.trans hF'); clear hX' hS' hD' hB' hF' HX HS HD HB HF))
  first | go_end0 | ((try simp only [Exit.inBlock, Exit.then]); refine bodyPost_ret (results_none rfl _ _ _) rfl ?_)
  exact ⟨rfl, vo', vb', HX3.out, HS3.out, HD3.out, HB3.out, HF3.out⟩
set_option maxHeartbeats 8000000 in
set_option maxRecDepth 100000 in
theorem take_C1 (k : Nat) (w0 W : World) (p : Nat) (ok : Nat → Prop) (vo vb : Value) (out : List Rw) (bad : List Dg) (line : Int) (whole s : ByteArray) (frm : Int) (hfr : frm ≠ 0) (at_ : Int)
    (hB : Below w0.heap.size w0 W) (hX : RdAt p vo vb line whole frm W) (hp : w0.heap.size ≤ p) (hok : ∀ q, W.heap.size ≤ q → ok q) (hpk : ¬ ok p) (hl1 : 0 ≤ line) (hl2 : line ≤ 1000000000)
    (hS : Kd.S k35 35 W w0.heap.size ok vo out) (hD : Kd.S k37 37 W w0.heap.size ok vb bad) (hl : out.length ≤ 1000000000 ∧ bad.length ≤ 1000000000) (hz : whole.size + s.size ≤ 140737488355328) (hc : lines_comment.f k s = some at_)
    (hat : at_ < 0) (t : Int) (ht : lines_tail.f s = some t) (hodd : Int.tmod t 2 = 1) (hs : 0 < s.size) :
    Calls Tryd.prog 32 #[.pointer (some ⟨p, 0, none⟩), .string s] W fun e w' => e = .returned (.tuple #[]) ∧ ∃ vo' vb', RdAt p vo' vb' (line + 1) (whole ++ s.extract 0 (s.size - 1)) (frm) w' ∧ Kd.S k35 35 w' w0.heap.size ok vo' (out) ∧ Kd.S k37 37 w' w0.heap.size ok vb' (bad) ∧ Below w0.heap.size w0 w' ∧ Fr ok p W w' := by
  have hu55 := Tryd.underlying55
  have HB := Aside0.mk hB
  have HX := Aside0.mk hX
  have HS := Aside0.mk hS
  have HD := Aside0.mk hD
  have HP := Aside0.mk hp
  have HOK := Aside0.mk hok
  have HPK := Aside0.mk hpk
  have HC := Aside0.mk hc
  have HL := Aside0.mk hl
  have HF := Aside0.mk (Fr.refl ok p W)
  have hx2 : W.cell? ⟨p, 2, none⟩ = some (.int .i64 line) := (blk_cell HX.out 2).trans rfl
  have hf2 := blk_frozen HX.out 2
  have hx3 : W.cell? ⟨p, 3, none⟩ = some (.string whole) := (blk_cell HX.out 3).trans rfl
  have hf3 := blk_frozen HX.out 3
  have hx4 : W.cell? ⟨p, 4, none⟩ = some (.int .i64 frm) := (blk_cell HX.out 4).trans rfl
  have hf4 := blk_frozen HX.out 4
  have hfr_ : (frm == 0) = false := beq_eq_false_iff_ne.2 hfr
  have HT := Aside0.mk ht
  clear ht
  have hsx : (s.extract 0 (s.size - 1)).size = s.size - 1 := (by rw [ByteArray.size_extract]; omega)
  have hcc : whole.size + (s.extract 0 (s.size - 1)).size ≤ 9223372036854775807 := by omega
  have hcd := eq_false (Nat.not_lt.2 hcc)
  have hc1 : (0 : Int) ≤ (s.size : Int) - 1 := by omega
  have hc2 : (s.size : Int) - 1 ≤ (s.size : Int) := by omega
  have hc3 : ((s.size : Int) - 1).toNat = s.size - 1 := by omega
  have hod_ : (Int.tmod t 2 == 1) = true := beq_iff_eq.2 hodd
  clear hB hX hS hD hp hok hpk hc hl
  go_enter Tryd.func32, Tryd.ntmps32
  go_wp2_with (first | (go_at_call 51; refine (lines_comment.calls k s at_ _ HC.out).mono ?_; rintro e w1 ⟨rfl, hb⟩; clear hx2 hf2 hx3 hf3 hx4 hf4; have mX : Aside0 (RdAt p vo vb (line + 1) whole (frm) _) := ⟨blk_below (blk_put HX.out 2 _ rfl) hb⟩; have mS := Aside0.mk (Kd.S_below (Kd.S_far (p := ⟨p, 2, none⟩) HS.out (fun q hq => ne_ok HPK.out hq) (.int .i64 (line + 1))) hb); have mD := Aside0.mk (Kd.S_below (Kd.S_far (p := ⟨p, 2, none⟩) HD.out (fun q hq => ne_ok HPK.out hq) (.int .i64 (line + 1))) hb); have mB := Aside0.mk (below_step (below_set (j := 2) (v := .int .i64 (line + 1)) HB.out HP.out) hb); have mF := Aside0.mk (Fr.below (HF.out.set_p HX.out 2 (.int .i64 (line + 1))) hb); clear HX HS HD HB HF; have HX := mX; have HS := mS; have HD := mD; have HB := mB; have HF := mF; clear mX mS mD mB mF; have hx3 : w1.cell? ⟨p, 3, none⟩ = some (.string whole) := (blk_cell HX.out 3).trans rfl; have hf3 := blk_frozen HX.out 3; have hx4 : w1.cell? ⟨p, 4, none⟩ = some (.int .i64 (frm)) := (blk_cell HX.out 4).trans rfl; have hf4 := blk_frozen HX.out 4; clear hb) | (go_at_call 47; refine (lines_tail.calls s t _ HT.out).mono ?_; rintro e w2 ⟨rfl, hb⟩; clear hx3 hf3 hx4 hf4; have mX : Aside0 (RdAt p vo vb (line + 1) whole (frm) _) := ⟨blk_below HX.out hb⟩; have mS := Aside0.mk (Kd.S_below HS.out hb); have mD := Aside0.mk (Kd.S_below HD.out hb); have mB := Aside0.mk (below_step HB.out hb); have mF := Aside0.mk (Fr.below HF.out hb); clear HX HS HD HB HF; have HX := mX; have HS := mS; have HD := mD; have HB := mB; have HF := mF; clear mX mS mD mB mF; have hx3 : w2.cell? ⟨p, 3, none⟩ = some (.string whole) := (blk_cell HX.out 3).trans rfl; have hf3 := blk_frozen HX.out 3; have hx4 : w2.cell? ⟨p, 4, none⟩ = some (.int .i64 (frm)) := (blk_cell HX.out 4).trans rfl; have hf4 := blk_frozen HX.out 4; clear hb))
  have mixed : Tryd.prog.follows .mixedOrders = true := by kernel_rfl
  go_region_o
  go_wp2
  first | go_end0 | ((try simp only [Exit.inBlock, Exit.then]); refine bodyPost_ret (results_none rfl _ _ _) rfl ?_)
  exact ⟨rfl, vo, vb, blk_put HX.out 3 _ rfl, Kd.S_far (p := ⟨p, 3, none⟩) (Kd.S_drew HS.out) (fun q hq => ne_ok HPK.out hq) _, Kd.S_far (p := ⟨p, 3, none⟩) (Kd.S_drew HD.out) (fun q hq => ne_ok HPK.out hq) _, below_set (below_drew HB.out) HP.out, (HF.out.below (below_drew (Below.refl _ _))).set_p (show w2.drew.heap[p]? = _ from HX.out) 3 _⟩
set_option maxHeartbeats 8000000 in
set_option maxRecDepth 100000 in
theorem take_D1 (k : Nat) (w0 W : World) (p : Nat) (ok : Nat → Prop) (vo vb : Value) (out : List Rw) (bad : List Dg) (line : Int) (whole s : ByteArray) (frm : Int) (hfr : frm ≠ 0) (at_ : Int)
    (hB : Below w0.heap.size w0 W) (hX : RdAt p vo vb line whole frm W) (hp : w0.heap.size ≤ p) (hok : ∀ q, W.heap.size ≤ q → ok q) (hpk : ¬ ok p) (hl1 : 0 ≤ line) (hl2 : line ≤ 1000000000)
    (hS : Kd.S k35 35 W w0.heap.size ok vo out) (hD : Kd.S k37 37 W w0.heap.size ok vb bad) (hl : out.length ≤ 1000000000 ∧ bad.length ≤ 1000000000) (hz : whole.size + s.size ≤ 140737488355328) (hc : lines_comment.f k s = some at_)
    (hat : at_ < 0) (t : Int) (ht : lines_tail.f s = some t) (hodd : Int.tmod t 2 ≠ 1) (r1 : List Rw) (r2 : List Dg) (hd : doneF k (frm) (whole ++ s) out bad = some (r1, r2)) :
    Calls Tryd.prog 32 #[.pointer (some ⟨p, 0, none⟩), .string s] W fun e w' => e = .returned (.tuple #[]) ∧ ∃ vo' vb', RdAt p vo' vb' (line + 1) (⟨#[]⟩) (0) w' ∧ Kd.S k35 35 w' w0.heap.size ok vo' (r1) ∧ Kd.S k37 37 w' w0.heap.size ok vb' (r2) ∧ Below w0.heap.size w0 w' ∧ Fr ok p W w' := by
  have hu55 := Tryd.underlying55
  have HB := Aside0.mk hB
  have HX := Aside0.mk hX
  have HS := Aside0.mk hS
  have HD := Aside0.mk hD
  have HP := Aside0.mk hp
  have HOK := Aside0.mk hok
  have HPK := Aside0.mk hpk
  have HC := Aside0.mk hc
  have HL := Aside0.mk hl
  have HF := Aside0.mk (Fr.refl ok p W)
  have hx2 : W.cell? ⟨p, 2, none⟩ = some (.int .i64 line) := (blk_cell HX.out 2).trans rfl
  have hf2 := blk_frozen HX.out 2
  have hx3 : W.cell? ⟨p, 3, none⟩ = some (.string whole) := (blk_cell HX.out 3).trans rfl
  have hf3 := blk_frozen HX.out 3
  have hx4 : W.cell? ⟨p, 4, none⟩ = some (.int .i64 frm) := (blk_cell HX.out 4).trans rfl
  have hf4 := blk_frozen HX.out 4
  have hfr_ : (frm == 0) = false := beq_eq_false_iff_ne.2 hfr
  have HT := Aside0.mk ht
  clear ht
  have hcc : whole.size + s.size ≤ 9223372036854775807 := by omega
  have hcd := eq_false (Nat.not_lt.2 hcc)
  have HG := Aside0.mk hd
  clear hd
  have hod_ : (Int.tmod t 2 == 1) = false := beq_eq_false_iff_ne.2 hodd
  clear hB hX hS hD hp hok hpk hc hl
  go_enter Tryd.func32, Tryd.ntmps32
  go_wp2_with (first | (go_at_call 51; refine (lines_comment.calls k s at_ _ HC.out).mono ?_; rintro e w1 ⟨rfl, hb⟩; clear hx2 hf2 hx3 hf3 hx4 hf4; have mX : Aside0 (RdAt p vo vb (line + 1) whole (frm) _) := ⟨blk_below (blk_put HX.out 2 _ rfl) hb⟩; have mS := Aside0.mk (Kd.S_below (Kd.S_far (p := ⟨p, 2, none⟩) HS.out (fun q hq => ne_ok HPK.out hq) (.int .i64 (line + 1))) hb); have mD := Aside0.mk (Kd.S_below (Kd.S_far (p := ⟨p, 2, none⟩) HD.out (fun q hq => ne_ok HPK.out hq) (.int .i64 (line + 1))) hb); have mB := Aside0.mk (below_step (below_set (j := 2) (v := .int .i64 (line + 1)) HB.out HP.out) hb); have mF := Aside0.mk (Fr.below (HF.out.set_p HX.out 2 (.int .i64 (line + 1))) hb); clear HX HS HD HB HF; have HX := mX; have HS := mS; have HD := mD; have HB := mB; have HF := mF; clear mX mS mD mB mF; have hx3 : w1.cell? ⟨p, 3, none⟩ = some (.string whole) := (blk_cell HX.out 3).trans rfl; have hf3 := blk_frozen HX.out 3; have hx4 : w1.cell? ⟨p, 4, none⟩ = some (.int .i64 (frm)) := (blk_cell HX.out 4).trans rfl; have hf4 := blk_frozen HX.out 4; clear hb) | (go_at_call 47; refine (lines_tail.calls s t _ HT.out).mono ?_; rintro e w2 ⟨rfl, hb⟩; clear hx3 hf3 hx4 hf4; have mX : Aside0 (RdAt p vo vb (line + 1) whole (frm) _) := ⟨blk_below HX.out hb⟩; have mS := Aside0.mk (Kd.S_below HS.out hb); have mD := Aside0.mk (Kd.S_below HD.out hb); have mB := Aside0.mk (below_step HB.out hb); have mF := Aside0.mk (Fr.below HF.out hb); clear HX HS HD HB HF; have HX := mX; have HS := mS; have HD := mD; have HB := mB; have HF := mF; clear mX mS mD mB mF; have hx3 : w2.cell? ⟨p, 3, none⟩ = some (.string whole) := (blk_cell HX.out 3).trans rfl; have hf3 := blk_frozen HX.out 3; have hx4 : w2.cell? ⟨p, 4, none⟩ = some (.int .i64 (frm)) := (blk_cell HX.out 4).trans rfl; have hf4 := blk_frozen HX.out 4; clear hb) | (go_at_call 34; clear hx3 hf3 hx4 hf4; have mX : Aside0 (RdAt p vo vb (line + 1) (whole ++ s) (frm) _) := ⟨(blk_put HX.out 3 _ rfl)⟩; have mS := Aside0.mk (Kd.S_far (p := ⟨p, 3, none⟩) HS.out (fun q hq => ne_ok HPK.out hq) (.string (whole ++ s))); have mD := Aside0.mk (Kd.S_far (p := ⟨p, 3, none⟩) HD.out (fun q hq => ne_ok HPK.out hq) (.string (whole ++ s))); have mB := Aside0.mk (below_set (j := 3) (v := .string (whole ++ s)) HB.out HP.out); have mF := Aside0.mk (HF.out.set_p HX.out 3 (.string (whole ++ s))); clear HX HS HD HB HF; have HX := mX; have HS := mS; have HD := mD; have HB := mB; have HF := mF; clear mX mS mD mB mF; refine (done_calls k w0 _ p ok vo vb out bad (line + 1) (whole ++ s) (frm) r1 r2 HB.out HX.out HP.out (fun q hq => HOK.out q (Nat.le_trans HF.out.size hq)) HPK.out HS.out HD.out HL.out HG.out).mono ?_; rintro e w3 ⟨rfl, vo', vb', hX', hS', hD', hB', hF'⟩; have HX3 := Aside0.mk hX'; have HS3 := Aside0.mk hS'; have HD3 := Aside0.mk hD'; have HB3 := Aside0.mk hB'; have HF3 := Aside0.mk (HF.out.trans hF'); clear hX' hS' hD' hB' hF' HX HS HD HB HF))
  first | go_end0 | ((try simp only [Exit.inBlock, Exit.then]); refine bodyPost_ret (results_none rfl _ _ _) rfl ?_)
  exact ⟨rfl, vo', vb', HX3.out, HS3.out, HD3.out, HB3.out, HF3.out⟩
/-- What the reader holds. -/
structure RdSt where
  line : Int
  whole : ByteArray
  frm : Int
  out : List Rw
  bad : List Dg
/-- A line of input. -/
def takeF (k : Nat) (x : RdSt) (s : ByteArray) : Option RdSt :=
  if x.whole.size + s.size ≤ 140737488355328 then ((lines_comment.f k s).bind fun at_ =>
    if 0 ≤ at_ then (if at_ ≤ s.size then ((lines_control.f (s.extract 0 at_.toNat)).bind fun c =>
      if x.frm = 0 ∧ ((s.extract 0 at_.toNat).toList = [] ∨ (c.2 = true ∧ c.1.toList = [])) then some ⟨x.line + 1, x.whole, 0, x.out, x.bad⟩
      else ((doneF k (if x.frm = 0 then x.line + 1 else x.frm) (x.whole ++ s.extract 0 at_.toNat) x.out x.bad).bind fun r => some ⟨x.line + 1, ⟨#[]⟩, 0, r.1, r.2⟩)) else none)
    else ((lines_tail.f s).bind fun t => if Int.tmod t 2 = 1 then (if 0 < s.size then some ⟨x.line + 1, x.whole ++ s.extract 0 (s.size - 1), if x.frm = 0 then x.line + 1 else x.frm, x.out, x.bad⟩ else none)
      else ((doneF k (if x.frm = 0 then x.line + 1 else x.frm) (x.whole ++ s) x.out x.bad).bind fun r => some ⟨x.line + 1, ⟨#[]⟩, 0, r.1, r.2⟩)))
  else none
theorem takeF_mono (x : RdSt) (s : ByteArray) (k : Nat) : LeO (takeF k x s) (takeF (k + 1) x s) := by
  intro r h
  unfold takeF at h ⊢
  split at h
  · rename_i hz
    rw [if_pos hz]
    obtain ⟨at_, h1, h2⟩ := Option.bind_eq_some_iff.1 h
    rw [lines_comment.mono _ k at_ h1, Option.bind_some]
    split at h2
    · rename_i ha
      rw [if_pos ha]
      split at h2
      · rename_i hb
        rw [if_pos hb]
        obtain ⟨c, h3, h4⟩ := Option.bind_eq_some_iff.1 h2
        rw [h3, Option.bind_some]
        split at h4
        · rename_i hq
          rw [if_pos hq]
          exact h4
        · rename_i hq
          rw [if_neg hq]
          obtain ⟨d, h5, h6⟩ := Option.bind_eq_some_iff.1 h4
          rw [doneF_mono _ _ _ _ k d h5, Option.bind_some]
          exact h6
      · cases h2
    · rename_i ha
      rw [if_neg ha]
      obtain ⟨t, h3, h4⟩ := Option.bind_eq_some_iff.1 h2
      rw [h3, Option.bind_some]
      split at h4
      · rename_i hq
        rw [if_pos hq]
        exact h4
      · rename_i hq
        rw [if_neg hq]
        obtain ⟨d, h5, h6⟩ := Option.bind_eq_some_iff.1 h4
        rw [doneF_mono _ _ _ _ k d h5, Option.bind_some]
        exact h6
  · cases h
theorem take_calls (k : Nat) (w0 W : World) (p : Nat) (ok : Nat → Prop) (vo vb : Value) (x y : RdSt) (s : ByteArray)
    (hB : Below w0.heap.size w0 W) (hX : RdAt p vo vb x.line x.whole x.frm W) (hp : w0.heap.size ≤ p) (hok : ∀ q, W.heap.size ≤ q → ok q) (hpk : ¬ ok p) (hl1 : 0 ≤ x.line) (hl2 : x.line ≤ 1000000000)
    (hS : Kd.S k35 35 W w0.heap.size ok vo x.out) (hD : Kd.S k37 37 W w0.heap.size ok vb x.bad) (hl : x.out.length ≤ 1000000000 ∧ x.bad.length ≤ 1000000000)
    (h : takeF k x s = some y) :
    Calls Tryd.prog 32 #[.pointer (some ⟨p, 0, none⟩), .string s] W fun e w' => e = .returned (.tuple #[]) ∧ ∃ vo' vb', RdAt p vo' vb' y.line y.whole y.frm w' ∧ Kd.S k35 35 w' w0.heap.size ok vo' y.out ∧ Kd.S k37 37 w' w0.heap.size ok vb' y.bad ∧ Below w0.heap.size w0 w' ∧ Fr ok p W w' := by
  obtain ⟨line, whole, frm, out, bad⟩ := x
  unfold takeF at h
  simp only at h hX hl1 hl2 hS hD hl
  split at h
  · rename_i hz
    obtain ⟨at_, h1, h2⟩ := Option.bind_eq_some_iff.1 h
    split at h2
    · rename_i ha
      split at h2
      · rename_i hb
        obtain ⟨⟨rest, is⟩, h3, h4⟩ := Option.bind_eq_some_iff.1 h2
        simp only at h4
        by_cases hf : frm = 0
        · subst hf
          by_cases hem : (s.extract 0 at_.toNat).toList = []
          · rw [if_pos ⟨rfl, .inl hem⟩] at h4
            obtain rfl := Option.some.inj h4
            exact take_A1 k w0 W p ok vo vb out bad line whole s at_ hB hX hp hok hpk hl1 hl2 hS hD hl hz h1 ha hb rest is h3 hem
          · cases is with
            | false =>
              rw [if_neg (by rintro ⟨_, e | e⟩; exact hem e; exact absurd e.1 (by decide)), if_pos rfl] at h4
              obtain ⟨⟨r1, r2⟩, h5, h6⟩ := Option.bind_eq_some_iff.1 h4
              obtain rfl := Option.some.inj h6
              exact take_B1 k w0 W p ok vo vb out bad line whole s at_ hB hX hp hok hpk hl1 hl2 hS hD hl hz h1 ha hb rest h3 hem r1 r2 h5
            | true =>
              by_cases hre : rest.toList = []
              · rw [if_pos ⟨rfl, .inr ⟨rfl, hre⟩⟩] at h4
                obtain rfl := Option.some.inj h4
                exact take_A2 k w0 W p ok vo vb out bad line whole s at_ hB hX hp hok hpk hl1 hl2 hS hD hl hz h1 ha hb rest h3 hem hre
              · rw [if_neg (by rintro ⟨_, e | e⟩; exact hem e; exact hre e.2), if_pos rfl] at h4
                obtain ⟨⟨r1, r2⟩, h5, h6⟩ := Option.bind_eq_some_iff.1 h4
                obtain rfl := Option.some.inj h6
                exact take_B2 k w0 W p ok vo vb out bad line whole s at_ hB hX hp hok hpk hl1 hl2 hS hD hl hz h1 ha hb rest h3 hem hre r1 r2 h5
        · rw [if_neg (fun e => hf e.1), if_neg hf] at h4
          obtain ⟨⟨r1, r2⟩, h5, h6⟩ := Option.bind_eq_some_iff.1 h4
          obtain rfl := Option.some.inj h6
          exact take_B3 k w0 W p ok vo vb out bad line whole s frm hf at_ hB hX hp hok hpk hl1 hl2 hS hD hl hz h1 ha hb rest is h3 r1 r2 h5
      · cases h2
    · rename_i ha
      obtain ⟨t, h3, h4⟩ := Option.bind_eq_some_iff.1 h2
      split at h4
      · rename_i ho
        split at h4
        · rename_i hs
          obtain rfl := Option.some.inj h4
          by_cases hf : frm = 0
          · subst hf
            rw [if_pos rfl]
            exact take_C0 k w0 W p ok vo vb out bad line whole s at_ hB hX hp hok hpk hl1 hl2 hS hD hl hz h1 (by omega) t h3 ho hs
          · rw [if_neg hf]
            exact take_C1 k w0 W p ok vo vb out bad line whole s frm hf at_ hB hX hp hok hpk hl1 hl2 hS hD hl hz h1 (by omega) t h3 ho hs
        · cases h4
      · rename_i ho
        obtain ⟨⟨r1, r2⟩, h5, h6⟩ := Option.bind_eq_some_iff.1 h4
        obtain rfl := Option.some.inj h6
        by_cases hf : frm = 0
        · subst hf
          rw [if_pos rfl] at h5
          exact take_D0 k w0 W p ok vo vb out bad line whole s at_ hB hX hp hok hpk hl1 hl2 hS hD hl hz h1 (by omega) t h3 ho r1 r2 h5
        · rw [if_neg hf] at h5
          exact take_D1 k w0 W p ok vo vb out bad line whole s frm hf at_ hB hX hp hok hpk hl1 hl2 hS hD hl hz h1 (by omega) t h3 ho r1 r2 h5
  · cases h
end Go.Proofs.YtmfkokjbjmahkaaDoor.Hand

/- lines.Read, walked by hand: a range over a text's lines. -/
namespace Go.Proofs.YtmfkokjbjmahkaaDoor.Hand
open Go Go.RowKit Go.Shelf Go.Proofs.YtmfkokjbjmahkaaDoorW.PrintWords Go.Proofs.YtmfkokjbjmahkaaDoorW.PrintLast Go.Proofs.YtmfkokjbjmahkaaDoorW.PrintMore Go.Proofs.YtmfkokjbjmahkaaDoor.X
set_option linter.unusedVariables false
set_option linter.unusedSimpArgs false
attribute [local go_sem] Oper.semAt_some
def rd0 : RdSt := ⟨0, ⟨#[]⟩, 0, [], []⟩
def takesF (k : Nat) : RdSt → List ByteArray → Option RdSt
  | x, [] => some x
  | x, s :: t => (strings_TrimSuffix.f s ⟨#[13]⟩).bind fun u => (takeF k x u).bind fun y => takesF k y t
theorem takesF_mono (k : Nat) : ∀ (l : List ByteArray) (x : RdSt), LeO (takesF k x l) (takesF (k + 1) x l)
  | [], x => fun r h => h
  | s :: t, x => fun r h => by
    unfold takesF at h ⊢
    obtain ⟨u, h1, h2⟩ := Option.bind_eq_some_iff.1 h
    obtain ⟨y, h3, h4⟩ := Option.bind_eq_some_iff.1 h2
    rw [h1, Option.bind_some, takeF_mono _ _ k y h3, Option.bind_some]
    exact takesF_mono k t y r h4
theorem takesF_append (k : Nat) : ∀ (l t : List ByteArray) (x : RdSt), takesF k x (l ++ t) = (takesF k x l).bind fun y => takesF k y t
  | [], t, x => rfl
  | s :: l, t, x => by
    rw [List.cons_append, takesF, takesF]
    cases h1 : strings_TrimSuffix.f s ⟨#[13]⟩ with
    | none => rfl
    | some u =>
      rw [Option.bind_some, Option.bind_some]
      cases h2 : takeF k x u with
      | none => rfl
      | some y =>
        rw [Option.bind_some, Option.bind_some]
        exact takesF_append k l t y
theorem doneF_len {k : Nat} {frm : Int} {whole : ByteArray} {out : List Rw} {bad : List Dg} {r : List Rw × List Dg} (h : doneF k frm whole out bad = some r) : r.1.length ≤ out.length + 1 ∧ r.2.length ≤ bad.length + 2 := by
  unfold doneF at h
  obtain ⟨c, h1, h2⟩ := Option.bind_eq_some_iff.1 h
  split at h2
  · split at h2
    · obtain ⟨n, h3, h4⟩ := Option.bind_eq_some_iff.1 h2
      split at h4
      · obtain rfl := Option.some.inj h4
        exact ⟨by simp, by simp⟩
      · split at h4
        · obtain ⟨a, h5, h6⟩ := Option.bind_eq_some_iff.1 h4
          obtain rfl := Option.some.inj h6
          refine ⟨by simp, ?_⟩
          simp only
          split <;> split <;> simp
        · cases h4
    · cases h2
  · obtain rfl := Option.some.inj h2
    exact ⟨by simp, by simp⟩
theorem takeF_len {k : Nat} {x y : RdSt} {s : ByteArray} (h : takeF k x s = some y) : y.line = x.line + 1 ∧ y.out.length ≤ x.out.length + 1 ∧ y.bad.length ≤ x.bad.length + 2 := by
  unfold takeF at h
  split at h
  · obtain ⟨at_, h1, h2⟩ := Option.bind_eq_some_iff.1 h
    split at h2
    · split at h2
      · obtain ⟨c, h3, h4⟩ := Option.bind_eq_some_iff.1 h2
        split at h4
        · obtain rfl := Option.some.inj h4
          exact ⟨rfl, by simp, by simp⟩
        · obtain ⟨r, h5, h6⟩ := Option.bind_eq_some_iff.1 h4
          obtain rfl := Option.some.inj h6
          exact ⟨rfl, doneF_len h5⟩
      · cases h2
    · obtain ⟨t, h3, h4⟩ := Option.bind_eq_some_iff.1 h2
      split at h4
      · split at h4
        · obtain rfl := Option.some.inj h4
          exact ⟨rfl, by simp, by simp⟩
        · cases h4
      · obtain ⟨r, h5, h6⟩ := Option.bind_eq_some_iff.1 h4
        obtain rfl := Option.some.inj h6
        exact ⟨rfl, doneF_len h5⟩
  · cases h
theorem takesF_len (k : Nat) : ∀ (l : List ByteArray) (x y : RdSt), takesF k x l = some y → y.line = x.line + (l.length : Int) ∧ y.out.length ≤ x.out.length + l.length ∧ y.bad.length ≤ x.bad.length + 2 * l.length
  | [], x, y, h => by
    obtain rfl := Option.some.inj h
    exact ⟨by simp, by simp, by simp⟩
  | s :: t, x, y, h => by
    unfold takesF at h
    obtain ⟨u, h1, h2⟩ := Option.bind_eq_some_iff.1 h
    obtain ⟨z, h3, h4⟩ := Option.bind_eq_some_iff.1 h2
    obtain ⟨a1, a2, a3⟩ := takeF_len h3
    obtain ⟨b1, b2, b3⟩ := takesF_len k t z y h4
    rw [List.length_cons]
    exact ⟨by omega, by omega, by omega⟩
def lines_Read.f (k : Nat) (s : ByteArray) : Option (List Rw × List Dg) :=
  (strings_CutSuffix.f s ⟨#[10]⟩).bind fun c => if c.1.toList ≠ [] ∨ c.2 = true then (if (pieces c.1).length ≤ 400000000 ∧ c.1.size ≤ 140737488355328 then ((takesF k rd0 (pieces c.1)).bind fun x => if 0 < x.frm then doneF k x.frm x.whole x.out x.bad else some (x.out, x.bad)) else none) else some ([], [])
theorem lines_Read.mono : ∀ a0 k, LeO (lines_Read.f k a0) (lines_Read.f (k + 1) a0) := by
  intro s k r h
  unfold lines_Read.f at h ⊢
  obtain ⟨c, h1, h2⟩ := Option.bind_eq_some_iff.1 h
  rw [h1, Option.bind_some]
  split at h2
  · rename_i hc
    rw [if_pos hc]
    split at h2
    · rename_i hp
      rw [if_pos hp]
      obtain ⟨x, h3, h4⟩ := Option.bind_eq_some_iff.1 h2
      rw [takesF_mono k _ _ x h3, Option.bind_some]
      split at h4
      · rename_i hf
        rw [if_pos hf]
        exact doneF_mono _ _ _ _ k r h4
      · rename_i hf
        rw [if_neg hf]
        exact h4
    · cases h2
  · rename_i hc
    rw [if_neg hc]
    exact h2
/-- Blocks that are none of the five variables. -/
def okR (B q : Nat) : Prop := q < B ∨ B + 5 ≤ q
/-- What holds between two lines. -/
def RdI (k : Nat) (w : World) (st : List ByteArray × ByteArray) (W : World) : Prop :=
  SplitAt (w.heap.size + 1 + 1) st.2 W ∧ Below w.heap.size w W ∧ w.heap.size + 5 ≤ W.heap.size ∧ W.heap[w.heap.size + 1]? = some (.cells #[.pointer (some ⟨w.heap.size, 0, none⟩)] 53 (0, 0)) ∧
    ∃ x vo vb, takesF k rd0 st.1 = some x ∧ RdAt w.heap.size vo vb x.line x.whole x.frm W ∧ Kd.S k35 35 W w.heap.size (okR w.heap.size) vo x.out ∧ Kd.S k37 37 W w.heap.size (okR w.heap.size) vb x.bad
theorem S_other {α : Type} {d : Kd α} {e base : Nat} {ok : Nat → Prop} {v : Value} {xs : List α} {W W' : World} {row : Option Nat} (h : Kd.S d e W base ok v xs) (hgr : W.grownBy W' row) (hrow : ∀ q, row = some q → ∃ o, W.heap[q]? = some o ∧ o.isCells = false) : Kd.S d e W' base ok v xs := by
  refine Kd.S_mono (Kd.S_grown (Kd.S_bound h) hgr (fun q hq e => ?_)) (fun q hq => hq.1)
  obtain ⟨_, _, _, _, _, cells, hc⟩ := hq
  obtain ⟨o, ho, hoc⟩ := hrow q e.symm
  rw [hc] at ho
  obtain rfl := Option.some.inj ho
  cases hoc
theorem rdI_own (k : Nat) (w : World) {B : Nat} (hB : w.heap.size + 5 ≤ B) : OwnFrom B (RdI k w) := by
  intro st W W' row hs hgr hrow
  obtain ⟨h1, h2, h3, hv, x, vo, vb, h4, h5, h6, h7⟩ := hs
  have hne : ∀ q, q < w.heap.size + 5 → some q ≠ row := fun q hq e => by have := (hrow q e.symm).1; omega
  exact ⟨⟨blk_grown h1.1 hgr (hne _ (by omega)), blk_grown h1.2.1 hgr (hne _ (by omega)), blk_grown h1.2.2 hgr (hne _ (by omega))⟩, h2.grown hgr h2.size (fun q e => by have := (hrow q e).1; omega), Nat.le_trans h3 hgr.size, blk_grown hv hgr (hne _ (by omega)), x, vo, vb, h4, blk_grown h5 hgr (hne _ (by omega)), S_other h6 hgr (fun q e => (hrow q e).2), S_other h7 hgr (fun q e => (hrow q e).2)⟩
set_option maxHeartbeats 8000000 in
set_option maxRecDepth 100000 in
theorem read_none (w : World) (s u : ByteArray) (h1 : strings_CutSuffix.f s ⟨#[10]⟩ = some (u, false)) (hu : u.toList = []) :
    Calls Tryd.prog 17 #[.string s] w fun e w' => e = .returned (.tuple #[.slice none 0 0, .slice none 0 0]) ∧ Below w.heap.size w w' := by
  have H1 := Aside0.mk h1
  have hu55 := Tryd.underlying55
  have hue : u.toList.isEmpty = true := by rw [hu]; rfl
  clear h1
  go_enter Tryd.func17, Tryd.ntmps17
  go_wp2_with (go_at_call 30; refine (strings_CutSuffix.calls _ _ u false _ H1.out).mono ?_; rintro e w1 ⟨rfl, ⟨nd, rfl⟩⟩)
  have hR : ((((w.alloc (.cells #[.slice none 0 0, .slice none 0 0, .int .i64 0, .string ⟨#[]⟩, .int .i64 0] 55)).alloc (.cells #[.pointer (some ⟨w.heap.size, 0, none⟩)] 53)).drewN nd).heap[w.heap.size]? = some (.cells #[.slice none 0 0, .slice none 0 0, .int .i64 0, .string ⟨#[]⟩, .int .i64 0] 55 (0, 0))) := blk_alloc (blk_new w _) _
  have hV : ((((w.alloc (.cells #[.slice none 0 0, .slice none 0 0, .int .i64 0, .string ⟨#[]⟩, .int .i64 0] 55)).alloc (.cells #[.pointer (some ⟨w.heap.size, 0, none⟩)] 53)).drewN nd).heap[w.heap.size + 1]? = some (.cells #[.pointer (some ⟨w.heap.size, 0, none⟩)] 53 (0, 0))) := by
    have := blk_new (w.alloc (.cells #[.slice none 0 0, .slice none 0 0, .int .i64 0, .string ⟨#[]⟩, .int .i64 0] 55)) (.cells #[.pointer (some ⟨w.heap.size, 0, none⟩)] 53)
    rw [World.size_alloc] at this
    exact this
  have hb : Below w.heap.size w (((w.alloc (.cells #[.slice none 0 0, .slice none 0 0, .int .i64 0, .string ⟨#[]⟩, .int .i64 0] 55)).alloc (.cells #[.pointer (some ⟨w.heap.size, 0, none⟩)] 53)).drewN nd) := pw_below_drewN (below_alloc (below_alloc (Below.refl _ _) _) _) nd
  have HB := Aside0.mk hb
  clear hb
  generalize ((w.alloc (.cells #[.slice none 0 0, .slice none 0 0, .int .i64 0, .string ⟨#[]⟩, .int .i64 0] 55)).alloc (.cells #[.pointer (some ⟨w.heap.size, 0, none⟩)] 53)).drewN nd = w2 at hR hV HB ⊢
  have r0 : w2.cell? ⟨w.heap.size, 0, none⟩ = some (.slice none 0 0) := (blk_cell hR 0).trans rfl
  have r1 : w2.cell? ⟨w.heap.size, 1, none⟩ = some (.slice none 0 0) := (blk_cell hR 1).trans rfl
  have v0 : w2.cell? ⟨w.heap.size + 1, 0, none⟩ = some (.pointer (some ⟨w.heap.size, 0, none⟩)) := (blk_cell hV 0).trans rfl
  clear hR hV
  have mixed : Tryd.prog.follows .mixedOrders = true := by kernel_rfl
  go_region_o
  go_wp2
  go_ret2
  exact ⟨rfl, below_drew HB.out⟩
set_option maxHeartbeats 8000000 in
set_option maxRecDepth 100000 in
theorem read_rows (k : Nat) (w : World) (a0 s : ByteArray) (en : Bool) (x : RdSt) (h1 : strings_CutSuffix.f a0 ⟨#[10]⟩ = some (s, en)) (hc : s.toList ≠ [] ∨ en = true) (h4 : takesF k rd0 (pieces s) = some x) (h5 : (pieces s).length ≤ 400000000) (hs : s.size ≤ 140737488355328)
    (r1 : List Rw) (r2 : List Dg) (hr : (if 0 < x.frm then doneF k x.frm x.whole x.out x.bad else some (x.out, x.bad)) = some (r1, r2)) :
    Calls Tryd.prog 17 #[.string a0] w fun e w' => ∃ v0 v1, e = .returned (.tuple #[v0, v1]) ∧ Kd.S k35 35 w' w.heap.size (fun _ => True) v0 r1 ∧ Kd.S k37 37 w' w.heap.size (fun _ => True) v1 r2 ∧ Below w.heap.size w w' := by
  have hu55 := Tryd.underlying55
  have H1 := Aside0.mk h1
  have H4 := Aside0.mk h4
  have H5 := Aside0.mk h5
  have HS := Aside0.mk hs
  have HR := Aside0.mk hr
  have hz : s.toList.isEmpty = false ∨ (s.toList.isEmpty = true ∧ en = true) := by
    cases h : s.toList with
    | nil => exact .inr ⟨rfl, hc.resolve_left (fun e => e h)⟩
    | cons _ _ => exact .inl rfl
  clear h1 h4 h5 hs hr hc
  refine callsIn_wide.1 (callsIn_of_wp_marks (n := 6) Tryd.func17 rfl trivial ?_ rfl)
  simp only [Tryd.ntmps17, List.size_toArray, List.length_cons, List.length_nil, Nat.reduceAdd, Nat.reduceSub, Array.replicate_succ, Array.replicate_zero, List.push_toArray, List.append_toArray, List.nil_append, List.cons_append]
  rcases hz with hz | ⟨hz, rfl⟩
  · gi_wp2_with (first | (refine ⟨trivial, ?_⟩; gi_at_call 30; refine (callsIn_wide.2 (strings_CutSuffix.calls _ _ s _ _ H1.out)).mono ?_; rintro e w1 ⟨rfl, ⟨nd, rfl⟩⟩) | (refine ⟨trivial, ?_⟩; gi_at_call 31; refine (callsIn_wide.2 (Split_Seq _ _)).mono ?_; rintro e w3 ⟨rfl, rfl⟩))
    have hsp : ∀ W : World, W.heap.size = w.heap.size + 1 + 1 → SplitAt (w.heap.size + 1 + 1) s (splitW s W) ∧ (splitW s W).heap.size = w.heap.size + 5 ∧ (∀ (q : Nat) (o : Obj), W.heap[q]? = some o → (splitW s W).heap[q]? = some o) := by
      intro W h2
      have e1 := blk_new W (.cells #[.string s] 9)
      have e2 := blk_new (W.alloc (.cells #[.string s] 9)) (.cells #[.string ⟨#[10]⟩] 9)
      have e3 := blk_new ((W.alloc (.cells #[.string s] 9)).alloc (.cells #[.string ⟨#[10]⟩] 9)) (.cells #[.int .i64 0] 3)
      simp only [World.size_alloc, h2] at e1 e2 e3
      refine ⟨⟨blk_alloc (blk_alloc e1 _) _, blk_alloc e2 _, e3⟩, by simp [splitW, h2], fun q o hq => ?_⟩
      exact (Below.heap_alloc _ _ _ (by have := blk_lt hq; simp; omega)).trans ((Below.heap_alloc _ _ _ (by have := blk_lt hq; simp; omega)).trans ((Below.heap_alloc _ _ _ (blk_lt hq)).trans hq))
    have hR0 : (((w.alloc (.cells #[.slice none 0 0, .slice none 0 0, .int .i64 0, .string ⟨#[]⟩, .int .i64 0] 55)).alloc (.cells #[.pointer (some ⟨w.heap.size, 0, none⟩)] 53)).drewN nd).heap[w.heap.size]? = some (.cells #[.slice none 0 0, .slice none 0 0, .int .i64 0, .string ⟨#[]⟩, .int .i64 0] 55 (0, 0)) := blk_alloc (blk_new w _) _
    have hV0 : (((w.alloc (.cells #[.slice none 0 0, .slice none 0 0, .int .i64 0, .string ⟨#[]⟩, .int .i64 0] 55)).alloc (.cells #[.pointer (some ⟨w.heap.size, 0, none⟩)] 53)).drewN nd).heap[w.heap.size + 1]? = some (.cells #[.pointer (some ⟨w.heap.size, 0, none⟩)] 53 (0, 0)) := by
      have := blk_new (w.alloc (.cells #[.slice none 0 0, .slice none 0 0, .int .i64 0, .string ⟨#[]⟩, .int .i64 0] 55)) (.cells #[.pointer (some ⟨w.heap.size, 0, none⟩)] 53)
      rw [World.size_alloc] at this
      exact this
    have hB0 : Below w.heap.size w (((w.alloc (.cells #[.slice none 0 0, .slice none 0 0, .int .i64 0, .string ⟨#[]⟩, .int .i64 0] 55)).alloc (.cells #[.pointer (some ⟨w.heap.size, 0, none⟩)] 53)).drewN nd) := pw_below_drewN (below_alloc (below_alloc (Below.refl _ _) _) _) nd
    obtain ⟨hs1, hs2, hs3⟩ := hsp (((w.alloc (.cells #[.slice none 0 0, .slice none 0 0, .int .i64 0, .string ⟨#[]⟩, .int .i64 0] 55)).alloc (.cells #[.pointer (some ⟨w.heap.size, 0, none⟩)] 53)).drewN nd) (by simp)
    have hR1 := hs3 _ _ hR0
    have hV1 := hs3 _ _ hV0
    have hB1 : Below w.heap.size w (splitW s (((w.alloc (.cells #[.slice none 0 0, .slice none 0 0, .int .i64 0, .string ⟨#[]⟩, .int .i64 0] 55)).alloc (.cells #[.pointer (some ⟨w.heap.size, 0, none⟩)] 53)).drewN nd)) := below_alloc (below_alloc (below_alloc hB0 _) _) _
    clear hsp hs3 hR0 hV0 hB0
    generalize splitW s (((w.alloc (.cells #[.slice none 0 0, .slice none 0 0, .int .i64 0, .string ⟨#[]⟩, .int .i64 0] 55)).alloc (.cells #[.pointer (some ⟨w.heap.size, 0, none⟩)] 53)).drewN nd) = w3 at hs1 hs2 hR1 hV1 hB1 ⊢
    refine range_runs (F := Fence.wide) (n := 6) (σ := List ByteArray × ByteArray) (α := ByteArray) rfl (by decide) (gf := 64) (lb := #[.pointer (some ⟨w.heap.size + 1 + 1 + 1, 0, none⟩), .pointer (some ⟨w.heap.size + 1 + 1, 0, none⟩), .pointer (some ⟨w.heap.size + 1 + 1 + 1 + 1, 0, none⟩)]) rfl trivial (enters_of Tryd.func64 (by kernel_rfl) rfl)
      (encs := fun x => #[.string x]) (fun _ => rfl) (RdI k w) (fun st x st' => cameS st x st' ∧ ∃ t, pieces s = st.1 ++ x :: t) (fun st => st.1 = pieces s) (rdI_own k w (by omega)) ([], s) ?start ?act1 ?assign ?body ?iter ?done
    case assign =>
      intro l x W K hK
      gi_wp2
      exact hK
    case start =>
      exact ⟨hs1, hB1, by omega, hV1, rd0, _, _, rfl, hR1, Kd.S_nil _ _ _ _ _, Kd.S_nil _ _ _ _ _⟩
    case iter =>
      intro l J W hJI hJ hY hj0
      refine split_iter 5 (by decide) l (w.heap.size + 1 + 1) s J W (fun st W h => (hJI st W h).1) ?_ (fun st x st' W h hc ht => hY st x st' W h ⟨hc, ht⟩) hj0 HS.out
      intro pre r r' W hj
      obtain ⟨h1, h2, h3, hv, x, vo, vb, h4, h5, h6, h7⟩ := hJI _ _ hj
      refine hJ _ _ _ _ hj ⟨⟨blk_put h1.1 0 _ rfl, blk_far h1.2.1 (by show w.heap.size + 1 + 1 + 1 ≠ w.heap.size + 1 + 1; omega) _, blk_far h1.2.2 (by show w.heap.size + 1 + 1 + 1 + 1 ≠ w.heap.size + 1 + 1; omega) _⟩, below_set h2 (by omega), by simpa using h3, blk_far hv (by show w.heap.size + 1 ≠ w.heap.size + 1 + 1; omega) _, x, vo, vb, h4, blk_far h5 (by show w.heap.size ≠ w.heap.size + 1 + 1; omega) _, Kd.S_far h6 (fun q hq => ?_) _, Kd.S_far h7 (fun q hq => ?_) _⟩ (Rest.set h1.1 _)
      · have : okR w.heap.size q := hq
        unfold okR at this
        show q ≠ w.heap.size + 1 + 1
        omega
      · have : okR w.heap.size q := hq
        unfold okR at this
        show q ≠ w.heap.size + 1 + 1
        omega
    case body =>
      rintro l ⟨pre, r⟩ y st' W ⟨h1, h2, h3, hv, x1, vo, vb, h4, h5, h6, h7⟩ ⟨hst, t, ht⟩
      have hst' : st' = (pre ++ [y], r) := hst
      subst hst'
      clear hst
      simp only at h1 h4 ht
      have hr := H4.out
      rw [ht, takesF_append, h4, Option.bind_some, takesF] at hr
      obtain ⟨u, hu, hr2⟩ := Option.bind_eq_some_iff.1 hr
      obtain ⟨x2, hx2, _⟩ := Option.bind_eq_some_iff.1 hr2
      clear hr hr2
      have hmx : Tryd.prog.follows .mixedOrders = true := by kernel_rfl
      obtain ⟨hn1, hn2, hn3⟩ := takesF_len k pre rd0 x1 h4
      have hn0 : rd0.line = 0 ∧ rd0.out.length = 0 ∧ rd0.bad.length = 0 := ⟨rfl, rfl, rfl⟩
      have hcnt : pre.length + 1 ≤ 400000000 := by
        have := H5.out
        rw [ht, List.length_append, List.length_cons] at this
        omega
      have hcd : W.drew.cell? ⟨w.heap.size + 1, 0, none⟩ = some (.pointer (some ⟨w.heap.size, 0, none⟩)) := (blk_cell hv 0).trans rfl
      have hcn : ∀ m, (W.drew.drewN m).cell? ⟨w.heap.size + 1, 0, none⟩ = some (.pointer (some ⟨w.heap.size, 0, none⟩)) := fun m => (blk_cell hv 0).trans rfl
      gi_wp2
      refine wpIn_region_any (by assumption) ?_
      change wpAnyIn _ _ _ _ _ _ _ _ _ (World.drew _)
      refine wpAnyIn_ready (rs := [0, 1]) (by kernel_rfl) (by simp) ?_
      refine AllReadyIn.cons rfl (fun K hK => ?_) (AllReadyIn.cons rfl (fun K hK => ?_) AllReadyIn.nil)
      case' refine_1 =>
        go_simp
        refine hK _ _ ?_
        clear hK K
        refine wpAnyIn_ready (rs := [1]) (by kernel_rfl) (by simp) ?_
        refine AllReadyIn.cons rfl (fun K hK => ?_) AllReadyIn.nil
        go_simp
        refine hK _ _ ?_
        clear hK K
        refine wpAnyIn_ready (rs := [2]) (by kernel_rfl) (by simp) ?_
        refine AllReadyIn.cons rfl (fun K hK => ?_) AllReadyIn.nil
        go_simp
        refine ⟨trivial, (CallsIn.inRound l (callsIn_wide.2 (strings_TrimSuffix.calls y ⟨#[13]⟩ u _ hu))).mono ?_⟩
        rintro e w1 ⟨rfl, ⟨nd, rfl⟩⟩
        refine hK _ _ ?_
        clear hK K
      case' refine_2 =>
        go_simp
        refine hK _ _ ?_
        clear hK K
        refine wpAnyIn_ready (rs := [0, 2]) (by kernel_rfl) (by simp) ?_
        refine AllReadyIn.cons rfl (fun K hK => ?_) (AllReadyIn.cons rfl (fun K hK => ?_) AllReadyIn.nil)
        case' refine_1 =>
          go_simp
          refine hK _ _ ?_
          clear hK K
          refine wpAnyIn_ready (rs := [2]) (by kernel_rfl) (by simp) ?_
          refine AllReadyIn.cons rfl (fun K hK => ?_) AllReadyIn.nil
          go_simp
          refine ⟨trivial, (CallsIn.inRound l (callsIn_wide.2 (strings_TrimSuffix.calls y ⟨#[13]⟩ u _ hu))).mono ?_⟩
          rintro e w1 ⟨rfl, ⟨nd, rfl⟩⟩
          refine hK _ _ ?_
          clear hK K
        case' refine_2 =>
          go_simp
          refine ⟨trivial, (CallsIn.inRound l (callsIn_wide.2 (strings_TrimSuffix.calls y ⟨#[13]⟩ u _ hu))).mono ?_⟩
          rintro e w1 ⟨rfl, ⟨nd, rfl⟩⟩
          refine hK _ _ ?_
          clear hK K
          have hcn1 : (W.drewN (1 + nd)).cell? ⟨w.heap.size + 1, 0, none⟩ = some (.pointer (some ⟨w.heap.size, 0, none⟩)) := (blk_cell hv 0).trans rfl
          refine wpAnyIn_ready (rs := [0]) (by kernel_rfl) (by simp) ?_
          refine AllReadyIn.cons rfl (fun K hK => ?_) AllReadyIn.nil
          go_simp
          refine hK _ _ ?_
          clear hK K
      all_goals
        refine wpAnyIn_ready (rs := [3]) (by kernel_rfl) (by simp) ?_
        refine AllReadyIn.cons rfl (fun K hK => ?_) AllReadyIn.nil
        go_simp
        first
          | refine ⟨trivial, (CallsIn.inRound l (callsIn_wide.2 (take_calls k w (W.drew.drewN nd) w.heap.size (okR w.heap.size) vo vb x1 x2 u (pw_below_drewN (below_drew h2) nd) h5 (Nat.le_refl _) (fun q hq => .inr (by have h_ : W.heap.size ≤ q := hq; omega)) (by unfold okR; omega) (by omega) (by omega) (Kd.S_drewN (Kd.S_drew h6) nd) (Kd.S_drewN (Kd.S_drew h7) nd) ⟨by omega, by omega⟩ hx2))).mono ?_⟩
          | refine ⟨trivial, (CallsIn.inRound l (callsIn_wide.2 (take_calls k w (W.drewN (1 + nd)) w.heap.size (okR w.heap.size) vo vb x1 x2 u (pw_below_drewN h2 (1 + nd)) h5 (Nat.le_refl _) (fun q hq => .inr (by have h_ : W.heap.size ≤ q := hq; omega)) (by unfold okR; omega) (by omega) (by omega) (Kd.S_drewN h6 (1 + nd)) (Kd.S_drewN h7 (1 + nd)) ⟨by omega, by omega⟩ hx2))).mono ?_⟩
        rintro e w2 ⟨rfl, vo', vb', hX', hS', hD', hB', hF'⟩
        refine hK _ _ ?_
        clear hK K
        refine wpAnyIn_done (by kernel_rfl) ?_ _
        gi_wp2
        have hk : ∀ (q : Nat) (o : Obj), w.heap.size < q → q < w.heap.size + 5 → W.heap[q]? = some o → w2.heap[q]? = some o := fun q o ha hb hq => (hF'.keep q (blk_lt hq) (by omega) (by unfold okR; omega)).trans hq
        exact ⟨⟨hF'.size, fun q o hq ho => hF'.same q o hq ho⟩, ⟨hk _ _ (by omega) (by omega) h1.1, hk _ _ (by omega) (by omega) h1.2.1, hk _ _ (by omega) (by omega) h1.2.2⟩, hB', Nat.le_trans h3 hF'.size, hk _ _ (by omega) (by omega) hv, x2, vo', vb',
          (by show takesF k rd0 (pre ++ [y]) = some x2; rw [takesF_append, h4, Option.bind_some, takesF, hu, Option.bind_some, hx2, Option.bind_some]; rfl), hX', hS', hD'⟩
    case done =>
      rintro Dn ⟨pre, r⟩ W hD hpre ⟨h1, h2, h3, hv, x1, vo, vb, h4, h5, h6, h7⟩ hK
      simp only at hpre h4
      subst hpre
      obtain rfl : x = x1 := Option.some.inj (H4.out.symm.trans h4)
      obtain ⟨hn1, hn2, hn3⟩ := takesF_len k _ rd0 x h4
      have hn0 : rd0.line = 0 ∧ rd0.out.length = 0 ∧ rd0.bad.length = 0 := ⟨rfl, rfl, rfl⟩
      have hcnt := H5.out
      have mixed : Tryd.prog.follows .mixedOrders = true := by kernel_rfl
      have hr := HR.out
      have v0 : W.cell? ⟨w.heap.size + 1, 0, none⟩ = some (.pointer (some ⟨w.heap.size, 0, none⟩)) := (blk_cell hv 0).trans rfl
      have q4 : W.cell? ⟨w.heap.size, 4, none⟩ = some (.int .i64 x.frm) := (blk_cell h5 4).trans rfl
      have q0 : W.cell? ⟨w.heap.size, 0, none⟩ = some vo := (blk_cell h5 0).trans rfl
      have q1 : W.cell? ⟨w.heap.size, 1, none⟩ = some vb := (blk_cell h5 1).trans rfl
      by_cases hf : 0 < x.frm
      · rw [if_pos hf] at hr
        gi_wp2_with (refine ⟨trivial, ?_⟩; gi_at_call 34; refine (callsIn_wide.2 (done_calls k w W w.heap.size (okR w.heap.size) vo vb x.out x.bad x.line x.whole x.frm _ _ h2 h5 (Nat.le_refl _) (fun q hq => .inr (by omega)) (by unfold okR; omega) h6 h7 ⟨by omega, by omega⟩ hr)).mono ?_; rintro e w4 ⟨rfl, vo', vb', hX', hS', hD', hB', hF'⟩; have v0' : w4.cell? ⟨w.heap.size + 1, 0, none⟩ = some (.pointer (some ⟨w.heap.size, 0, none⟩)) := (blk_cell ((hF'.keep _ (blk_lt hv) (by omega) (by unfold okR; omega)).trans hv) 0).trans rfl; have q0' : w4.cell? ⟨w.heap.size, 0, none⟩ = some vo' := (blk_cell hX' 0).trans rfl; have q1' : w4.cell? ⟨w.heap.size, 1, none⟩ = some vb' := (blk_cell hX' 1).trans rfl; clear v0 q0 q1 q4)
        gi_region_o
        gi_wp2
        have hK4 : w4.drew.heap[Dn]? = some (.deferred (some [])) := hF'.same _ _ hK rfl
        refine ⟨by simp, .inl ⟨_, _, rfl, run_takeDeferred hK4, ?_⟩⟩
        refine ⟨_, results_tmp2 rfl _ _ _, ?_⟩
        exact ⟨_, _, rfl, Kd.S_mono (S_other (Kd.S_drew hS') (grownBy_putObj' w4.drew Dn _) (fun q e => ⟨_, (Option.some.inj e) ▸ hK4, rfl⟩)) (fun _ _ => trivial), Kd.S_mono (S_other (Kd.S_drew hD') (grownBy_putObj' w4.drew Dn _) (fun q e => ⟨_, (Option.some.inj e) ▸ hK4, rfl⟩)) (fun _ _ => trivial), (below_drew hB').grown (grownBy_putObj' w4.drew Dn _) hB'.size (fun q e => by obtain rfl := Option.some.inj e; omega)⟩
      · rw [if_neg hf] at hr
        gi_wp2
        gi_region_o
        gi_wp2
        have hK4 : W.drew.heap[Dn]? = some (.deferred (some [])) := hK
        obtain ⟨rfl, rfl⟩ := Prod.mk.inj (Option.some.inj hr)
        refine ⟨by simp, .inl ⟨_, _, rfl, run_takeDeferred hK4, ?_⟩⟩
        refine ⟨_, results_tmp2 rfl _ _ _, ?_⟩
        exact ⟨_, _, rfl, Kd.S_mono (S_other (Kd.S_drew h6) (grownBy_putObj' W.drew Dn _) (fun q e => ⟨_, (Option.some.inj e) ▸ hK4, rfl⟩)) (fun _ _ => trivial), Kd.S_mono (S_other (Kd.S_drew h7) (grownBy_putObj' W.drew Dn _) (fun q e => ⟨_, (Option.some.inj e) ▸ hK4, rfl⟩)) (fun _ _ => trivial), (below_drew h2).grown (grownBy_putObj' W.drew Dn _) h2.size (fun q e => by obtain rfl := Option.some.inj e; omega)⟩
  · gi_wp2_with (first | (refine ⟨trivial, ?_⟩; gi_at_call 30; refine (callsIn_wide.2 (strings_CutSuffix.calls _ _ s _ _ H1.out)).mono ?_; rintro e w1 ⟨rfl, ⟨nd, rfl⟩⟩) | (refine ⟨trivial, ?_⟩; gi_at_call 31; refine (callsIn_wide.2 (Split_Seq _ _)).mono ?_; rintro e w3 ⟨rfl, rfl⟩))
    have hsp : ∀ W : World, W.heap.size = w.heap.size + 1 + 1 → SplitAt (w.heap.size + 1 + 1) s (splitW s W) ∧ (splitW s W).heap.size = w.heap.size + 5 ∧ (∀ (q : Nat) (o : Obj), W.heap[q]? = some o → (splitW s W).heap[q]? = some o) := by
      intro W h2
      have e1 := blk_new W (.cells #[.string s] 9)
      have e2 := blk_new (W.alloc (.cells #[.string s] 9)) (.cells #[.string ⟨#[10]⟩] 9)
      have e3 := blk_new ((W.alloc (.cells #[.string s] 9)).alloc (.cells #[.string ⟨#[10]⟩] 9)) (.cells #[.int .i64 0] 3)
      simp only [World.size_alloc, h2] at e1 e2 e3
      refine ⟨⟨blk_alloc (blk_alloc e1 _) _, blk_alloc e2 _, e3⟩, by simp [splitW, h2], fun q o hq => ?_⟩
      exact (Below.heap_alloc _ _ _ (by have := blk_lt hq; simp; omega)).trans ((Below.heap_alloc _ _ _ (by have := blk_lt hq; simp; omega)).trans ((Below.heap_alloc _ _ _ (blk_lt hq)).trans hq))
    have hR0 : (((w.alloc (.cells #[.slice none 0 0, .slice none 0 0, .int .i64 0, .string ⟨#[]⟩, .int .i64 0] 55)).alloc (.cells #[.pointer (some ⟨w.heap.size, 0, none⟩)] 53)).drewN nd).heap[w.heap.size]? = some (.cells #[.slice none 0 0, .slice none 0 0, .int .i64 0, .string ⟨#[]⟩, .int .i64 0] 55 (0, 0)) := blk_alloc (blk_new w _) _
    have hV0 : (((w.alloc (.cells #[.slice none 0 0, .slice none 0 0, .int .i64 0, .string ⟨#[]⟩, .int .i64 0] 55)).alloc (.cells #[.pointer (some ⟨w.heap.size, 0, none⟩)] 53)).drewN nd).heap[w.heap.size + 1]? = some (.cells #[.pointer (some ⟨w.heap.size, 0, none⟩)] 53 (0, 0)) := by
      have := blk_new (w.alloc (.cells #[.slice none 0 0, .slice none 0 0, .int .i64 0, .string ⟨#[]⟩, .int .i64 0] 55)) (.cells #[.pointer (some ⟨w.heap.size, 0, none⟩)] 53)
      rw [World.size_alloc] at this
      exact this
    have hB0 : Below w.heap.size w (((w.alloc (.cells #[.slice none 0 0, .slice none 0 0, .int .i64 0, .string ⟨#[]⟩, .int .i64 0] 55)).alloc (.cells #[.pointer (some ⟨w.heap.size, 0, none⟩)] 53)).drewN nd) := pw_below_drewN (below_alloc (below_alloc (Below.refl _ _) _) _) nd
    obtain ⟨hs1, hs2, hs3⟩ := hsp (((w.alloc (.cells #[.slice none 0 0, .slice none 0 0, .int .i64 0, .string ⟨#[]⟩, .int .i64 0] 55)).alloc (.cells #[.pointer (some ⟨w.heap.size, 0, none⟩)] 53)).drewN nd) (by simp)
    have hR1 := hs3 _ _ hR0
    have hV1 := hs3 _ _ hV0
    have hB1 : Below w.heap.size w (splitW s (((w.alloc (.cells #[.slice none 0 0, .slice none 0 0, .int .i64 0, .string ⟨#[]⟩, .int .i64 0] 55)).alloc (.cells #[.pointer (some ⟨w.heap.size, 0, none⟩)] 53)).drewN nd)) := below_alloc (below_alloc (below_alloc hB0 _) _) _
    clear hsp hs3 hR0 hV0 hB0
    generalize splitW s (((w.alloc (.cells #[.slice none 0 0, .slice none 0 0, .int .i64 0, .string ⟨#[]⟩, .int .i64 0] 55)).alloc (.cells #[.pointer (some ⟨w.heap.size, 0, none⟩)] 53)).drewN nd) = w3 at hs1 hs2 hR1 hV1 hB1 ⊢
    refine range_runs (F := Fence.wide) (n := 6) (σ := List ByteArray × ByteArray) (α := ByteArray) rfl (by decide) (gf := 64) (lb := #[.pointer (some ⟨w.heap.size + 1 + 1 + 1, 0, none⟩), .pointer (some ⟨w.heap.size + 1 + 1, 0, none⟩), .pointer (some ⟨w.heap.size + 1 + 1 + 1 + 1, 0, none⟩)]) rfl trivial (enters_of Tryd.func64 (by kernel_rfl) rfl)
      (encs := fun x => #[.string x]) (fun _ => rfl) (RdI k w) (fun st x st' => cameS st x st' ∧ ∃ t, pieces s = st.1 ++ x :: t) (fun st => st.1 = pieces s) (rdI_own k w (by omega)) ([], s) ?start ?act2 ?assign ?body ?iter ?done
    case assign =>
      intro l x W K hK
      gi_wp2
      exact hK
    case start =>
      exact ⟨hs1, hB1, by omega, hV1, rd0, _, _, rfl, hR1, Kd.S_nil _ _ _ _ _, Kd.S_nil _ _ _ _ _⟩
    case iter =>
      intro l J W hJI hJ hY hj0
      refine split_iter 5 (by decide) l (w.heap.size + 1 + 1) s J W (fun st W h => (hJI st W h).1) ?_ (fun st x st' W h hc ht => hY st x st' W h ⟨hc, ht⟩) hj0 HS.out
      intro pre r r' W hj
      obtain ⟨h1, h2, h3, hv, x, vo, vb, h4, h5, h6, h7⟩ := hJI _ _ hj
      refine hJ _ _ _ _ hj ⟨⟨blk_put h1.1 0 _ rfl, blk_far h1.2.1 (by show w.heap.size + 1 + 1 + 1 ≠ w.heap.size + 1 + 1; omega) _, blk_far h1.2.2 (by show w.heap.size + 1 + 1 + 1 + 1 ≠ w.heap.size + 1 + 1; omega) _⟩, below_set h2 (by omega), by simpa using h3, blk_far hv (by show w.heap.size + 1 ≠ w.heap.size + 1 + 1; omega) _, x, vo, vb, h4, blk_far h5 (by show w.heap.size ≠ w.heap.size + 1 + 1; omega) _, Kd.S_far h6 (fun q hq => ?_) _, Kd.S_far h7 (fun q hq => ?_) _⟩ (Rest.set h1.1 _)
      · have : okR w.heap.size q := hq
        unfold okR at this
        show q ≠ w.heap.size + 1 + 1
        omega
      · have : okR w.heap.size q := hq
        unfold okR at this
        show q ≠ w.heap.size + 1 + 1
        omega
    case body =>
      rintro l ⟨pre, r⟩ y st' W ⟨h1, h2, h3, hv, x1, vo, vb, h4, h5, h6, h7⟩ ⟨hst, t, ht⟩
      have hst' : st' = (pre ++ [y], r) := hst
      subst hst'
      clear hst
      simp only at h1 h4 ht
      have hr := H4.out
      rw [ht, takesF_append, h4, Option.bind_some, takesF] at hr
      obtain ⟨u, hu, hr2⟩ := Option.bind_eq_some_iff.1 hr
      obtain ⟨x2, hx2, _⟩ := Option.bind_eq_some_iff.1 hr2
      clear hr hr2
      have hmx : Tryd.prog.follows .mixedOrders = true := by kernel_rfl
      obtain ⟨hn1, hn2, hn3⟩ := takesF_len k pre rd0 x1 h4
      have hn0 : rd0.line = 0 ∧ rd0.out.length = 0 ∧ rd0.bad.length = 0 := ⟨rfl, rfl, rfl⟩
      have hcnt : pre.length + 1 ≤ 400000000 := by
        have := H5.out
        rw [ht, List.length_append, List.length_cons] at this
        omega
      have hcd : W.drew.cell? ⟨w.heap.size + 1, 0, none⟩ = some (.pointer (some ⟨w.heap.size, 0, none⟩)) := (blk_cell hv 0).trans rfl
      have hcn : ∀ m, (W.drew.drewN m).cell? ⟨w.heap.size + 1, 0, none⟩ = some (.pointer (some ⟨w.heap.size, 0, none⟩)) := fun m => (blk_cell hv 0).trans rfl
      gi_wp2
      refine wpIn_region_any (by assumption) ?_
      change wpAnyIn _ _ _ _ _ _ _ _ _ (World.drew _)
      refine wpAnyIn_ready (rs := [0, 1]) (by kernel_rfl) (by simp) ?_
      refine AllReadyIn.cons rfl (fun K hK => ?_) (AllReadyIn.cons rfl (fun K hK => ?_) AllReadyIn.nil)
      case' refine_1 =>
        go_simp
        refine hK _ _ ?_
        clear hK K
        refine wpAnyIn_ready (rs := [1]) (by kernel_rfl) (by simp) ?_
        refine AllReadyIn.cons rfl (fun K hK => ?_) AllReadyIn.nil
        go_simp
        refine hK _ _ ?_
        clear hK K
        refine wpAnyIn_ready (rs := [2]) (by kernel_rfl) (by simp) ?_
        refine AllReadyIn.cons rfl (fun K hK => ?_) AllReadyIn.nil
        go_simp
        refine ⟨trivial, (CallsIn.inRound l (callsIn_wide.2 (strings_TrimSuffix.calls y ⟨#[13]⟩ u _ hu))).mono ?_⟩
        rintro e w1 ⟨rfl, ⟨nd, rfl⟩⟩
        refine hK _ _ ?_
        clear hK K
      case' refine_2 =>
        go_simp
        refine hK _ _ ?_
        clear hK K
        refine wpAnyIn_ready (rs := [0, 2]) (by kernel_rfl) (by simp) ?_
        refine AllReadyIn.cons rfl (fun K hK => ?_) (AllReadyIn.cons rfl (fun K hK => ?_) AllReadyIn.nil)
        case' refine_1 =>
          go_simp
          refine hK _ _ ?_
          clear hK K
          refine wpAnyIn_ready (rs := [2]) (by kernel_rfl) (by simp) ?_
          refine AllReadyIn.cons rfl (fun K hK => ?_) AllReadyIn.nil
          go_simp
          refine ⟨trivial, (CallsIn.inRound l (callsIn_wide.2 (strings_TrimSuffix.calls y ⟨#[13]⟩ u _ hu))).mono ?_⟩
          rintro e w1 ⟨rfl, ⟨nd, rfl⟩⟩
          refine hK _ _ ?_
          clear hK K
        case' refine_2 =>
          go_simp
          refine ⟨trivial, (CallsIn.inRound l (callsIn_wide.2 (strings_TrimSuffix.calls y ⟨#[13]⟩ u _ hu))).mono ?_⟩
          rintro e w1 ⟨rfl, ⟨nd, rfl⟩⟩
          refine hK _ _ ?_
          clear hK K
          have hcn1 : (W.drewN (1 + nd)).cell? ⟨w.heap.size + 1, 0, none⟩ = some (.pointer (some ⟨w.heap.size, 0, none⟩)) := (blk_cell hv 0).trans rfl
          refine wpAnyIn_ready (rs := [0]) (by kernel_rfl) (by simp) ?_
          refine AllReadyIn.cons rfl (fun K hK => ?_) AllReadyIn.nil
          go_simp
          refine hK _ _ ?_
          clear hK K
      all_goals
        refine wpAnyIn_ready (rs := [3]) (by kernel_rfl) (by simp) ?_
        refine AllReadyIn.cons rfl (fun K hK => ?_) AllReadyIn.nil
        go_simp
        first
          | refine ⟨trivial, (CallsIn.inRound l (callsIn_wide.2 (take_calls k w (W.drew.drewN nd) w.heap.size (okR w.heap.size) vo vb x1 x2 u (pw_below_drewN (below_drew h2) nd) h5 (Nat.le_refl _) (fun q hq => .inr (by have h_ : W.heap.size ≤ q := hq; omega)) (by unfold okR; omega) (by omega) (by omega) (Kd.S_drewN (Kd.S_drew h6) nd) (Kd.S_drewN (Kd.S_drew h7) nd) ⟨by omega, by omega⟩ hx2))).mono ?_⟩
          | refine ⟨trivial, (CallsIn.inRound l (callsIn_wide.2 (take_calls k w (W.drewN (1 + nd)) w.heap.size (okR w.heap.size) vo vb x1 x2 u (pw_below_drewN h2 (1 + nd)) h5 (Nat.le_refl _) (fun q hq => .inr (by have h_ : W.heap.size ≤ q := hq; omega)) (by unfold okR; omega) (by omega) (by omega) (Kd.S_drewN h6 (1 + nd)) (Kd.S_drewN h7 (1 + nd)) ⟨by omega, by omega⟩ hx2))).mono ?_⟩
        rintro e w2 ⟨rfl, vo', vb', hX', hS', hD', hB', hF'⟩
        refine hK _ _ ?_
        clear hK K
        refine wpAnyIn_done (by kernel_rfl) ?_ _
        gi_wp2
        have hk : ∀ (q : Nat) (o : Obj), w.heap.size < q → q < w.heap.size + 5 → W.heap[q]? = some o → w2.heap[q]? = some o := fun q o ha hb hq => (hF'.keep q (blk_lt hq) (by omega) (by unfold okR; omega)).trans hq
        exact ⟨⟨hF'.size, fun q o hq ho => hF'.same q o hq ho⟩, ⟨hk _ _ (by omega) (by omega) h1.1, hk _ _ (by omega) (by omega) h1.2.1, hk _ _ (by omega) (by omega) h1.2.2⟩, hB', Nat.le_trans h3 hF'.size, hk _ _ (by omega) (by omega) hv, x2, vo', vb',
          (by show takesF k rd0 (pre ++ [y]) = some x2; rw [takesF_append, h4, Option.bind_some, takesF, hu, Option.bind_some, hx2, Option.bind_some]; rfl), hX', hS', hD'⟩
    case done =>
      rintro Dn ⟨pre, r⟩ W hD hpre ⟨h1, h2, h3, hv, x1, vo, vb, h4, h5, h6, h7⟩ hK
      simp only at hpre h4
      subst hpre
      obtain rfl : x = x1 := Option.some.inj (H4.out.symm.trans h4)
      obtain ⟨hn1, hn2, hn3⟩ := takesF_len k _ rd0 x h4
      have hn0 : rd0.line = 0 ∧ rd0.out.length = 0 ∧ rd0.bad.length = 0 := ⟨rfl, rfl, rfl⟩
      have hcnt := H5.out
      have mixed : Tryd.prog.follows .mixedOrders = true := by kernel_rfl
      have hr := HR.out
      have v0 : W.cell? ⟨w.heap.size + 1, 0, none⟩ = some (.pointer (some ⟨w.heap.size, 0, none⟩)) := (blk_cell hv 0).trans rfl
      have q4 : W.cell? ⟨w.heap.size, 4, none⟩ = some (.int .i64 x.frm) := (blk_cell h5 4).trans rfl
      have q0 : W.cell? ⟨w.heap.size, 0, none⟩ = some vo := (blk_cell h5 0).trans rfl
      have q1 : W.cell? ⟨w.heap.size, 1, none⟩ = some vb := (blk_cell h5 1).trans rfl
      by_cases hf : 0 < x.frm
      · rw [if_pos hf] at hr
        gi_wp2_with (refine ⟨trivial, ?_⟩; gi_at_call 34; refine (callsIn_wide.2 (done_calls k w W w.heap.size (okR w.heap.size) vo vb x.out x.bad x.line x.whole x.frm _ _ h2 h5 (Nat.le_refl _) (fun q hq => .inr (by omega)) (by unfold okR; omega) h6 h7 ⟨by omega, by omega⟩ hr)).mono ?_; rintro e w4 ⟨rfl, vo', vb', hX', hS', hD', hB', hF'⟩; have v0' : w4.cell? ⟨w.heap.size + 1, 0, none⟩ = some (.pointer (some ⟨w.heap.size, 0, none⟩)) := (blk_cell ((hF'.keep _ (blk_lt hv) (by omega) (by unfold okR; omega)).trans hv) 0).trans rfl; have q0' : w4.cell? ⟨w.heap.size, 0, none⟩ = some vo' := (blk_cell hX' 0).trans rfl; have q1' : w4.cell? ⟨w.heap.size, 1, none⟩ = some vb' := (blk_cell hX' 1).trans rfl; clear v0 q0 q1 q4)
        gi_region_o
        gi_wp2
        have hK4 : w4.drew.heap[Dn]? = some (.deferred (some [])) := hF'.same _ _ hK rfl
        refine ⟨by simp, .inl ⟨_, _, rfl, run_takeDeferred hK4, ?_⟩⟩
        refine ⟨_, results_tmp2 rfl _ _ _, ?_⟩
        exact ⟨_, _, rfl, Kd.S_mono (S_other (Kd.S_drew hS') (grownBy_putObj' w4.drew Dn _) (fun q e => ⟨_, (Option.some.inj e) ▸ hK4, rfl⟩)) (fun _ _ => trivial), Kd.S_mono (S_other (Kd.S_drew hD') (grownBy_putObj' w4.drew Dn _) (fun q e => ⟨_, (Option.some.inj e) ▸ hK4, rfl⟩)) (fun _ _ => trivial), (below_drew hB').grown (grownBy_putObj' w4.drew Dn _) hB'.size (fun q e => by obtain rfl := Option.some.inj e; omega)⟩
      · rw [if_neg hf] at hr
        gi_wp2
        gi_region_o
        gi_wp2
        have hK4 : W.drew.heap[Dn]? = some (.deferred (some [])) := hK
        obtain ⟨rfl, rfl⟩ := Prod.mk.inj (Option.some.inj hr)
        refine ⟨by simp, .inl ⟨_, _, rfl, run_takeDeferred hK4, ?_⟩⟩
        refine ⟨_, results_tmp2 rfl _ _ _, ?_⟩
        exact ⟨_, _, rfl, Kd.S_mono (S_other (Kd.S_drew h6) (grownBy_putObj' W.drew Dn _) (fun q e => ⟨_, (Option.some.inj e) ▸ hK4, rfl⟩)) (fun _ _ => trivial), Kd.S_mono (S_other (Kd.S_drew h7) (grownBy_putObj' W.drew Dn _) (fun q e => ⟨_, (Option.some.inj e) ▸ hK4, rfl⟩)) (fun _ _ => trivial), (below_drew h2).grown (grownBy_putObj' W.drew Dn _) h2.size (fun q e => by obtain rfl := Option.some.inj e; omega)⟩
theorem lines_Read.calls (k : Nat) (a0 : ByteArray) (r1 : List Rw) (r2 : List Dg) (w : World) (h : lines_Read.f k a0 = some (r1, r2)) :
    Calls Tryd.prog 17 #[.string a0] w fun e w' => ∃ v0_ v1_ : Value, e = .returned (.tuple #[v0_, v1_]) ∧ Kd.S k35 35 w' w.heap.size (fun _ => True) v0_ r1 ∧ Kd.R k37 37 w' w.heap.size (fun _ => True) v1_ r2 ∧ Below w.heap.size w w' := by
  unfold lines_Read.f at h
  obtain ⟨⟨s, en⟩, h1, h2⟩ := Option.bind_eq_some_iff.1 h
  simp only at h2
  split at h2
  · rename_i hc
    split at h2
    · rename_i hp
      obtain ⟨x, h3, h4⟩ := Option.bind_eq_some_iff.1 h2
      exact (read_rows k w a0 s en x h1 hc h3 hp.1 hp.2 r1 r2 h4).mono (by rintro e w' ⟨v0, v1, rfl, h5, h6, h7⟩; exact ⟨v0, v1, rfl, h5, Kd.S_R h6, h7⟩)
    · cases h2
  · rename_i hc
    obtain ⟨rfl, rfl⟩ := Prod.mk.inj (Option.some.inj h2)
    obtain rfl : en = false := by
      cases en with
      | false => rfl
      | true => exact absurd (.inr rfl) hc
    exact (read_none w a0 s h1 (Decidable.of_not_not fun e => hc (.inl e))).mono (by rintro e w' ⟨rfl, hb⟩; exact ⟨_, _, rfl, Kd.S_nil _ _ _ _ _, Kd.R_nil _ _ _ _ _, hb⟩)
end Go.Proofs.YtmfkokjbjmahkaaDoor.Hand
