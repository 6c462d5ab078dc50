/- The law FillLines: whatever the input (any that can be read as data; the package variables as the program's text lays them), the call returns true, and each argument reads behind it as it read before. -/
import Derived.Test.YtfdfjlichpjobaaDoorRRPureFillLines
import Derived.Test.YtfdfjlichpjobaaDoorRRSaidFillLines
import Derived.Test.YtfdfjlichpjobaaDoorRRUptoKit
import Derived.Test.YtfdfjlichpjobaaDoorRROpenRows
import Derived.Test.YtfdfjlichpjobaaDoorRRTie
import Derived.Test.YtfdfjlichpjobaaDoorRRCards
import Derived.WalkKit
import Derived.ProofKit
import Derived.OpenShut
import Derived.ShutString
import Derived.ChangeOld
import Derived.Below
import Derived.SizedLaws
import Derived.LaidMore
import Derived.Lay
import Derived.SevenTiedAt
import Derived.Stop.Joined
import Derived.JoinedOf
namespace Go.Proofs.YtfdfjlichpjobaaDoorRR.fillLines
open Go.ChangeShapes Go.WideShapes Go.ChangeAt Go.RowKit Go.Proofs.YtfdfjlichpjobaaDoorRR.Open Go.Proofs.YtfdfjlichpjobaaDoorRR.X Go.Proofs.YtfdfjlichpjobaaDoorRRW.PrintWords Go.Proofs.YtfdfjlichpjobaaDoorRR.Hand
open Go.ChangeMaps (open_string shut_string)
set_option linter.unusedVariables false
set_option linter.unusedSimpArgs false
theorem own : ownKnob Tryd.prog.godebug = none := by kernel_rfl
theorem laidOut : laidOutB Tryd.prog = true := by kernel_rfl
abbrev lst : List (String × DataW Unit) := [("flong/runes.none", Rows.laid_flong_runes_none), ("flong/runes.wide", Rows.laid_flong_runes_wide), ("flong/fill.blank", Rows.laid_flong_fill_blank)]
set_option maxRecDepth 100000 in
theorem lifted (os : Os) (started : os.Started) (H : Type) (enc : TypeId × Value → H) (F : Stop.Interp) :
    ReturnsInHanded {} Tryd.checked os 4 .any (fun w args => ((Rows.OpenSpec.upto Rows.fillLinesSpec).pre enc Tryd.prog Tryd.f4 Rows.fillLinesUptoRow.domain false w args ∧ laidMetH Tryd.prog lst w) ∧ sizedMet enc Tryd.prog Tryd.f4 (Rows.OpenSpec.upto Rows.fillLinesSpec) false w args)
      (((Rows.OpenSpec.upto Rows.fillLinesSpec).at F).post enc Tryd.prog Tryd.f4 false true false false) := by
  refine returnsInHanded_of_cond_and (C := Tryd.checked) (s := (Rows.OpenSpec.upto Rows.fillLinesSpec)) (k := Rows.uptoSmall) rfl (X := fun w _ => laidMetH Tryd.prog lst w) (fun _ _ _ hh h => h.of_heap hh) own started (by kernel_rfl) Tryd.func4
    (witness_upto (enc := enc) (C := Tryd.checked) (os := os) (s := (Rows.OpenSpec.upto Rows.fillLinesSpec)) (k := Rows.uptoSmall) rfl (X := fun w _ => laidMetH Tryd.prog lst w) false (World.laidAll Tryd.prog os lst) #[.int .i64 0, .slice none 0 0] 8 (World.laidAll_os _ _ _)
      (World.shaped_of_ZipB (by kernel_rfl) (by kernel_rfl)) (by kernel_rfl) (x := ([.lit (.int .i64 0), .nil], [], [])) (by kernel_rfl) (by kernel_rfl) (by kernel_rfl) (by kernel_rfl)
      (by rw [MakeChecks.laidMetH_plain _ _ _ (by kernel_rfl)]; exact laidMet_laidAll _ (by kernel_rfl) (by kernel_rfl))) ?_
  intro W base args ds gs before hval0 hW hcnd hkk hsz0 hL0 _
  have hL : laidMet Tryd.prog lst W := by rw [MakeChecks.laidMetH_plain _ _ _ (by kernel_rfl)] at hL0; exact hL0
  have hsz : (DataW.weightsEach Tryd.prog (Tryd.f4.params.toList ++ Rows.fillLinesSpec.plain.varTypes Tryd.prog) (ds ++ gs)).all (· ≤ reachBytes) = true := hsz0
  have hval : ∀ (j : Nat) t v, Tryd.f4.params[j]? = some t → args[j]? = some v → Value.okWide Tryd.prog W .any base t v := hval0
  have hW' := hW
  obtain ⟨p, q, hA0, hV, rfl, hfz, hnd⟩ := hW
  have hA : DataW.TrodAll enc Tryd.prog W 0 (fun _ => true) true Tryd.f4.params.toList args.toList ds p := hA0
  rw [Tryd.params4] at hA hval hsz
  obtain ⟨v0, vs0, d0, ds0, p0, q0, hargs, rfl, rfl, h0, r0⟩ := trodAll_cons hA
  obtain ⟨v1, vs1, d1, ds1, p1, q1, rfl, rfl, rfl, h1, r1⟩ := trodAll_cons r0
  obtain ⟨rfl, rfl, rfl⟩ := trodAll_nil r1
  obtain rfl : args = #[v0, v1] := by cases args; simp_all
  obtain ⟨rfl, rfl⟩ := trodVars_none hV
  obtain ⟨a0, rfl, rfl, rfl, w0⟩ := open_int Tryd.underlying3 (hval 0 3 v0 rfl rfl) h0
  obtain ⟨b1, len1, cap1, rfl⟩ := okWide_slice Tryd.underlying24 (hval 1 24 v1 rfl rfl)
  have k1 := h1
  have lt1 : ∀ x ∈ p1, x.block < W.heap.size := by obtain ⟨m, hm⟩ := k1; exact DataW.trod_lt m _ _ _ hm
  obtain ⟨fuel1, hf1⟩ := h1
  obtain ⟨l1, ⟨A1, c1, he1, hc1, hr1⟩, hq1⟩ := (opens_slice Tryd.underlying24 (by kernel_rfl) opens_rowG) H enc W 0 _ _ fuel1 _ _ hf1
  obtain ⟨rfl, rfl, rfl⟩ : b1 = A1 ∧ len1 = l1.length ∧ cap1 = c1 := by simpa [Value.cells] using he1
  have y1 : l1.length * 24 ≤ 140737488351232 := by
    have z := sized_each hsz (j := 1) (t := 24) rfl Tryd.underlying24 rfl hq1
    rwa [show Tryd.prog.bytesOf 22 = 24 by kernel_rfl] at z
  have e1 := each_all (Q' := fun x => (∀ x1 ∈ x, fit39 x1)) (fun _ _ hz => hz.1) hq1
  have hbk : Rows.uptoBulkAll _ ≤ 1048576 := of_decide_eq_true hkk
  simp only [List.cons_append, List.nil_append, Rows.uptoBulkAll] at hbk
  have s1 : _ ≤ Rows.uptoBulk d1 := rows_bulk hq1
  have hG : GOK [0,2] W := GOK.cons (glob0 hL (by simp [lst]) (by simp [lst])) (GOK.cons (glob2 hL (by simp [lst])) (GOK.nil _))
  obtain ⟨k, h⟩ := Pure.FillLines a0 l1 w0 y1 e1 (by omega)
  refine (flonglaw12_FillLines.calls k a0 _ _ l1 true W hr1 hc1 hG h).mono fun e W' ⟨he, bel0⟩ => ?_
  have bel := bel0
  subst he
  exact ⟨_, rfl, _, _, _, [], _, [], hW', trodAll_mk1 (shut_bool Tryd.underlying4 _), (trodAll_cons_mk (shut_int Tryd.underlying3 w0) (trodAll_cons_mk (Below.trod laidOut (by kernel_rfl) (of_decide_eq_true (by kernel_rfl)) k1 bel lt1) trodAll_mk0)), rfl, bel.frame _, fun h => by cases h⟩
theorem over : Rows.FillLinesUptoSaid :=
  OpenClaim.holds_of_cond 4 Tryd.f4 rfl rfl rfl rfl rfl rfl rfl ⟨rfl, rfl, rfl, rfl, rfl⟩ rfl rfl rfl rfl rfl (by kernel_rfl) Tryd.func4 (by kernel_rfl)
    (of_decide_eq_true (by kernel_rfl)) (by unfold Func.isWrapper; first | (rw [if_pos (by decide +kernel)]; kernel_rfl) | (rw [if_neg (by decide +kernel)]; exact ⟨rfl, rfl⟩))
    (fun os started H enc _ F => lifted os started H enc F)
theorem card : Rows.FillLinesUptoCardSaid :=
  Claim7.holds_tied_plain_at .later [] [.widerDeep, .widerDeep, .data] true (true, "7ebe640b10f5ab5a9b12758b48af1f43f49551b9942c7ae802d519edc91250cb") false over (fun _ h => by cases h) (by kernel_rfl) (fun _ h => by cases h) fillLinesUpto_row_tie rfl ⟨rfl, rfl⟩ (by kernel_rfl) rfl
    (fun f fn hf hfn => by
      obtain rfl : f = 4 := Option.some.inj ((show Tryd.prog.funcNamed "flong/flonglaw12.FillLines" = some 4 by kernel_rfl).symm.trans hf) |>.symm
      obtain rfl : fn = Tryd.f4 := (Option.some.inj (Tryd.func4.symm.trans hfn)).symm
      exact ⟨by kernel_rfl, fun j t ht => by
        rw [Tryd.params4] at ht
        have hm : t ∈ [3, 24] := by simpa using Array.mem_of_getElem? ht
        have hall : ([3, 24].all fun u => !Tryd.prog.wantsStandIn u) = true := by kernel_rfl
        exact (show Tryd.prog.wantsStandIn t = false by simpa using List.all_eq_true.1 hall t hm)⟩)
    (by kernel_rfl)
end Go.Proofs.YtfdfjlichpjobaaDoorRR.fillLines
namespace Go.Proofs.YtfdfjlichpjobaaDoorRR
/-- The statement, under a short name. -/
theorem fillLines_holds : Rows.FillLinesUptoCardSaid := fillLines.card
#print axioms fillLines_holds
end Go.Proofs.YtfdfjlichpjobaaDoorRR
