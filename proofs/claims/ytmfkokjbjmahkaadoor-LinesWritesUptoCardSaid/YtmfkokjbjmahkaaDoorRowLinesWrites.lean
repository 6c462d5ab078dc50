/- The law LinesWrites: whatever the input (any that can be read as data; the package variables as the program's text lays them), the call returns true, and each argument reads behind it as it read before. -/
import Derived.Test.YtmfkokjbjmahkaaDoorPureLinesWrites
import Derived.Test.YtmfkokjbjmahkaaDoorSaidLinesWrites
import Derived.Test.YtmfkokjbjmahkaaDoorOpenA
import Derived.Test.YtmfkokjbjmahkaaDoorTie
import Derived.Test.YtmfkokjbjmahkaaDoorCards
import Derived.WalkKit
import Derived.ProofKit
import Derived.OpenShut
import Derived.ShutString
import Derived.ChangeOld
import Derived.Below
import Derived.SizedLaws
import Derived.LaidMore
import Derived.Lay
import Derived.SevenTiedAt
import Derived.Stop.Joined
import Derived.JoinedOf
namespace Go.Proofs.YtmfkokjbjmahkaaDoor.linesWrites
open Go.ChangeShapes Go.WideShapes Go.ChangeAt Go.RowKit Go.Proofs.YtmfkokjbjmahkaaDoor.Open Go.Proofs.YtmfkokjbjmahkaaDoor.X Go.Proofs.YtmfkokjbjmahkaaDoorW.PrintWords Go.Proofs.YtmfkokjbjmahkaaDoor.Hand
open Go.ChangeMaps (open_string shut_string)
set_option linter.unusedVariables false
set_option linter.unusedSimpArgs false
theorem own : ownKnob Tryd.prog.godebug = none := by kernel_rfl
theorem laidOut : laidOutB Tryd.prog = true := by kernel_rfl
abbrev lst : List (String × DataW Unit) := [("unicode/utf8.acceptRanges", Rows.laid_unicode_utf8_acceptRanges), ("unicode/utf8.first", Rows.laid_unicode_utf8_first)]
set_option maxRecDepth 100000 in
theorem lifted (os : Os) (started : os.Started) (H : Type) (enc : TypeId × Value → H) (F : Stop.Interp) :
    ReturnsInHanded {} Tryd.checked os 10 .any (fun w args => ((Rows.OpenSpec.upto Rows.linesWritesSpec).pre enc Tryd.prog Tryd.f10 Rows.linesWritesUptoRow.domain false w args ∧ laidMetH Tryd.prog lst w) ∧ sizedMet enc Tryd.prog Tryd.f10 (Rows.OpenSpec.upto Rows.linesWritesSpec) false w args)
      (((Rows.OpenSpec.upto Rows.linesWritesSpec).at F).post enc Tryd.prog Tryd.f10 false true false false) := by
  refine Open.cond_shaped (C := Tryd.checked) (s := (Rows.OpenSpec.upto Rows.linesWritesSpec)) (k := Rows.uptoSmall) rfl (X := fun w _ => laidMetH Tryd.prog lst w) (fun _ _ _ hh h => h.of_heap hh) own started (by kernel_rfl) Tryd.func10
    (witness_upto (enc := enc) (C := Tryd.checked) (os := os) (s := (Rows.OpenSpec.upto Rows.linesWritesSpec)) (k := Rows.uptoSmall) rfl (X := fun w _ => laidMetH Tryd.prog lst w) false (World.laidAll Tryd.prog os lst) #[.slice none 0 0] 8 (World.laidAll_os _ _ _)
      (World.shaped_of_ZipB (by kernel_rfl) (by kernel_rfl)) (by kernel_rfl) (x := ([.nil], [], [])) (by kernel_rfl) (by kernel_rfl) (by kernel_rfl) (by kernel_rfl)
      (by rw [MakeChecks.laidMetH_plain _ _ _ (by kernel_rfl)]; exact laidMet_laidAll _ (by kernel_rfl) (by kernel_rfl))) ?_
  intro W base args ds gs before hval0 hW hcnd hkk hsz0 hL0 hSh _
  have hL : laidMet Tryd.prog lst W := by rw [MakeChecks.laidMetH_plain _ _ _ (by kernel_rfl)] at hL0; exact hL0
  have hsz : (DataW.weightsEach Tryd.prog (Tryd.f10.params.toList ++ Rows.linesWritesSpec.plain.varTypes Tryd.prog) (ds ++ gs)).all (· ≤ reachBytes) = true := hsz0
  have hval : ∀ (j : Nat) t v, Tryd.f10.params[j]? = some t → args[j]? = some v → Value.okWide Tryd.prog W .any base t v := hval0
  have hW' := hW
  obtain ⟨p, q, hA0, hV, rfl, hfz, hnd⟩ := hW
  have hA : DataW.TrodAll enc Tryd.prog W 0 (fun _ => true) true Tryd.f10.params.toList args.toList ds p := hA0
  rw [Tryd.params10] at hA hval hsz
  obtain ⟨v0, vs0, d0, ds0, p0, q0, hargs, rfl, rfl, h0, r0⟩ := trodAll_cons hA
  obtain ⟨rfl, rfl, rfl⟩ := trodAll_nil r0
  obtain rfl : args = #[v0] := by cases args; simp_all
  obtain ⟨rfl, rfl⟩ := trodVars_none hV
  obtain ⟨b0, len0, cap0, rfl⟩ := okWide_slice Tryd.underlying30 (hval 0 30 v0 rfl rfl)
  have k0 := h0
  have lt0 : ∀ x ∈ p0, x.block < W.heap.size := by obtain ⟨m, hm⟩ := k0; exact DataW.trod_lt m _ _ _ hm
  obtain ⟨fuel0, hf0⟩ := h0
  obtain ⟨l0, ⟨A0, c0, he0, hc0, hr0⟩, hq0⟩ := (opens_slice Tryd.underlying30 (by kernel_rfl) opens_S35) H enc W 0 _ _ fuel0 _ _ hf0
  obtain ⟨rfl, rfl, rfl⟩ : b0 = A0 ∧ len0 = l0.length ∧ cap0 = c0 := by simpa [Value.cells] using he0
  have y0 : l0.length * 64 ≤ 140737488351232 := by
    have z := sized_each hsz (j := 0) (t := 30) rfl Tryd.underlying30 rfl hq0
    rwa [show Tryd.prog.bytesOf 35 = 64 by kernel_rfl] at z
  have e0 := each_all (Q' := fun x => fit35 x) (fun _ _ hz => hz.1) hq0
  have hbk : Rows.uptoBulkAll _ ≤ 1048576 := of_decide_eq_true hkk
  simp only [List.cons_append, List.nil_append, Rows.uptoBulkAll] at hbk
  have s0 : _ ≤ Rows.uptoBulk d0 := rowsR_bulk hq0
  have hG : GOK [0] W := GOK.cons (glob0 hSh) (GOK.nil _)
  obtain ⟨k, h⟩ := Pure.LinesWrites l0 y0 e0 (by omega)
  refine (flonglaw05_LinesWrites.calls k _ _ l0 true W hr0 hc0 hG h).mono fun e W' ⟨he, bel0⟩ => ?_
  have bel := bel0
  subst he
  exact ⟨_, rfl, _, _, _, [], _, [], hW', trodAll_mk1 (shut_bool Tryd.underlying4 _), (trodAll_cons_mk (Below.trod laidOut (by kernel_rfl) (of_decide_eq_true (by kernel_rfl)) k0 bel lt0) trodAll_mk0), rfl, bel.frame _, fun h => by cases h⟩
theorem over : Rows.LinesWritesUptoSaid :=
  OpenClaim.holds_of_cond 10 Tryd.f10 rfl rfl rfl rfl rfl rfl rfl ⟨rfl, rfl, rfl, rfl, rfl⟩ rfl rfl rfl rfl rfl (by kernel_rfl) Tryd.func10 (by kernel_rfl)
    (of_decide_eq_true (by kernel_rfl)) (by unfold Func.isWrapper; first | (rw [if_pos (by decide +kernel)]; kernel_rfl) | (rw [if_neg (by decide +kernel)]; exact ⟨rfl, rfl⟩))
    (fun os started H enc _ F => lifted os started H enc F)
theorem card : Rows.LinesWritesUptoCardSaid :=
  Claim7.holds_tied_plain_at .later [] [.data, .pinned] true (true, "8f538eea5cdc7419f97d1b89b429aa574586bdd9def490e5a5f8dbd6f1485be2") false over (fun _ h => by cases h) (by kernel_rfl) (fun _ h => by cases h) linesWritesUpto_row_tie rfl ⟨rfl, rfl⟩ (by kernel_rfl) rfl
    (fun f fn hf hfn => by
      obtain rfl : f = 10 := Option.some.inj ((show Tryd.prog.funcNamed "flong/flonglaw05.LinesWrites" = some 10 by kernel_rfl).symm.trans hf) |>.symm
      obtain rfl : fn = Tryd.f10 := (Option.some.inj (Tryd.func10.symm.trans hfn)).symm
      exact ⟨by kernel_rfl, fun j t ht => by
        rw [Tryd.params10] at ht
        have hm : t ∈ [30] := by simpa using Array.mem_of_getElem? ht
        have hall : ([30].all fun u => !Tryd.prog.wantsStandIn u) = true := by kernel_rfl
        exact (show Tryd.prog.wantsStandIn t = false by simpa using List.all_eq_true.1 hall t hm)⟩)
    (by kernel_rfl)
end Go.Proofs.YtmfkokjbjmahkaaDoor.linesWrites
namespace Go.Proofs.YtmfkokjbjmahkaaDoor
/-- The statement, under a short name. -/
theorem linesWrites_holds : Rows.LinesWritesUptoCardSaid := linesWrites.card
#print axioms linesWrites_holds
end Go.Proofs.YtmfkokjbjmahkaaDoor
