/- The law AnsiJoins: whatever the input (any that can be read as data; the package variables as the program's text lays them), the call returns true, and each argument reads behind it as it read before. -/
import Derived.Test.YtdjepocklmlnbaaDoorPureAnsiJoins
import Derived.Test.YtdjepocklmlnbaaDoorSaidAnsiJoins
import Derived.Test.YtdjepocklmlnbaaDoorOpenA
import Derived.Test.YtdjepocklmlnbaaDoorTie
import Derived.Test.YtdjepocklmlnbaaDoorCards
import Derived.WalkKit
import Derived.ProofKit
import Derived.OpenShut
import Derived.ShutString
import Derived.ChangeOld
import Derived.Below
import Derived.SizedLaws
import Derived.LaidMore
import Derived.Lay
import Derived.SevenTiedAt
import Derived.Stop.Joined
import Derived.JoinedOf
namespace Go.Proofs.YtdjepocklmlnbaaDoor.ansiJoins
open Go.ChangeShapes Go.WideShapes Go.ChangeAt Go.RowKit Go.Proofs.YtdjepocklmlnbaaDoor.Open Go.Proofs.YtdjepocklmlnbaaDoor.X Go.Proofs.YtdjepocklmlnbaaDoorW.PrintWords Go.Proofs.YtdjepocklmlnbaaDoor.Hand
open Go.ChangeMaps (open_string shut_string)
set_option linter.unusedVariables false
set_option linter.unusedSimpArgs false
theorem own : ownKnob Tryd.prog.godebug = none := by kernel_rfl
theorem laidOut : laidOutB Tryd.prog = true := by kernel_rfl
abbrev lst : List (String × DataW Unit) := [("flong/runes.none", Rows.laid_flong_runes_none), ("flong/runes.wide", Rows.laid_flong_runes_wide), ("flong/cells.blank", Rows.laid_flong_cells_blank), ("flong/ansi.signs", Rows.laid_flong_ansi_signs)]
set_option maxRecDepth 100000 in
theorem lifted (os : Os) (started : os.Started) (H : Type) (enc : TypeId × Value → H) (F : Stop.Interp) :
    ReturnsInHanded {} Tryd.checked os 6 .any (fun w args => ((Rows.OpenSpec.upto Rows.ansiJoinsSpec).pre enc Tryd.prog Tryd.f6 Rows.ansiJoinsUptoRow.domain false w args ∧ laidMetH Tryd.prog lst w) ∧ sizedMet enc Tryd.prog Tryd.f6 (Rows.OpenSpec.upto Rows.ansiJoinsSpec) false w args)
      (((Rows.OpenSpec.upto Rows.ansiJoinsSpec).at F).post enc Tryd.prog Tryd.f6 false true false false) := by
  refine returnsInHanded_of_cond_and (C := Tryd.checked) (s := (Rows.OpenSpec.upto Rows.ansiJoinsSpec)) (k := Rows.uptoSmall) rfl (X := fun w _ => laidMetH Tryd.prog lst w) (fun _ _ _ hh h => h.of_heap hh) own started (by kernel_rfl) Tryd.func6
    (witness_upto (enc := enc) (C := Tryd.checked) (os := os) (s := (Rows.OpenSpec.upto Rows.ansiJoinsSpec)) (k := Rows.uptoSmall) rfl (X := fun w _ => laidMetH Tryd.prog lst w) false (World.laidAll Tryd.prog os lst) #[.slice none 0 0, .slice none 0 0, .slice none 0 0] 8 (World.laidAll_os _ _ _)
      (World.shaped_of_ZipB (by kernel_rfl) (by kernel_rfl)) (by kernel_rfl) (x := ([.nil, .nil, .nil], [], [])) (by kernel_rfl) (by kernel_rfl) (by kernel_rfl) (by kernel_rfl)
      (by rw [MakeChecks.laidMetH_plain _ _ _ (by kernel_rfl)]; exact laidMet_laidAll _ (by kernel_rfl) (by kernel_rfl))) ?_
  intro W base args ds gs before hval0 hW hcnd hkk hsz0 hL0 _
  have hL : laidMet Tryd.prog lst W := by rw [MakeChecks.laidMetH_plain _ _ _ (by kernel_rfl)] at hL0; exact hL0
  have hsz : (DataW.weightsEach Tryd.prog (Tryd.f6.params.toList ++ Rows.ansiJoinsSpec.plain.varTypes Tryd.prog) (ds ++ gs)).all (· ≤ reachBytes) = true := hsz0
  have hval : ∀ (j : Nat) t v, Tryd.f6.params[j]? = some t → args[j]? = some v → Value.okWide Tryd.prog W .any base t v := hval0
  have hW' := hW
  obtain ⟨p, q, hA0, hV, rfl, hfz, hnd⟩ := hW
  have hA : DataW.TrodAll enc Tryd.prog W 0 (fun _ => true) true Tryd.f6.params.toList args.toList ds p := hA0
  rw [Tryd.params6] at hA hval hsz
  obtain ⟨v0, vs0, d0, ds0, p0, q0, hargs, rfl, rfl, h0, r0⟩ := trodAll_cons hA
  obtain ⟨v1, vs1, d1, ds1, p1, q1, rfl, rfl, rfl, h1, r1⟩ := trodAll_cons r0
  obtain ⟨v2, vs2, d2, ds2, p2, q2, rfl, rfl, rfl, h2, r2⟩ := trodAll_cons r1
  obtain ⟨rfl, rfl, rfl⟩ := trodAll_nil r2
  obtain rfl : args = #[v0, v1, v2] := by cases args; simp_all
  obtain ⟨rfl, rfl⟩ := trodVars_none hV
  obtain ⟨b0, len0, cap0, rfl⟩ := okWide_slice Tryd.underlying30 (hval 0 30 v0 rfl rfl)
  have k0 := h0
  have lt0 : ∀ x ∈ p0, x.block < W.heap.size := by obtain ⟨m, hm⟩ := k0; exact DataW.trod_lt m _ _ _ hm
  obtain ⟨fuel0, hf0⟩ := h0
  obtain ⟨l0, ⟨A0, c0, he0, hc0, hr0⟩, hq0⟩ := (opens_slice Tryd.underlying30 (by kernel_rfl) opens_S35) H enc W 0 _ _ fuel0 _ _ hf0
  obtain ⟨rfl, rfl, rfl⟩ : b0 = A0 ∧ len0 = l0.length ∧ cap0 = c0 := by simpa [Value.cells] using he0
  have y0 : l0.length * 40 ≤ 140737488351232 := by
    have z := sized_each hsz (j := 0) (t := 30) rfl Tryd.underlying30 rfl hq0
    rwa [show Tryd.prog.bytesOf 35 = 40 by kernel_rfl] at z
  have e0 := each_all (Q' := fun x => fit35 x) (fun _ _ hz => hz.1) hq0
  obtain ⟨b1, len1, cap1, rfl⟩ := okWide_slice Tryd.underlying30 (hval 1 30 v1 rfl rfl)
  have k1 := h1
  have lt1 : ∀ x ∈ p1, x.block < W.heap.size := by obtain ⟨m, hm⟩ := k1; exact DataW.trod_lt m _ _ _ hm
  obtain ⟨fuel1, hf1⟩ := h1
  obtain ⟨l1, ⟨A1, c1, he1, hc1, hr1⟩, hq1⟩ := (opens_slice Tryd.underlying30 (by kernel_rfl) opens_S35) H enc W 0 _ _ fuel1 _ _ hf1
  obtain ⟨rfl, rfl, rfl⟩ : b1 = A1 ∧ len1 = l1.length ∧ cap1 = c1 := by simpa [Value.cells] using he1
  have y1 : l1.length * 40 ≤ 140737488351232 := by
    have z := sized_each hsz (j := 1) (t := 30) rfl Tryd.underlying30 rfl hq1
    rwa [show Tryd.prog.bytesOf 35 = 40 by kernel_rfl] at z
  have e1 := each_all (Q' := fun x => fit35 x) (fun _ _ hz => hz.1) hq1
  obtain ⟨b2, len2, cap2, rfl⟩ := okWide_slice Tryd.underlying33 (hval 2 33 v2 rfl rfl)
  have k2 := h2
  have lt2 : ∀ x ∈ p2, x.block < W.heap.size := by obtain ⟨m, hm⟩ := k2; exact DataW.trod_lt m _ _ _ hm
  obtain ⟨fuel2, hf2⟩ := h2
  obtain ⟨l2, ⟨A2, c2, he2, hc2, hr2⟩, hq2⟩ := (opens_slice Tryd.underlying33 (by kernel_rfl) opens_S44) H enc W 0 _ _ fuel2 _ _ hf2
  obtain ⟨rfl, rfl, rfl⟩ : b2 = A2 ∧ len2 = l2.length ∧ cap2 = c2 := by simpa [Value.cells] using he2
  have y2 : l2.length * 8 ≤ 140737488351232 := by
    have z := sized_each hsz (j := 2) (t := 33) rfl Tryd.underlying33 rfl hq2
    rwa [show Tryd.prog.bytesOf 44 = 8 by kernel_rfl] at z
  have e2 := each_all (Q' := fun x => fit44 x) (fun _ _ hz => hz.1) hq2
  have hbk : Rows.uptoBulkAll _ ≤ 1048576 := of_decide_eq_true hkk
  simp only [List.cons_append, List.nil_append, Rows.uptoBulkAll] at hbk
  have s0 : _ ≤ Rows.uptoBulk d0 := lines_bulk hq0
  have s1 : _ ≤ Rows.uptoBulk d1 := lines_bulk hq1
  have hG : GOK [0,1,2] W := GOK.cons (glob0 hL (by simp [lst]) (by simp [lst])) (GOK.cons (glob1 hL (by simp [lst])) (GOK.cons (glob2 hL (by simp [lst])) (GOK.nil _)))
  obtain ⟨k, h⟩ := Pure.AnsiJoins l0 l1 l2 y0 e0 y1 e1 y2 e2 (by omega) (by omega)
  refine (flonglaw19_AnsiJoins.calls k (fun q => q < W.heap.size) _ _ l0 (fun q => q < W.heap.size) _ _ l1 _ _ l2 true W (Kd.V_mk hc0 (Kd.C_F (Kd.heap_iso _ (Kd.heap_pair (Kd.heap_int .i64) (Kd.heap_pair (Kd.heap_slice 44 (Kd.heap_iso _ (Kd.heap_pair (Kd.heap_int .i32) (Kd.heap_int .u8)))) Kd.heap_bool))) hr0)) (Kd.V_mk hc1 (Kd.C_F (Kd.heap_iso _ (Kd.heap_pair (Kd.heap_int .i64) (Kd.heap_pair (Kd.heap_slice 44 (Kd.heap_iso _ (Kd.heap_pair (Kd.heap_int .i32) (Kd.heap_int .u8)))) Kd.heap_bool))) hr1)) hr2 hc2 hG h).mono fun e W' ⟨he, bel0⟩ => ?_
  have bel := bel0
  subst he
  exact ⟨_, rfl, _, _, _, [], _, [], hW', trodAll_mk1 (shut_bool Tryd.underlying4 _), (trodAll_cons_mk (Below.trod laidOut (by kernel_rfl) (of_decide_eq_true (by kernel_rfl)) k0 bel lt0) (trodAll_cons_mk (Below.trod laidOut (by kernel_rfl) (of_decide_eq_true (by kernel_rfl)) k1 bel lt1) (trodAll_cons_mk (Below.trod laidOut (by kernel_rfl) (of_decide_eq_true (by kernel_rfl)) k2 bel lt2) trodAll_mk0))), rfl, bel.frame _, fun h => by cases h⟩
theorem over : Rows.AnsiJoinsUptoSaid :=
  OpenClaim.holds_of_cond 6 Tryd.f6 rfl rfl rfl rfl rfl rfl rfl ⟨rfl, rfl, rfl, rfl, rfl⟩ rfl rfl rfl rfl rfl (by kernel_rfl) Tryd.func6 (by kernel_rfl)
    (of_decide_eq_true (by kernel_rfl)) (by unfold Func.isWrapper; first | (rw [if_pos (by decide +kernel)]; kernel_rfl) | (rw [if_neg (by decide +kernel)]; exact ⟨rfl, rfl⟩))
    (fun os started H enc _ F => lifted os started H enc F)
theorem card : Rows.AnsiJoinsUptoCardSaid :=
  Claim7.holds_tied_plain_at .later [] [.widerDeep, .widerDeep, .data, .data] true (true, "b773fcb373db0e63503aa45d8aabad3a0b8f75e5980bafac87f356e56c97f9c1") false over (fun _ h => by cases h) (by kernel_rfl) (fun _ h => by cases h) ansiJoinsUpto_row_tie rfl ⟨rfl, rfl⟩ (by kernel_rfl) rfl
    (fun f fn hf hfn => by
      obtain rfl : f = 6 := Option.some.inj ((show Tryd.prog.funcNamed "flong/flonglaw19.AnsiJoins" = some 6 by kernel_rfl).symm.trans hf) |>.symm
      obtain rfl : fn = Tryd.f6 := (Option.some.inj (Tryd.func6.symm.trans hfn)).symm
      exact ⟨by kernel_rfl, fun j t ht => by
        rw [Tryd.params6] at ht
        have hm : t ∈ [30, 30, 33] := by simpa using Array.mem_of_getElem? ht
        have hall : ([30, 30, 33].all fun u => !Tryd.prog.wantsStandIn u) = true := by kernel_rfl
        exact (show Tryd.prog.wantsStandIn t = false by simpa using List.all_eq_true.1 hall t hm)⟩)
    (by kernel_rfl)
end Go.Proofs.YtdjepocklmlnbaaDoor.ansiJoins
namespace Go.Proofs.YtdjepocklmlnbaaDoor
/-- The statement, under a short name. -/
theorem ansiJoins_holds : Rows.AnsiJoinsUptoCardSaid := ansiJoins.card
#print axioms ansiJoins_holds
end Go.Proofs.YtdjepocklmlnbaaDoor
