-- Written by this session's xprint.py (a variant of the kit's printer). Not trusted: Lean checks it.
import Derived.Test.YtmfkokjbjmahkaaDoorX0
import Derived.Test.YtmfkokjbjmahkaaDoorSlim
import Derived.Test.YtmfkokjbjmahkaaDoorX2
import Derived.Test.YtmfkokjbjmahkaaDoorX3
import Derived.Test.YtmfkokjbjmahkaaDoorHandA
import Derived.Test.YtmfkokjbjmahkaaDoorHandE
namespace Go.Proofs.YtmfkokjbjmahkaaDoor.X
open Go.Proofs.YtmfkokjbjmahkaaDoor.Hand
open Go.RowKit Go.Proofs.YtmfkokjbjmahkaaDoorW.PrintWords Go.Proofs.YtmfkokjbjmahkaaDoorW.PrintLast Go.Proofs.YtmfkokjbjmahkaaDoorW.PrintMore
attribute [local go_sem] max2_int min2_int max_two min_two max_three min_three max_four min_four   -- for this text's walks alone
set_option linter.unusedVariables false
set_option maxHeartbeats 8000000
set_option maxRecDepth 100000
set_option linter.unusedSimpArgs false

/-! ### flonglaw05_known: function 11 -/
def flonglaw05_known.f (k : Nat)  : Option (Bool) := (lines_Read.f k (⟨#[46, 66, 32, 34, 97, 32, 98, 34, 32, 99, 10]⟩ : ByteArray)).bind fun bt137 => ((flongref05_Same.f k bt137.1 (([(⟨1, (⟨#[66]⟩ : ByteArray), (([(⟨#[97, 32, 98]⟩ : ByteArray), (⟨#[99]⟩ : ByteArray)] : List ByteArray)), (⟨#[]⟩ : ByteArray)⟩ : S35)] : List (S35)))).bind fun t149 => (if t149 = true then (if (bt137.2.length : Int) = 0 then ((lines_Quoted.f (⟨#[120]⟩ : ByteArray)).bind fun t150 => (some (t150.toList == ([34, 120, 34] : List UInt8)))) else (some false)) else (some false)))
theorem flonglaw05_known.mono : ∀ k, LeO (flonglaw05_known.f k ) (flonglaw05_known.f (k + 1) ) := by
 intro  k
 unfold flonglaw05_known.f
 repeat' first
   | (with_reducible exact flongref05_Same.mono _ _ _)
   | (with_reducible exact lines_Read.mono _ _)
   | (with_reducible exact LeO.refl _)
   | (with_reducible exact LeO.none _)
   | (with_reducible refine LeO.ite ?_ ?_)
   | (with_reducible refine LeO.bind ?_ (fun _ => ?_))
theorem flonglaw05_known.calls (k : Nat)  (r : Bool) (w : World) (hG : GOK [0] w) (h : flonglaw05_known.f k  = some r) :
  Calls Tryd.prog 11 #[] w fun e w' => e = .returned (.bool r) ∧ Below w.heap.size w w' := by
 have hu35 := Tryd.underlying35
 have HG := Aside0.mk hG
 clear hG
 have HB := Aside0.mk (Below.refl w.heap.size w)
 have H : ((lines_Read.f k (⟨#[46, 66, 32, 34, 97, 32, 98, 34, 32, 99, 10]⟩ : ByteArray)).bind fun bt137 => ((flongref05_Same.f k bt137.1 (([(⟨1, (⟨#[66]⟩ : ByteArray), (([(⟨#[97, 32, 98]⟩ : ByteArray), (⟨#[99]⟩ : ByteArray)] : List ByteArray)), (⟨#[]⟩ : ByteArray)⟩ : S35)] : List (S35)))).bind fun t149 => (if t149 = true then (if (bt137.2.length : Int) = 0 then ((lines_Quoted.f (⟨#[120]⟩ : ByteArray)).bind fun t150 => (some (t150.toList == ([34, 120, 34] : List UInt8)))) else (some false)) else (some false)))) = some r := h
 clear h
 replace H := Option.bind_eq_some_iff.mp H
 obtain ⟨⟨t137, t138⟩, A10, H⟩ := H
 replace H : ((flongref05_Same.f k t137 (([(⟨1, (⟨#[66]⟩ : ByteArray), (([(⟨#[97, 32, 98]⟩ : ByteArray), (⟨#[99]⟩ : ByteArray)] : List ByteArray)), (⟨#[]⟩ : ByteArray)⟩ : S35)] : List (S35)))).bind fun t149 => (if t149 = true then (if (t138.length : Int) = 0 then ((lines_Quoted.f (⟨#[120]⟩ : ByteArray)).bind fun t150 => (some (t150.toList == ([34, 120, 34] : List UInt8)))) else (some false)) else (some false))) = some r := H
 have A1 := Aside0.mk A10
 clear A10
 obtain ⟨y143, hy143⟩ : ∃ y_ : List ByteArray, y_ = (([(⟨#[97, 32, 98]⟩ : ByteArray), (⟨#[99]⟩ : ByteArray)] : List ByteArray)) := ⟨_, rfl⟩
 replace H : ((flongref05_Same.f k t137 (([(⟨1, (⟨#[66]⟩ : ByteArray), y143, (⟨#[]⟩ : ByteArray)⟩ : S35)] : List (S35)))).bind fun t149 => (if t149 = true then (if (t138.length : Int) = 0 then ((lines_Quoted.f (⟨#[120]⟩ : ByteArray)).bind fun t150 => (some (t150.toList == ([34, 120, 34] : List UInt8)))) else (some false)) else (some false))) = some r := hyA hy143 H
 have Ny143 := Aside0.mk hy143
 clear hy143
 obtain ⟨y146, hy146⟩ : ∃ y_ : List (S35), y_ = (([(⟨1, (⟨#[66]⟩ : ByteArray), y143, (⟨#[]⟩ : ByteArray)⟩ : S35)] : List (S35))) := ⟨_, rfl⟩
 replace H : ((flongref05_Same.f k t137 y146).bind fun t149 => (if t149 = true then (if (t138.length : Int) = 0 then ((lines_Quoted.f (⟨#[120]⟩ : ByteArray)).bind fun t150 => (some (t150.toList == ([34, 120, 34] : List UInt8)))) else (some false)) else (some false))) = some r := hyA hy146 H
 have Ny146 := Aside0.mk hy146
 clear hy146
 replace H := Option.bind_eq_some_iff.mp H
 obtain ⟨t149, A20, H⟩ := H
 replace H : (if t149 = true then (if (t138.length : Int) = 0 then ((lines_Quoted.f (⟨#[120]⟩ : ByteArray)).bind fun t150 => (some (t150.toList == ([34, 120, 34] : List UInt8)))) else (some false)) else (some false)) = some r := H
 have A2 := Aside0.mk A20
 clear A20
 by_cases c3 : t149 = true
 ·subst c3
  have H1 : (if (t138.length : Int) = 0 then ((lines_Quoted.f (⟨#[120]⟩ : ByteArray)).bind fun t150 => (some (t150.toList == ([34, 120, 34] : List UInt8)))) else (some false)) = some r := by rw [if_pos rfl] at H; exact H
  clear H
  have H := H1
  clear H1
  by_cases c4 : (t138.length : Int) = 0
  ·rw [if_pos c4] at H
   have c4b0 : ((t138.length : Int) == 0) = true := beq_iff_eq.mpr c4
   have c4b1 : ((t138.length : Int) != 0) = false := bne_eq_false_iff_eq.mpr c4
   clear c4
   replace H := Option.bind_eq_some_iff.mp H
   obtain ⟨t150, A50, H⟩ := H
   replace H : (some (t150.toList == ([34, 120, 34] : List UInt8))) = some r := H
   have A5 := Aside0.mk A50
   clear A50
   obtain rfl := Option.some.inj H
   go_enter Tryd.func11, Tryd.ntmps11
   go_wp2_with (first | ((with_reducible refine gate_callee (f := 17) rfl ?_); refine goesL_ (some 4) rfl rfl Tryd.func17 (by kernel_rfl) rfl #[.string (⟨#[46, 66, 32, 34, 97, 32, 98, 34, 32, 99, 10]⟩ : ByteArray)] rfl aP ?_; (with_reducible refine (lines_Read.calls k (⟨#[46, 66, 32, 34, 97, 32, 98, 34, 32, 99, 10]⟩ : ByteArray) t137 t138 _ A1.out).mono ?_); rintro e w6 ⟨v139, v141, rfl, ho0, ho1, hb⟩; refine ⟨_, rfl, ?_⟩; have HO140 := Aside0.mk (Kd.N_lower (Kd.N_mono (ok' := fun k_ => some k_ ≠ (v141 : Value).ownBlock) (Kd.S_N (Kd.S_bound (Kd.S_apart' ho0 (Kd.R_typed ho1) (by decide)))) (fun k_ hk_ => hk_.1.2)) (below_size bA)); have HO142 := Aside0.mk (Kd.R_lower ho1 (below_size bA)); replace HB := Aside0.mk (below_step bA hb); (try clear hb); (try clear hb2); (try clear hk); (try clear hi); (try clear ho0); (try clear ho1)) | ((with_reducible refine gate_dst (N := 8) rfl ?_); (try (refine gate_guard (by rfl) ?_; dsimp only)); refine Kd.R_lit Kd.string _ 9 ?hg (N := 8) ?hd (xs := ([(⟨#[97, 32, 98]⟩ : ByteArray), (⟨#[99]⟩ : ByteArray)] : List ByteArray)) (inner := [.string (⟨#[97, 32, 98]⟩ : ByteArray), .string (⟨#[99]⟩ : ByteArray)]) (ok := fun _ => True) (okp := fun _ => True) ?hr ?hp (fun _ hk => hk) trivial (Below.refl _ _) (Nat.le_refl _) (by simp) ?_; (case hd => rfl); (case hg => rfl); (case hr => first | (go_simp; done) | (go_simp; rfl)); (case hp => exact (Reps.one (show Kd.M Kd.string _ _ _ (⟨#[97, 32, 98]⟩ : ByteArray) [.string (⟨#[97, 32, 98]⟩ : ByteArray)] from rfl) (Reps.one (show Kd.M Kd.string _ _ _ (⟨#[99]⟩ : ByteArray) [.string (⟨#[99]⟩ : ByteArray)] from rfl) (Reps.none _ _)))); intro v144 w7 ho8 hb hg_ hnew_; clear hg_ hnew_; (first | rw [← Ny143.out] at ho8 | (simp only [Int.reduceToNat] at ho8; rw [← Ny143.out] at ho8)); have n0_ := Aside0.mk (Kd.N_elder' (by (with_reducible repeat (first | apply Kd.N_alloc | apply Kd.N_drewN | apply Kd.N_drew)); exact HO140.out) (Kd.R_base ho8) hb); have n1_ := Aside0.mk (Kd.R_below (kR HO142) hb); have n2_ := Aside0.mk (Kd.R_lower ho8 (below_size bA)); have n3_ := Aside0.mk (below_step bA hb); clear HO140; clear HO142; clear HB; have HO140 := n0_; have HO142 := n1_; have HO145 := n2_; have HB := n3_; clear n0_ n1_ n2_ n3_; clear hb ho8; obtain ⟨Ao9, co9, eo9⟩ := Kd.R_slice HO145.out; subst eo9) | ((with_reducible refine gate_dst (N := 10) rfl ?_); (try (refine gate_guard (by rfl) ?_; dsimp only)); refine Kd.N_lit k35 _ 35 ?hg (N' := 10) ?hd (xs := ([(⟨1, (⟨#[66]⟩ : ByteArray), y143, (⟨#[]⟩ : ByteArray)⟩ : S35)] : List (S35))) (inner := [.int .i64 1, .string (⟨#[66]⟩ : ByteArray), .slice Ao9 y143.length co9, .string (⟨#[]⟩ : ByteArray)]) (ok := (fun k_ => some k_ ≠ (v139 : Value).ownBlock ∧ some k_ ≠ (v141 : Value).ownBlock)) (okp := (fun k_ => some k_ ≠ (v139 : Value).ownBlock ∧ some k_ ≠ (v141 : Value).ownBlock)) ?hr ?hp (fun _ hk => hk) ((show ∀ k_, w7.heap.size ≤ k_ → (fun k_ => some k_ ≠ (v139 : Value).ownBlock ∧ some k_ ≠ (v141 : Value).ownBlock) k_ from fun k_ hk => ⟨Kd.fresh' (Kd.N_lt (by (with_reducible repeat (first | apply Kd.N_alloc | apply Kd.N_drewN | apply Kd.N_drew)); exact HO140.out)) k_ hk, Kd.fresh' (Kd.R_lt (kR HO142)) k_ hk⟩) _ (Nat.le_refl _)) (Below.refl _ _) (Nat.le_refl _) (by simp) ?_; (case hd => rfl); (case hg => rfl); (case hr => first | (go_simp; done) | (go_simp; rfl)); (case hp => exact (Reps.c4 (show Kd.FK k35 _ _ (⟨1, (⟨#[66]⟩ : ByteArray), y143, (⟨#[]⟩ : ByteArray)⟩ : S35) [.int .i64 1, .string (⟨#[66]⟩ : ByteArray), .slice Ao9 y143.length co9, .string (⟨#[]⟩ : ByteArray)] from (k35_mkF _ _ (⟨1, (⟨#[66]⟩ : ByteArray), y143, (⟨#[]⟩ : ByteArray)⟩ : S35) (Kd.R_reads' (Kd.R_mono (ok' := (fun k_ => some k_ ≠ (v139 : Value).ownBlock ∧ some k_ ≠ (v141 : Value).ownBlock)) (Kd.R_apart' (Kd.R_apart' (HO145.out) (Kd.N_typed HO140.out) (by decide)) (Kd.R_typed HO142.out) (by decide)) (fun k_ hk => ⟨hk.1.2, hk.2⟩))).2.1 (Kd.R_F (Kd.R_mono (ok' := (fun k_ => some k_ ≠ (v139 : Value).ownBlock ∧ some k_ ≠ (v141 : Value).ownBlock)) (Kd.R_apart' (Kd.R_apart' (HO145.out) (Kd.N_typed HO140.out) (by decide)) (Kd.R_typed HO142.out) (by decide)) (fun k_ hk => ⟨hk.1.2, hk.2⟩))))) (Reps.none _ _))); intro v147 w10 ho11 hb hg_ hnew_; clear hg_ hnew_; (first | rw [← Ny146.out] at ho11 | (simp only [Int.reduceToNat] at ho11; rw [← Ny146.out] at ho11)); have n0_ := Aside0.mk (Kd.N_elder' (by (with_reducible repeat (first | apply Kd.N_alloc | apply Kd.N_drewN | apply Kd.N_drew)); exact HO140.out) (Kd.N_base ho11) hb); have n1_ := Aside0.mk (Kd.R_below (kR HO142) hb); have n2_ := Aside0.mk (Kd.N_lower ho11 (below_size bA)); have n3_ := Aside0.mk (below_step bA hb); clear HO140; clear HO142; clear HB; clear HO145; have HO140 := n0_; have HO142 := n1_; have HO148 := n2_; have HB := n3_; clear n0_ n1_ n2_ n3_; clear hb ho11; obtain ⟨Ao12, co12, eo12⟩ := Kd.N_slice HO140.out; subst eo12; obtain ⟨Ao13, co13, eo13⟩ := Kd.N_slice HO148.out; subst eo13) | ((with_reducible refine gate_callee (f := 18) rfl ?_); refine goesL_ (some 11) rfl rfl Tryd.func18 (by kernel_rfl) rfl #[.slice Ao12 t137.length co12, .slice Ao13 y146.length co13] rfl aP ?_; (with_reducible refine (flongref05_Same.calls k _ _ t137 _ _ y146 true _ ?side1 ?side2 ?side3 ?side4 A2.out).mono ?_); (case side1 => repeat (first | exact (Kd.N_reads' HO140.out).2.2 | (with_reducible refine Kd.C_alloc ?_ _) | (with_reducible refine Kd.C_drewN ?_ _) | (with_reducible refine Kd.C_drew ?_))); (case side2 => exact (Kd.N_reads' HO140.out).2.1); (case side3 => repeat (first | exact (Kd.N_reads' HO148.out).2.2 | (with_reducible refine Kd.C_alloc ?_ _) | (with_reducible refine Kd.C_drewN ?_ _) | (with_reducible refine Kd.C_drew ?_))); (case side4 => exact (Kd.N_reads' HO148.out).2.1); rintro e w14 ⟨rfl, hb⟩; refine ⟨_, rfl, ?_⟩; have n0_ := Aside0.mk (Kd.N_below (by (with_reducible repeat (first | apply Kd.N_alloc | apply Kd.N_drewN | apply Kd.N_drew)); exact HO140.out) hb); have n1_ := Aside0.mk (Kd.R_below (kR HO142) hb); have n2_ := Aside0.mk (Kd.N_below (by (with_reducible repeat (first | apply Kd.N_alloc | apply Kd.N_drewN | apply Kd.N_drew)); exact HO148.out) hb); have n3_ := Aside0.mk (below_step bA hb); clear HO140; clear HO142; clear HO148; clear HB; have HO140 := n0_; have HO142 := n1_; have HO148 := n2_; have HB := n3_; clear n0_ n1_ n2_ n3_; (try clear hb); (try clear hb2); (try clear hk); (try clear hi); obtain ⟨Ao15, co15, eo15⟩ := Kd.R_slice HO142.out; subst eo15) | (go_at_call 15; (with_reducible refine (lines_Quoted.calls (⟨#[120]⟩ : ByteArray) t150 _ ?side1 A5.out).mono ?_); (case side1 => exact GOK.of_below (GOK.sub HG.out rfl) bA); rintro e w16 ⟨rfl, hb⟩; have n0_ := Aside0.mk (Kd.N_below (by (with_reducible repeat (first | apply Kd.N_alloc | apply Kd.N_drewN | apply Kd.N_drew)); exact HO140.out) hb); have n1_ := Aside0.mk (Kd.R_below (kR HO142) hb); have n2_ := Aside0.mk (Kd.N_below (by (with_reducible repeat (first | apply Kd.N_alloc | apply Kd.N_drewN | apply Kd.N_drew)); exact HO148.out) hb); have n3_ := Aside0.mk (below_step bA hb); clear HO140; clear HO142; clear HO148; clear HB; have HO140 := n0_; have HO142 := n1_; have HO148 := n2_; have HB := n3_; clear n0_ n1_ n2_ n3_; (try clear hb); (try clear hb2); (try clear hk); (try clear hi)))
   go_ret
   exact ⟨eW, bA⟩
  ·rw [if_neg c4] at H
   have c4b0 : ((t138.length : Int) == 0) = false := beq_eq_false_iff_ne.mpr c4
   have c4b1 : ((t138.length : Int) != 0) = true := bne_iff_ne.mpr c4
   have c4b2 : ¬ (t138 = []) := fun h_ => c4 (by rw [h_]; rfl)
   obtain rfl := Option.some.inj H
   go_enter Tryd.func11, Tryd.ntmps11
   go_wp2_with (first | ((with_reducible refine gate_callee (f := 17) rfl ?_); refine goesL_ (some 4) rfl rfl Tryd.func17 (by kernel_rfl) rfl #[.string (⟨#[46, 66, 32, 34, 97, 32, 98, 34, 32, 99, 10]⟩ : ByteArray)] rfl aP ?_; (with_reducible refine (lines_Read.calls k (⟨#[46, 66, 32, 34, 97, 32, 98, 34, 32, 99, 10]⟩ : ByteArray) t137 t138 _ A1.out).mono ?_); rintro e w17 ⟨v139, v141, rfl, ho0, ho1, hb⟩; refine ⟨_, rfl, ?_⟩; have HO140 := Aside0.mk (Kd.N_lower (Kd.N_mono (ok' := fun k_ => some k_ ≠ (v141 : Value).ownBlock) (Kd.S_N (Kd.S_bound (Kd.S_apart' ho0 (Kd.R_typed ho1) (by decide)))) (fun k_ hk_ => hk_.1.2)) (below_size bA)); have HO142 := Aside0.mk (Kd.R_lower ho1 (below_size bA)); replace HB := Aside0.mk (below_step bA hb); (try clear hb); (try clear hb2); (try clear hk); (try clear hi); (try clear ho0); (try clear ho1)) | ((with_reducible refine gate_dst (N := 8) rfl ?_); (try (refine gate_guard (by rfl) ?_; dsimp only)); refine Kd.R_lit Kd.string _ 9 ?hg (N := 8) ?hd (xs := ([(⟨#[97, 32, 98]⟩ : ByteArray), (⟨#[99]⟩ : ByteArray)] : List ByteArray)) (inner := [.string (⟨#[97, 32, 98]⟩ : ByteArray), .string (⟨#[99]⟩ : ByteArray)]) (ok := fun _ => True) (okp := fun _ => True) ?hr ?hp (fun _ hk => hk) trivial (Below.refl _ _) (Nat.le_refl _) (by simp) ?_; (case hd => rfl); (case hg => rfl); (case hr => first | (go_simp; done) | (go_simp; rfl)); (case hp => exact (Reps.one (show Kd.M Kd.string _ _ _ (⟨#[97, 32, 98]⟩ : ByteArray) [.string (⟨#[97, 32, 98]⟩ : ByteArray)] from rfl) (Reps.one (show Kd.M Kd.string _ _ _ (⟨#[99]⟩ : ByteArray) [.string (⟨#[99]⟩ : ByteArray)] from rfl) (Reps.none _ _)))); intro v144 w18 ho19 hb hg_ hnew_; clear hg_ hnew_; (first | rw [← Ny143.out] at ho19 | (simp only [Int.reduceToNat] at ho19; rw [← Ny143.out] at ho19)); have n0_ := Aside0.mk (Kd.N_elder' (by (with_reducible repeat (first | apply Kd.N_alloc | apply Kd.N_drewN | apply Kd.N_drew)); exact HO140.out) (Kd.R_base ho19) hb); have n1_ := Aside0.mk (Kd.R_below (kR HO142) hb); have n2_ := Aside0.mk (Kd.R_lower ho19 (below_size bA)); have n3_ := Aside0.mk (below_step bA hb); clear HO140; clear HO142; clear HB; have HO140 := n0_; have HO142 := n1_; have HO145 := n2_; have HB := n3_; clear n0_ n1_ n2_ n3_; clear hb ho19; obtain ⟨Ao20, co20, eo20⟩ := Kd.R_slice HO145.out; subst eo20) | ((with_reducible refine gate_dst (N := 10) rfl ?_); (try (refine gate_guard (by rfl) ?_; dsimp only)); refine Kd.N_lit k35 _ 35 ?hg (N' := 10) ?hd (xs := ([(⟨1, (⟨#[66]⟩ : ByteArray), y143, (⟨#[]⟩ : ByteArray)⟩ : S35)] : List (S35))) (inner := [.int .i64 1, .string (⟨#[66]⟩ : ByteArray), .slice Ao20 y143.length co20, .string (⟨#[]⟩ : ByteArray)]) (ok := (fun k_ => some k_ ≠ (v139 : Value).ownBlock ∧ some k_ ≠ (v141 : Value).ownBlock)) (okp := (fun k_ => some k_ ≠ (v139 : Value).ownBlock ∧ some k_ ≠ (v141 : Value).ownBlock)) ?hr ?hp (fun _ hk => hk) ((show ∀ k_, w18.heap.size ≤ k_ → (fun k_ => some k_ ≠ (v139 : Value).ownBlock ∧ some k_ ≠ (v141 : Value).ownBlock) k_ from fun k_ hk => ⟨Kd.fresh' (Kd.N_lt (by (with_reducible repeat (first | apply Kd.N_alloc | apply Kd.N_drewN | apply Kd.N_drew)); exact HO140.out)) k_ hk, Kd.fresh' (Kd.R_lt (kR HO142)) k_ hk⟩) _ (Nat.le_refl _)) (Below.refl _ _) (Nat.le_refl _) (by simp) ?_; (case hd => rfl); (case hg => rfl); (case hr => first | (go_simp; done) | (go_simp; rfl)); (case hp => exact (Reps.c4 (show Kd.FK k35 _ _ (⟨1, (⟨#[66]⟩ : ByteArray), y143, (⟨#[]⟩ : ByteArray)⟩ : S35) [.int .i64 1, .string (⟨#[66]⟩ : ByteArray), .slice Ao20 y143.length co20, .string (⟨#[]⟩ : ByteArray)] from (k35_mkF _ _ (⟨1, (⟨#[66]⟩ : ByteArray), y143, (⟨#[]⟩ : ByteArray)⟩ : S35) (Kd.R_reads' (Kd.R_mono (ok' := (fun k_ => some k_ ≠ (v139 : Value).ownBlock ∧ some k_ ≠ (v141 : Value).ownBlock)) (Kd.R_apart' (Kd.R_apart' (HO145.out) (Kd.N_typed HO140.out) (by decide)) (Kd.R_typed HO142.out) (by decide)) (fun k_ hk => ⟨hk.1.2, hk.2⟩))).2.1 (Kd.R_F (Kd.R_mono (ok' := (fun k_ => some k_ ≠ (v139 : Value).ownBlock ∧ some k_ ≠ (v141 : Value).ownBlock)) (Kd.R_apart' (Kd.R_apart' (HO145.out) (Kd.N_typed HO140.out) (by decide)) (Kd.R_typed HO142.out) (by decide)) (fun k_ hk => ⟨hk.1.2, hk.2⟩))))) (Reps.none _ _))); intro v147 w21 ho22 hb hg_ hnew_; clear hg_ hnew_; (first | rw [← Ny146.out] at ho22 | (simp only [Int.reduceToNat] at ho22; rw [← Ny146.out] at ho22)); have n0_ := Aside0.mk (Kd.N_elder' (by (with_reducible repeat (first | apply Kd.N_alloc | apply Kd.N_drewN | apply Kd.N_drew)); exact HO140.out) (Kd.N_base ho22) hb); have n1_ := Aside0.mk (Kd.R_below (kR HO142) hb); have n2_ := Aside0.mk (Kd.N_lower ho22 (below_size bA)); have n3_ := Aside0.mk (below_step bA hb); clear HO140; clear HO142; clear HB; clear HO145; have HO140 := n0_; have HO142 := n1_; have HO148 := n2_; have HB := n3_; clear n0_ n1_ n2_ n3_; clear hb ho22; obtain ⟨Ao23, co23, eo23⟩ := Kd.N_slice HO140.out; subst eo23; obtain ⟨Ao24, co24, eo24⟩ := Kd.N_slice HO148.out; subst eo24) | ((with_reducible refine gate_callee (f := 18) rfl ?_); refine goesL_ (some 11) rfl rfl Tryd.func18 (by kernel_rfl) rfl #[.slice Ao23 t137.length co23, .slice Ao24 y146.length co24] rfl aP ?_; (with_reducible refine (flongref05_Same.calls k _ _ t137 _ _ y146 true _ ?side1 ?side2 ?side3 ?side4 A2.out).mono ?_); (case side1 => repeat (first | exact (Kd.N_reads' HO140.out).2.2 | (with_reducible refine Kd.C_alloc ?_ _) | (with_reducible refine Kd.C_drewN ?_ _) | (with_reducible refine Kd.C_drew ?_))); (case side2 => exact (Kd.N_reads' HO140.out).2.1); (case side3 => repeat (first | exact (Kd.N_reads' HO148.out).2.2 | (with_reducible refine Kd.C_alloc ?_ _) | (with_reducible refine Kd.C_drewN ?_ _) | (with_reducible refine Kd.C_drew ?_))); (case side4 => exact (Kd.N_reads' HO148.out).2.1); rintro e w25 ⟨rfl, hb⟩; refine ⟨_, rfl, ?_⟩; have n0_ := Aside0.mk (Kd.N_below (by (with_reducible repeat (first | apply Kd.N_alloc | apply Kd.N_drewN | apply Kd.N_drew)); exact HO140.out) hb); have n1_ := Aside0.mk (Kd.R_below (kR HO142) hb); have n2_ := Aside0.mk (Kd.N_below (by (with_reducible repeat (first | apply Kd.N_alloc | apply Kd.N_drewN | apply Kd.N_drew)); exact HO148.out) hb); have n3_ := Aside0.mk (below_step bA hb); clear HO140; clear HO142; clear HO148; clear HB; have HO140 := n0_; have HO142 := n1_; have HO148 := n2_; have HB := n3_; clear n0_ n1_ n2_ n3_; (try clear hb); (try clear hb2); (try clear hk); (try clear hi); obtain ⟨Ao26, co26, eo26⟩ := Kd.R_slice HO142.out; subst eo26))
   go_ret
   exact ⟨eW, bA⟩
 ·replace c3 := Bool.eq_false_iff.mpr c3
  subst c3
  have H1 : (some false) = some r := by rw [if_neg (show ¬ (false = true) by decide)] at H; exact H
  clear H
  have H := H1
  clear H1
  obtain rfl := Option.some.inj H
  go_enter Tryd.func11, Tryd.ntmps11
  go_wp2_with (first | ((with_reducible refine gate_callee (f := 17) rfl ?_); refine goesL_ (some 4) rfl rfl Tryd.func17 (by kernel_rfl) rfl #[.string (⟨#[46, 66, 32, 34, 97, 32, 98, 34, 32, 99, 10]⟩ : ByteArray)] rfl aP ?_; (with_reducible refine (lines_Read.calls k (⟨#[46, 66, 32, 34, 97, 32, 98, 34, 32, 99, 10]⟩ : ByteArray) t137 t138 _ A1.out).mono ?_); rintro e w27 ⟨v139, v141, rfl, ho0, ho1, hb⟩; refine ⟨_, rfl, ?_⟩; have HO140 := Aside0.mk (Kd.N_lower (Kd.N_mono (ok' := fun k_ => some k_ ≠ (v141 : Value).ownBlock) (Kd.S_N (Kd.S_bound (Kd.S_apart' ho0 (Kd.R_typed ho1) (by decide)))) (fun k_ hk_ => hk_.1.2)) (below_size bA)); have HO142 := Aside0.mk (Kd.R_lower ho1 (below_size bA)); replace HB := Aside0.mk (below_step bA hb); (try clear hb); (try clear hb2); (try clear hk); (try clear hi); (try clear ho0); (try clear ho1)) | ((with_reducible refine gate_dst (N := 8) rfl ?_); (try (refine gate_guard (by rfl) ?_; dsimp only)); refine Kd.R_lit Kd.string _ 9 ?hg (N := 8) ?hd (xs := ([(⟨#[97, 32, 98]⟩ : ByteArray), (⟨#[99]⟩ : ByteArray)] : List ByteArray)) (inner := [.string (⟨#[97, 32, 98]⟩ : ByteArray), .string (⟨#[99]⟩ : ByteArray)]) (ok := fun _ => True) (okp := fun _ => True) ?hr ?hp (fun _ hk => hk) trivial (Below.refl _ _) (Nat.le_refl _) (by simp) ?_; (case hd => rfl); (case hg => rfl); (case hr => first | (go_simp; done) | (go_simp; rfl)); (case hp => exact (Reps.one (show Kd.M Kd.string _ _ _ (⟨#[97, 32, 98]⟩ : ByteArray) [.string (⟨#[97, 32, 98]⟩ : ByteArray)] from rfl) (Reps.one (show Kd.M Kd.string _ _ _ (⟨#[99]⟩ : ByteArray) [.string (⟨#[99]⟩ : ByteArray)] from rfl) (Reps.none _ _)))); intro v144 w28 ho29 hb hg_ hnew_; clear hg_ hnew_; (first | rw [← Ny143.out] at ho29 | (simp only [Int.reduceToNat] at ho29; rw [← Ny143.out] at ho29)); have n0_ := Aside0.mk (Kd.N_elder' (by (with_reducible repeat (first | apply Kd.N_alloc | apply Kd.N_drewN | apply Kd.N_drew)); exact HO140.out) (Kd.R_base ho29) hb); have n1_ := Aside0.mk (Kd.R_below (kR HO142) hb); have n2_ := Aside0.mk (Kd.R_lower ho29 (below_size bA)); have n3_ := Aside0.mk (below_step bA hb); clear HO140; clear HO142; clear HB; have HO140 := n0_; have HO142 := n1_; have HO145 := n2_; have HB := n3_; clear n0_ n1_ n2_ n3_; clear hb ho29; obtain ⟨Ao30, co30, eo30⟩ := Kd.R_slice HO145.out; subst eo30) | ((with_reducible refine gate_dst (N := 10) rfl ?_); (try (refine gate_guard (by rfl) ?_; dsimp only)); refine Kd.N_lit k35 _ 35 ?hg (N' := 10) ?hd (xs := ([(⟨1, (⟨#[66]⟩ : ByteArray), y143, (⟨#[]⟩ : ByteArray)⟩ : S35)] : List (S35))) (inner := [.int .i64 1, .string (⟨#[66]⟩ : ByteArray), .slice Ao30 y143.length co30, .string (⟨#[]⟩ : ByteArray)]) (ok := (fun k_ => some k_ ≠ (v139 : Value).ownBlock ∧ some k_ ≠ (v141 : Value).ownBlock)) (okp := (fun k_ => some k_ ≠ (v139 : Value).ownBlock ∧ some k_ ≠ (v141 : Value).ownBlock)) ?hr ?hp (fun _ hk => hk) ((show ∀ k_, w28.heap.size ≤ k_ → (fun k_ => some k_ ≠ (v139 : Value).ownBlock ∧ some k_ ≠ (v141 : Value).ownBlock) k_ from fun k_ hk => ⟨Kd.fresh' (Kd.N_lt (by (with_reducible repeat (first | apply Kd.N_alloc | apply Kd.N_drewN | apply Kd.N_drew)); exact HO140.out)) k_ hk, Kd.fresh' (Kd.R_lt (kR HO142)) k_ hk⟩) _ (Nat.le_refl _)) (Below.refl _ _) (Nat.le_refl _) (by simp) ?_; (case hd => rfl); (case hg => rfl); (case hr => first | (go_simp; done) | (go_simp; rfl)); (case hp => exact (Reps.c4 (show Kd.FK k35 _ _ (⟨1, (⟨#[66]⟩ : ByteArray), y143, (⟨#[]⟩ : ByteArray)⟩ : S35) [.int .i64 1, .string (⟨#[66]⟩ : ByteArray), .slice Ao30 y143.length co30, .string (⟨#[]⟩ : ByteArray)] from (k35_mkF _ _ (⟨1, (⟨#[66]⟩ : ByteArray), y143, (⟨#[]⟩ : ByteArray)⟩ : S35) (Kd.R_reads' (Kd.R_mono (ok' := (fun k_ => some k_ ≠ (v139 : Value).ownBlock ∧ some k_ ≠ (v141 : Value).ownBlock)) (Kd.R_apart' (Kd.R_apart' (HO145.out) (Kd.N_typed HO140.out) (by decide)) (Kd.R_typed HO142.out) (by decide)) (fun k_ hk => ⟨hk.1.2, hk.2⟩))).2.1 (Kd.R_F (Kd.R_mono (ok' := (fun k_ => some k_ ≠ (v139 : Value).ownBlock ∧ some k_ ≠ (v141 : Value).ownBlock)) (Kd.R_apart' (Kd.R_apart' (HO145.out) (Kd.N_typed HO140.out) (by decide)) (Kd.R_typed HO142.out) (by decide)) (fun k_ hk => ⟨hk.1.2, hk.2⟩))))) (Reps.none _ _))); intro v147 w31 ho32 hb hg_ hnew_; clear hg_ hnew_; (first | rw [← Ny146.out] at ho32 | (simp only [Int.reduceToNat] at ho32; rw [← Ny146.out] at ho32)); have n0_ := Aside0.mk (Kd.N_elder' (by (with_reducible repeat (first | apply Kd.N_alloc | apply Kd.N_drewN | apply Kd.N_drew)); exact HO140.out) (Kd.N_base ho32) hb); have n1_ := Aside0.mk (Kd.R_below (kR HO142) hb); have n2_ := Aside0.mk (Kd.N_lower ho32 (below_size bA)); have n3_ := Aside0.mk (below_step bA hb); clear HO140; clear HO142; clear HB; clear HO145; have HO140 := n0_; have HO142 := n1_; have HO148 := n2_; have HB := n3_; clear n0_ n1_ n2_ n3_; clear hb ho32; obtain ⟨Ao33, co33, eo33⟩ := Kd.N_slice HO140.out; subst eo33; obtain ⟨Ao34, co34, eo34⟩ := Kd.N_slice HO148.out; subst eo34) | ((with_reducible refine gate_callee (f := 18) rfl ?_); refine goesL_ (some 11) rfl rfl Tryd.func18 (by kernel_rfl) rfl #[.slice Ao33 t137.length co33, .slice Ao34 y146.length co34] rfl aP ?_; (with_reducible refine (flongref05_Same.calls k _ _ t137 _ _ y146 false _ ?side1 ?side2 ?side3 ?side4 A2.out).mono ?_); (case side1 => repeat (first | exact (Kd.N_reads' HO140.out).2.2 | (with_reducible refine Kd.C_alloc ?_ _) | (with_reducible refine Kd.C_drewN ?_ _) | (with_reducible refine Kd.C_drew ?_))); (case side2 => exact (Kd.N_reads' HO140.out).2.1); (case side3 => repeat (first | exact (Kd.N_reads' HO148.out).2.2 | (with_reducible refine Kd.C_alloc ?_ _) | (with_reducible refine Kd.C_drewN ?_ _) | (with_reducible refine Kd.C_drew ?_))); (case side4 => exact (Kd.N_reads' HO148.out).2.1); rintro e w35 ⟨rfl, hb⟩; refine ⟨_, rfl, ?_⟩; have n0_ := Aside0.mk (Kd.N_below (by (with_reducible repeat (first | apply Kd.N_alloc | apply Kd.N_drewN | apply Kd.N_drew)); exact HO140.out) hb); have n1_ := Aside0.mk (Kd.R_below (kR HO142) hb); have n2_ := Aside0.mk (Kd.N_below (by (with_reducible repeat (first | apply Kd.N_alloc | apply Kd.N_drewN | apply Kd.N_drew)); exact HO148.out) hb); have n3_ := Aside0.mk (below_step bA hb); clear HO140; clear HO142; clear HO148; clear HB; have HO140 := n0_; have HO142 := n1_; have HO148 := n2_; have HB := n3_; clear n0_ n1_ n2_ n3_; (try clear hb); (try clear hb2); (try clear hk); (try clear hi)))
  go_ret
  exact ⟨eW, bA⟩

/-! ### flongref05_blank: function 27 -/
def flongref05_blank.f (a0 : Int) : Option (Bool) := if a0 = 32 then (some true) else (some (a0 == 9))
theorem flongref05_blank.calls (a0 : Int) (r : Bool) (w : World) (h : flongref05_blank.f a0 = some r) :
  Calls Tryd.prog 27 #[.int .u8 a0] w fun e w' => e = .returned (.bool r) ∧ Drawn0 w w' := by
 have H : (if a0 = 32 then (some true) else (some (a0 == 9))) = some r := h
 clear h
 by_cases c2 : a0 = 32
 ·rw [if_pos c2] at H
  have c2b0 : (a0 == 32) = true := beq_iff_eq.mpr c2
  have c2b1 : (a0 != 32) = false := bne_eq_false_iff_eq.mpr c2
  clear c2
  obtain rfl := Option.some.inj H
  go_enter Tryd.func27, Tryd.ntmps27
  go_wp2
  go_ret
  exact ⟨sA, by repeat (first | exact Drawn0.refl _ | apply Drawn0.step)⟩
 ·rw [if_neg c2] at H
  have c2b0 : (a0 == 32) = false := beq_eq_false_iff_ne.mpr c2
  have c2b1 : (a0 != 32) = true := bne_iff_ne.mpr c2
  obtain rfl := Option.some.inj H
  go_enter Tryd.func27, Tryd.ntmps27
  go_wp2
  go_ret
  exact ⟨sA, by repeat (first | exact Drawn0.refl _ | apply Drawn0.step)⟩

/-! ### flongref05_odd: function 28 -/
def flongref05_odd.l0 : Nat → ByteArray → Int → Int → Option (Bool)
 | 0, _, _, _ => none
 | k + 1, x0, x1, x5 => if (wrap64 ((wrap64 (x1 - 1)) - x5)) ≥ 0 then (if 0 ≤ (wrap64 ((wrap64 (x1 - 1)) - x5)) then (if (wrap64 ((wrap64 (x1 - 1)) - x5)) < (x0.size : Int) then (if (bt x0 (wrap64 ((wrap64 (x1 - 1)) - x5))) = 92 then (flongref05_odd.l0 k x0 x1 (wrap64 (x5 + 1))) else (some ((Int.tmod x5 2) == 1))) else (none)) else (none)) else (some ((Int.tmod x5 2) == 1))
def flongref05_odd.f (k : Nat) (a0 : ByteArray) (a1 : Int) : Option (Bool) := flongref05_odd.l0 k a0 a1 0
theorem flongref05_odd.mono_l : ∀ k, (∀ y0 y1 y2, LeO (flongref05_odd.l0 k y0 y1 y2) (flongref05_odd.l0 (k + 1) y0 y1 y2))
 | 0 => fun _ _ _ r h => by simp [flongref05_odd.l0] at h
 | k + 1 => by
  have ih0 := flongref05_odd.mono_l k
  ·intro y0 y1 y2
   unfold flongref05_odd.l0
   repeat' first
   | (with_reducible exact ih0 _ _ _)
   | (with_reducible exact LeO.refl _)
   | (with_reducible exact LeO.none _)
   | (with_reducible refine LeO.ite ?_ ?_)
   | (with_reducible refine LeO.bind ?_ (fun _ => ?_))
theorem flongref05_odd.mono : ∀ a0 a1 k, LeO (flongref05_odd.f k a0 a1) (flongref05_odd.f (k + 1) a0 a1) := by
 intro a0 a1 k
 have ih0 := flongref05_odd.mono_l k
 unfold flongref05_odd.f
 repeat' first
   | (with_reducible exact ih0 _ _ _)
   | (with_reducible exact LeO.refl _)
   | (with_reducible exact LeO.none _)
   | (with_reducible refine LeO.ite ?_ ?_)
   | (with_reducible refine LeO.bind ?_ (fun _ => ?_))
theorem flongref05_odd.calls (k : Nat) (a0 : ByteArray) (a1 : Int) (r : Bool) (w : World) (h : flongref05_odd.f k a0 a1 = some r) :
  Calls Tryd.prog 28 #[.string a0, .int .i64 a1] w fun e w' => e = .returned (.bool r) ∧ Drawn0 w w' := by
 have H : (flongref05_odd.l0 k a0 a1 0) = some r := h
 clear h
 have H' := Aside0.mk H
 clear H
 go_enter Tryd.func28, Tryd.ntmps28
 go_wp2
 go_loopg [5] k (fun kq v5 w' => ∃ (x5_1 : Int), v5 = .int .i64 x5_1 ∧ Aside0 (flongref05_odd.l0 kq a0 a1 x5_1 = some r) ∧ Aside0 (kq ≤ k) ∧ Drawn0 w w')
 case atStart => exact ⟨(0), sA, H', ⟨Nat.le_refl _⟩, by repeat (first | exact Drawn0.refl _ | apply Drawn0.step)⟩
 case round =>
  clear H'
  try clear c2
  try clear p2
  obtain ⟨x5_1, rfl, HA, HK1, ⟨m1, rfl⟩⟩ := hrel
  cases gk with
  | zero => exact absurd HA.out (by simp [flongref05_odd.l0])
  | succ k1 =>
   have H := HA.out
   clear HA
   simp only [flongref05_odd.l0] at H
   by_cases c3 : (wrap64 ((wrap64 (a1 - 1)) - x5_1)) ≥ 0
   ·rw [if_pos c3] at H
    have c3b0 : decide (0 ≤ (wrap64 ((wrap64 (a1 - 1)) - x5_1))) = true := decide_eq_true c3
    clear c3
    obtain ⟨ji4, hji4⟩ : ∃ j_ : Int, (wrap64 ((wrap64 (a1 - 1)) - x5_1)) = j_ := ⟨_, rfl⟩
    replace H : (if 0 ≤ (ji4) then (if (ji4) < (a0.size : Int) then (if (bt a0 (ji4)) = 92 then (flongref05_odd.l0 k1 a0 a1 (wrap64 (x5_1 + 1))) else (some ((Int.tmod x5_1 2) == 1))) else (none)) else (none)) = some r := by first | (rw [hji4] at H; exact H) | (simp only [hji4] at H ⊢; exact H)
    (try rw [hji4] at c3b0)
    have hji4w : (IntKind.i64.wrap ((wrap64 (a1 - 1)) - x5_1)) = ji4 := (i64_w _).trans hji4
    by_cases c5 : 0 ≤ (ji4)
    ·rw [if_pos c5] at H
     have c5b0 : decide (0 ≤ (ji4)) = true := decide_eq_true c5
     clear c5
     by_cases c6 : (ji4) < (a0.size : Int)
     ·rw [if_pos c6] at H
      have c6b0 : decide ((ji4) < (a0.size : Int)) = true := decide_eq_true c6
      clear c6
      by_cases c8 : (bt a0 (ji4)) = 92
      ·rw [if_pos c8] at H
       have c8b0 : ((bt a0 (ji4)) == 92) = true := beq_iff_eq.mpr c8
       have c8b1 : ((bt a0 (ji4)) != 92) = false := bne_eq_false_iff_eq.mpr c8
       clear c8
       have H' := Aside0.mk H
       clear H
       have p7 : 0 ≤ ((ji4) : Int) := of_decide_eq_true asA
       have q7 : (ji4) < (a0.size : Int) := of_decide_eq_true asA
       have hx7 := bt_at a0 (ji4)
       replace p7 := eq_true p7
       replace q7 := eq_true q7
       go_wp2
       go_roundg k1
       case measure => have := HK1.out; omega
       case rel => exact ⟨(wrap64 (x5_1 + 1)), sA, H', ⟨by have := HK1.out; omega⟩, by repeat (first | exact Drawn0.refl _ | apply Drawn0.step)⟩
      ·rw [if_neg c8] at H
       have c8b0 : ((bt a0 (ji4)) == 92) = false := beq_eq_false_iff_ne.mpr c8
       have c8b1 : ((bt a0 (ji4)) != 92) = true := bne_iff_ne.mpr c8
       obtain rfl := Option.some.inj H
       have p7 : 0 ≤ ((ji4) : Int) := of_decide_eq_true asA
       have q7 : (ji4) < (a0.size : Int) := of_decide_eq_true asA
       have hx7 := bt_at a0 (ji4)
       replace p7 := eq_true p7
       replace q7 := eq_true q7
       go_wp2
       go_ret
       exact ⟨by first | rfl | (simp; done) | (simp only [← hji4] <;> (first | rfl | simp)) | (simp [*]; done), by repeat (first | exact Drawn0.refl _ | apply Drawn0.step)⟩
     ·rw [if_neg c6] at H
      exact absurd H (by simp)
    ·rw [if_neg c5] at H
     exact absurd H (by simp)
   ·rw [if_neg c3] at H
    have c3b0 : decide (0 ≤ (wrap64 ((wrap64 (a1 - 1)) - x5_1))) = false := decide_eq_false c3
    clear c3
    obtain rfl := Option.some.inj H
    go_wp2
    go_ret
    exact ⟨sA, by repeat (first | exact Drawn0.refl _ | apply Drawn0.step)⟩

/-! ### flongref05_Args: function 13 -/
mutual
def flongref05_Args.l0 : Nat → ByteArray → List ByteArray → Int → Option (List ByteArray × Bool)
 | 0, _, _, _ => none
 | k + 1, x0, x4, x5 => if x5 < (x0.size : Int) then (if 0 ≤ x5 then ((flongref05_blank.f (bt x0 x5)).bind fun t151 => (if t151 = true then (flongref05_Args.l0 k x0 x4 (wrap64 (x5 + 1))) else (if (bt x0 x5) = 34 then (flongref05_Args.l2 k x0 x4 (wrap64 (x5 + 1)) (⟨#[]⟩ : ByteArray)) else (flongref05_Args.l1 k x0 x4 x5 x5)))) else (none)) else (some (x4, true))
def flongref05_Args.l2 : Nat → ByteArray → List ByteArray → Int → ByteArray → Option (List ByteArray × Bool)
 | 0, _, _, _, _ => none
 | k + 1, x0, x4, x5, x7 => if x5 < (x0.size : Int) then (if 0 ≤ x5 then (if (bt x0 x5) = 34 then (if (wrap64 (x5 + 1)) < (x0.size : Int) then (if 0 ≤ (wrap64 (x5 + 1)) then (flongref05_Args.j3 k x0 x4 x5 x7 ((bt x0 (wrap64 (x5 + 1))) == 34)) else (none)) else (flongref05_Args.j3 k x0 x4 x5 x7 false)) else (flongref05_Args.j3 k x0 x4 x5 x7 true)) else (none)) else (flongref05_Args.j3 k x0 x4 x5 x7 false)
def flongref05_Args.j3 : Nat → ByteArray → List ByteArray → Int → ByteArray → Bool → Option (List ByteArray × Bool)
 | 0, _, _, _, _, _ => none
 | k + 1, x0, x4, x5, x7, x77 => if x77 = true then (if 0 ≤ x5 then (if x5 ≤ (wrap64 (x5 + 1)) then (if (wrap64 (x5 + 1)) ≤ (x0.size : Int) then (if x7.size + (x0.extract (x5 : Int).toNat ((wrap64 (x5 + 1)) : Int).toNat).size ≤ 9223372036854775807 then (if x5 < (x0.size : Int) then (if (bt x0 x5) = 34 then (flongref05_Args.l2 k x0 x4 (wrap64 ((wrap64 (x5 + 1)) + 1)) (x7 ++ (x0.extract (x5 : Int).toNat ((wrap64 (x5 + 1)) : Int).toNat))) else (flongref05_Args.l2 k x0 x4 (wrap64 (x5 + 1)) (x7 ++ (x0.extract (x5 : Int).toNat ((wrap64 (x5 + 1)) : Int).toNat)))) else (none)) else (none)) else (none)) else (none)) else (none)) else (if x4.length < 8796093022208 then ((some (x4 ++ [x7] : List ByteArray)).bind fun y160 => (if x5 ≥ (x0.size : Int) then (some (y160, false)) else (flongref05_Args.l0 k x0 y160 (wrap64 (x5 + 1))))) else (none))
def flongref05_Args.l1 : Nat → ByteArray → List ByteArray → Int → Int → Option (List ByteArray × Bool)
 | 0, _, _, _, _ => none
 | k + 1, x0, x4, x5, x6 => if x5 < (x0.size : Int) then (if 0 ≤ x5 then ((flongref05_blank.f (bt x0 x5)).bind fun t152 => (if t152 = true then (if 0 ≤ x6 then (if x6 ≤ (x0.size : Int) then ((flongref05_odd.f k (x0.extract (x6 : Int).toNat x0.size) (wrap64 (x5 - x6))).bind fun t153 => (if t153 = true then (flongref05_Args.l1 k x0 x4 (wrap64 (x5 + 1)) x6) else (if x6 ≤ x5 then (if x5 ≤ (x0.size : Int) then (if x4.length < 8796093022208 then (flongref05_Args.l0 k x0 (x4 ++ [x0.extract (x6 : Int).toNat (x5 : Int).toNat]) x5) else (none)) else (none)) else (none)))) else (none)) else (none)) else (flongref05_Args.l1 k x0 x4 (wrap64 (x5 + 1)) x6))) else (none)) else (if 0 ≤ x6 then (if x6 ≤ x5 then (if x5 ≤ (x0.size : Int) then (if x4.length < 8796093022208 then (flongref05_Args.l0 k x0 (x4 ++ [x0.extract (x6 : Int).toNat (x5 : Int).toNat]) x5) else (none)) else (none)) else (none)) else (none))
end
def flongref05_Args.f (k : Nat) (a0 : ByteArray) : Option (List ByteArray × Bool) := flongref05_Args.l0 k a0 ([] : List ByteArray) 0
theorem flongref05_Args.mono_l : ∀ k, (∀ y0 y1 y2, LeO (flongref05_Args.l0 k y0 y1 y2) (flongref05_Args.l0 (k + 1) y0 y1 y2)) ∧ (∀ y0 y1 y2 y3, LeO (flongref05_Args.l2 k y0 y1 y2 y3) (flongref05_Args.l2 (k + 1) y0 y1 y2 y3)) ∧ (∀ y0 y1 y2 y3 y4, LeO (flongref05_Args.j3 k y0 y1 y2 y3 y4) (flongref05_Args.j3 (k + 1) y0 y1 y2 y3 y4)) ∧ (∀ y0 y1 y2 y3, LeO (flongref05_Args.l1 k y0 y1 y2 y3) (flongref05_Args.l1 (k + 1) y0 y1 y2 y3))
 | 0 => ⟨fun _ _ _ r h => by simp [flongref05_Args.l0] at h, fun _ _ _ _ r h => by simp [flongref05_Args.l2] at h, fun _ _ _ _ _ r h => by simp [flongref05_Args.j3] at h, fun _ _ _ _ r h => by simp [flongref05_Args.l1] at h⟩
 | k + 1 => by
  obtain ⟨ih0, ih1, ih2, ih3⟩ := flongref05_Args.mono_l k
  refine ⟨?_, ?_, ?_, ?_⟩
  ·intro y0 y1 y2
   unfold flongref05_Args.l0
   repeat' first
   | (with_reducible exact ih0 _ _ _)
   | (with_reducible exact ih1 _ _ _ _)
   | (with_reducible exact ih2 _ _ _ _ _)
   | (with_reducible exact ih3 _ _ _ _)
   | (with_reducible exact flongref05_odd.mono _ _ _)
   | (with_reducible exact LeO.refl _)
   | (with_reducible exact LeO.none _)
   | (with_reducible refine LeO.ite ?_ ?_)
   | (with_reducible refine LeO.bind ?_ (fun _ => ?_))
  ·intro y0 y1 y2 y3
   unfold flongref05_Args.l2
   repeat' first
   | (with_reducible exact ih0 _ _ _)
   | (with_reducible exact ih1 _ _ _ _)
   | (with_reducible exact ih2 _ _ _ _ _)
   | (with_reducible exact ih3 _ _ _ _)
   | (with_reducible exact flongref05_odd.mono _ _ _)
   | (with_reducible exact LeO.refl _)
   | (with_reducible exact LeO.none _)
   | (with_reducible refine LeO.ite ?_ ?_)
   | (with_reducible refine LeO.bind ?_ (fun _ => ?_))
  ·intro y0 y1 y2 y3 y4
   unfold flongref05_Args.j3
   repeat' first
   | (with_reducible exact ih0 _ _ _)
   | (with_reducible exact ih1 _ _ _ _)
   | (with_reducible exact ih2 _ _ _ _ _)
   | (with_reducible exact ih3 _ _ _ _)
   | (with_reducible exact flongref05_odd.mono _ _ _)
   | (with_reducible exact LeO.refl _)
   | (with_reducible exact LeO.none _)
   | (with_reducible refine LeO.ite ?_ ?_)
   | (with_reducible refine LeO.bind ?_ (fun _ => ?_))
  ·intro y0 y1 y2 y3
   unfold flongref05_Args.l1
   repeat' first
   | (with_reducible exact ih0 _ _ _)
   | (with_reducible exact ih1 _ _ _ _)
   | (with_reducible exact ih2 _ _ _ _ _)
   | (with_reducible exact ih3 _ _ _ _)
   | (with_reducible exact flongref05_odd.mono _ _ _)
   | (with_reducible exact LeO.refl _)
   | (with_reducible exact LeO.none _)
   | (with_reducible refine LeO.ite ?_ ?_)
   | (with_reducible refine LeO.bind ?_ (fun _ => ?_))
theorem flongref05_Args.mono : ∀ a0 k, LeO (flongref05_Args.f k a0) (flongref05_Args.f (k + 1) a0) := by
 intro a0 k
 obtain ⟨ih0, ih1, ih2, ih3⟩ := flongref05_Args.mono_l k
 unfold flongref05_Args.f
 repeat' first
   | (with_reducible exact ih0 _ _ _)
   | (with_reducible exact ih1 _ _ _ _)
   | (with_reducible exact ih2 _ _ _ _ _)
   | (with_reducible exact ih3 _ _ _ _)
   | (with_reducible exact flongref05_odd.mono _ _ _)
   | (with_reducible exact LeO.refl _)
   | (with_reducible exact LeO.none _)
   | (with_reducible refine LeO.ite ?_ ?_)
   | (with_reducible refine LeO.bind ?_ (fun _ => ?_))
theorem flongref05_Args.calls (k : Nat) (a0 : ByteArray) (r1 : List ByteArray) (r2 : Bool) (w : World) (h : flongref05_Args.f k a0 = some (r1, r2)) :
  Calls Tryd.prog 13 #[.string a0] w fun e w' => ∃ v0_ : Value, e = .returned (.tuple #[v0_, .bool r2]) ∧ Kd.R Kd.string 9 w' w.heap.size (fun _ => True) v0_ r1 ∧ Below w.heap.size w w' := by
 have HB := Aside0.mk (Below.refl w.heap.size w)
 have H : (flongref05_Args.l0 k a0 ([] : List ByteArray) 0) = some (r1, r2) := h
 clear h
 have H' := Aside0.mk H
 clear H
 go_enter Tryd.func13, Tryd.ntmps13
 go_wp2
 go_loopg [4, 5] k (fun kq v4 v5 w' => ∃ (x4_1 : List ByteArray) (x5_1 : Int), v5 = .int .i64 x5_1 ∧ Aside0 (flongref05_Args.l0 kq a0 x4_1 x5_1 = some (r1, r2)) ∧ Aside0 (kq ≤ k) ∧ Aside0 (Kd.R Kd.string 9 w' w.heap.size (fun _ => True) v4 x4_1) ∧ Aside0 (Below w.heap.size w w'))
 case atStart => exact ⟨(([] : List ByteArray)), (0), sA, H', ⟨Nat.le_refl _⟩, ⟨by first | exact Kd.R_nil _ _ _ _ _ | exact Kd.N_nil _ _ _ _ _ | exact Kd.V_nil _ _ _ _ _ | exact Kd.Q_nil _ _ _ _ _ | exact Kd.S_nil _ _ _ _ _⟩, ⟨bA⟩⟩
 case round =>
  clear H'
  try clear c1
  obtain ⟨x4_1, x5_1, rfl, HA, HK1, HO_4, HB⟩ := hrel
  cases gk with
  | zero => exact absurd HA.out (by simp [flongref05_Args.l0])
  | succ k1 =>
   have H := HA.out
   clear HA
   simp only [flongref05_Args.l0] at H
   by_cases c2 : x5_1 < (a0.size : Int)
   ·rw [if_pos c2] at H
    have c2b0 : decide (x5_1 < (a0.size : Int)) = true := decide_eq_true c2
    clear c2
    by_cases c3 : 0 ≤ x5_1
    ·rw [if_pos c3] at H
     have c3b0 : decide (0 ≤ x5_1) = true := decide_eq_true c3
     clear c3
     replace H := Option.bind_eq_some_iff.mp H
     obtain ⟨t151, A50, H⟩ := H
     replace H : (if t151 = true then (flongref05_Args.l0 k1 a0 x4_1 (wrap64 (x5_1 + 1))) else (if (bt a0 x5_1) = 34 then (flongref05_Args.l2 k1 a0 x4_1 (wrap64 (x5_1 + 1)) (⟨#[]⟩ : ByteArray)) else (flongref05_Args.l1 k1 a0 x4_1 x5_1 x5_1))) = some (r1, r2) := H
     have A5 := Aside0.mk A50
     clear A50
     by_cases c6 : t151 = true
     ·subst c6
      have H1 : (flongref05_Args.l0 k1 a0 x4_1 (wrap64 (x5_1 + 1))) = some (r1, r2) := by rw [if_pos rfl] at H; exact H
      clear H
      have H := H1
      clear H1
      have H' := Aside0.mk H
      clear H
      have p4 : 0 ≤ (x5_1 : Int) := of_decide_eq_true asA
      have q4 : x5_1 < (a0.size : Int) := of_decide_eq_true asA
      have hx4 := bt_at a0 x5_1
      replace p4 := eq_true p4
      replace q4 := eq_true q4
      go_wp2_with (first | ((with_reducible refine gate_callee (f := 27) rfl ?_); refine goesL_ (some 15) rfl rfl Tryd.func27 (by kernel_rfl) rfl #[.int .u8 (bt a0 x5_1)] rfl aP ?_; (with_reducible refine (flongref05_blank.calls (bt a0 x5_1) true _ A5.out).mono ?_); rintro e w' ⟨rfl, ⟨nd, rfl⟩⟩; refine ⟨_, rfl, ?_⟩))
      go_roundg k1
      case measure => have := HK1.out; omega
      case rel => exact ⟨(x4_1), (wrap64 (x5_1 + 1)), sA, H', ⟨by have := HK1.out; omega⟩, ⟨kR HO_4⟩, ⟨bA⟩⟩
     ·replace c6 := Bool.eq_false_iff.mpr c6
      subst c6
      have H1 : (if (bt a0 x5_1) = 34 then (flongref05_Args.l2 k1 a0 x4_1 (wrap64 (x5_1 + 1)) (⟨#[]⟩ : ByteArray)) else (flongref05_Args.l1 k1 a0 x4_1 x5_1 x5_1)) = some (r1, r2) := by rw [if_neg (show ¬ (false = true) by decide)] at H; exact H
      clear H
      have H := H1
      clear H1
      by_cases c8 : (bt a0 x5_1) = 34
      ·rw [if_pos c8] at H
       have c8b0 : ((bt a0 x5_1) == 34) = true := beq_iff_eq.mpr c8
       have c8b1 : ((bt a0 x5_1) != 34) = false := bne_eq_false_iff_eq.mpr c8
       clear c8
       have H' := Aside0.mk H
       clear H
       have p4 : 0 ≤ (x5_1 : Int) := of_decide_eq_true asA
       have q4 : x5_1 < (a0.size : Int) := of_decide_eq_true asA
       have hx4 := bt_at a0 x5_1
       replace p4 := eq_true p4
       replace q4 := eq_true q4
       go_wp2_with (first | ((with_reducible refine gate_callee (f := 27) rfl ?_); refine goesL_ (some 15) rfl rfl Tryd.func27 (by kernel_rfl) rfl #[.int .u8 (bt a0 x5_1)] rfl aP ?_; (with_reducible refine (flongref05_blank.calls (bt a0 x5_1) false _ A5.out).mono ?_); rintro e w' ⟨rfl, ⟨nd, rfl⟩⟩; refine ⟨_, rfl, ?_⟩; have p7 : 0 ≤ (x5_1 : Int) := of_decide_eq_true asA; have q7 : x5_1 < (a0.size : Int) := of_decide_eq_true asA; have hx7 := bt_at a0 x5_1; replace p7 := eq_true p7; replace q7 := eq_true q7))
       go_loopg [5, 7] k1 (fun kq v5 v7 w' => ∃ (x5_2 : Int) (x7_2 : ByteArray), v5 = .int .i64 x5_2 ∧ v7 = .string x7_2 ∧ Aside0 (flongref05_Args.l2 kq a0 x4_1 x5_2 x7_2 = some (r1, r2)) ∧ Aside0 (kq ≤ k1) ∧ Aside0 (Kd.R Kd.string 9 w' w.heap.size (fun _ => True) u4 x4_1) ∧ Aside0 (Below w.heap.size w w'))
       case atStart => exact ⟨(wrap64 (x5_1 + 1)), ((⟨#[]⟩ : ByteArray)), sA, sA, H', ⟨Nat.le_refl _⟩, ⟨kR HO_4⟩, ⟨bA⟩⟩
       case round =>
        clear H'
        try clear c1
        try clear c2
        try clear c2b0
        try clear p2
        try clear c3
        try clear c3b0
        try clear p4
        try clear q4
        try clear hx4
        try clear c6
        try clear p6
        try clear p7
        try clear q7
        try clear hx7
        try clear c8
        try clear c8b0
        try clear c8b1
        try clear p4
        try clear p7
        try clear q4
        try clear q7
        obtain ⟨x5_2, x7_2, rfl, rfl, HA, HK2, HO_4, HB⟩ := hrel
        cases gk with
        | zero => exact absurd HA.out (by simp [flongref05_Args.l2])
        | succ k2 =>
         have H := HA.out
         clear HA
         simp only [flongref05_Args.l2] at H
         have HC9 := Aside0.mk H
         clear H
         go_upto_region 13 with (fail)
         go_cut [77] (fun v77 wc => ∃ (kq : Nat) (x77_8 : Bool), v77 = .bool x77_8 ∧ Aside0 (flongref05_Args.j3 kq a0 x4_1 x5_2 x7_2 x77_8 = some (r1, r2)) ∧ Aside0 (kq ≤ k2) ∧ Aside0 (Kd.R Kd.string 9 wc w.heap.size (fun _ => True) u4 x4_1) ∧ Aside0 (Below w.heap.size w wc))
         case first =>
          have H := HC9.out
          clear HC9
          by_cases c10 : x5_2 < (a0.size : Int)
          ·rw [if_pos c10] at H
           have c10b0 : decide (x5_2 < (a0.size : Int)) = true := decide_eq_true c10
           clear c10
           (first | rw [c10b0] | (simp only [i64_w, i32_w]; rw [c10b0]) | skip)
           by_cases c11 : 0 ≤ x5_2
           ·rw [if_pos c11] at H
            have c11b0 : decide (0 ≤ x5_2) = true := decide_eq_true c11
            clear c11
            by_cases c13 : (bt a0 x5_2) = 34
            ·rw [if_pos c13] at H
             have c13b0 : ((bt a0 x5_2) == 34) = true := beq_iff_eq.mpr c13
             have c13b1 : ((bt a0 x5_2) != 34) = false := bne_eq_false_iff_eq.mpr c13
             clear c13
             by_cases c14 : (wrap64 (x5_2 + 1)) < (a0.size : Int)
             ·rw [if_pos c14] at H
              have c14b0 : decide ((wrap64 (x5_2 + 1)) < (a0.size : Int)) = true := decide_eq_true c14
              clear c14
              obtain ⟨ji15, hji15⟩ : ∃ j_ : Int, (wrap64 (x5_2 + 1)) = j_ := ⟨_, rfl⟩
              replace H : (if 0 ≤ (ji15) then (flongref05_Args.j3 k2 a0 x4_1 x5_2 x7_2 ((bt a0 (ji15)) == 34)) else (none)) = some (r1, r2) := by first | (rw [hji15] at H; exact H) | (simp only [hji15] at H ⊢; exact H)
              (try rw [hji15] at c14b0)
              have hji15w : (IntKind.i64.wrap (x5_2 + 1)) = ji15 := (i64_w _).trans hji15
              by_cases c16 : 0 ≤ (ji15)
              ·rw [if_pos c16] at H
               have c16b0 : decide (0 ≤ (ji15)) = true := decide_eq_true c16
               clear c16
               have H' := Aside0.mk H
               clear H
               have p12 : 0 ≤ (x5_2 : Int) := of_decide_eq_true asA
               have q12 : x5_2 < (a0.size : Int) := of_decide_eq_true asA
               have hx12 := bt_at a0 x5_2
               replace p12 := eq_true p12
               replace q12 := eq_true q12
               have p17 : 0 ≤ ((ji15) : Int) := of_decide_eq_true asA
               have q17 : (ji15) < (a0.size : Int) := of_decide_eq_true asA
               have hx17 := bt_at a0 (ji15)
               replace p17 := eq_true p17
               replace q17 := eq_true q17
               go_wp2
               go_meet
               case rel => exact ⟨_, (((bt a0 (ji15)) == 34)), (by first | rfl | (simp; done) | (simp only [← hji15] <;> (first | rfl | simp)) | (simp [*]; done)), H', ⟨by have := HK1.out; have := HK2.out; first | omega | exact Nat.le_refl _⟩, ⟨kR HO_4⟩, ⟨bA⟩⟩
              ·rw [if_neg c16] at H
               exact absurd H (by simp)
             ·rw [if_neg c14] at H
              have c14b0 : decide ((wrap64 (x5_2 + 1)) < (a0.size : Int)) = false := decide_eq_false c14
              clear c14
              have H' := Aside0.mk H
              clear H
              have p12 : 0 ≤ (x5_2 : Int) := of_decide_eq_true asA
              have q12 : x5_2 < (a0.size : Int) := of_decide_eq_true asA
              have hx12 := bt_at a0 x5_2
              replace p12 := eq_true p12
              replace q12 := eq_true q12
              go_wp2
              go_meet
              case rel => exact ⟨_, (false), sA, H', ⟨by have := HK1.out; have := HK2.out; first | omega | exact Nat.le_refl _⟩, ⟨kR HO_4⟩, ⟨bA⟩⟩
            ·rw [if_neg c13] at H
             have c13b0 : ((bt a0 x5_2) == 34) = false := beq_eq_false_iff_ne.mpr c13
             have c13b1 : ((bt a0 x5_2) != 34) = true := bne_iff_ne.mpr c13
             have H' := Aside0.mk H
             clear H
             have p12 : 0 ≤ (x5_2 : Int) := of_decide_eq_true asA
             have q12 : x5_2 < (a0.size : Int) := of_decide_eq_true asA
             have hx12 := bt_at a0 x5_2
             replace p12 := eq_true p12
             replace q12 := eq_true q12
             go_wp2
             go_meet
             case rel => exact ⟨_, (true), sA, H', ⟨by have := HK1.out; have := HK2.out; first | omega | exact Nat.le_refl _⟩, ⟨kR HO_4⟩, ⟨bA⟩⟩
           ·rw [if_neg c11] at H
            exact absurd H (by simp)
          ·rw [if_neg c10] at H
           have c10b0 : decide (x5_2 < (a0.size : Int)) = false := decide_eq_false c10
           clear c10
           (first | rw [c10b0] | (simp only [i64_w, i32_w]; rw [c10b0]) | skip)
           have H' := Aside0.mk H
           clear H
           go_wp2
           go_meet
           case rel => exact ⟨_, (false), sA, H', ⟨by have := HK1.out; have := HK2.out; first | omega | exact Nat.le_refl _⟩, ⟨kR HO_4⟩, ⟨bA⟩⟩
         case rest =>
          clear HC9
          try clear c1
          try clear p1
          try clear q1
          try clear hx1
          try clear c2
          try clear c2b0
          try clear p2
          try clear c3
          try clear c3b0
          try clear p4
          try clear q4
          try clear hx4
          try clear c6
          try clear p6
          try clear p7
          try clear q7
          try clear hx7
          try clear c8
          try clear c8b0
          try clear c8b1
          try clear c10
          try clear c10b0
          try clear c11
          try clear c11b0
          try clear p12
          try clear q12
          try clear hx12
          try clear c13
          try clear c13b0
          try clear c13b1
          try clear c14
          try clear c14b0
          try clear c16
          try clear c16b0
          try clear p17
          try clear q17
          try clear hx17
          try clear p12
          try clear p17
          try clear p2
          try clear p4
          try clear p6
          try clear p7
          try clear q12
          try clear q17
          try clear q4
          try clear q7
          obtain ⟨kq, x77_8, rfl, HA, HJ8, HO_4, HB⟩ := hcut
          cases kq with
          | zero => exact absurd HA.out (by simp [flongref05_Args.j3])
          | succ kj8 =>
           have H := HA.out
           clear HA
           simp only [flongref05_Args.j3] at H
           by_cases c18 : x77_8 = true
           ·subst c18
            have H1 : (if 0 ≤ x5_2 then (if x5_2 ≤ (wrap64 (x5_2 + 1)) then (if (wrap64 (x5_2 + 1)) ≤ (a0.size : Int) then (if x7_2.size + (a0.extract (x5_2 : Int).toNat ((wrap64 (x5_2 + 1)) : Int).toNat).size ≤ 9223372036854775807 then (if x5_2 < (a0.size : Int) then (if (bt a0 x5_2) = 34 then (flongref05_Args.l2 kj8 a0 x4_1 (wrap64 ((wrap64 (x5_2 + 1)) + 1)) (x7_2 ++ (a0.extract (x5_2 : Int).toNat ((wrap64 (x5_2 + 1)) : Int).toNat))) else (flongref05_Args.l2 kj8 a0 x4_1 (wrap64 (x5_2 + 1)) (x7_2 ++ (a0.extract (x5_2 : Int).toNat ((wrap64 (x5_2 + 1)) : Int).toNat)))) else (none)) else (none)) else (none)) else (none)) else (none)) = some (r1, r2) := by rw [if_pos rfl] at H; exact H
            clear H
            have H := H1
            clear H1
            by_cases c19 : 0 ≤ x5_2
            ·rw [if_pos c19] at H
             have c19b0 := eq_true c19
             have c19b1 : decide (0 ≤ x5_2) = true := decide_eq_true c19
             clear c19
             by_cases c20 : x5_2 ≤ (wrap64 (x5_2 + 1))
             ·rw [if_pos c20] at H
              have c20b0 := eq_true c20
              have c20b1 : decide (x5_2 ≤ (wrap64 (x5_2 + 1))) = true := decide_eq_true c20
              by_cases c21 : (wrap64 (x5_2 + 1)) ≤ (a0.size : Int)
              ·rw [if_pos c21] at H
               have c21b0 := eq_true c21
               have c21b1 : decide ((wrap64 (x5_2 + 1)) ≤ (a0.size : Int)) = true := decide_eq_true c21
               by_cases c22 : x7_2.size + (a0.extract (x5_2 : Int).toNat ((wrap64 (x5_2 + 1)) : Int).toNat).size ≤ 9223372036854775807
               ·rw [if_pos c22] at H
                have c22b0 := eq_true c22
                have c22b1 : decide (x7_2.size + (a0.extract (x5_2 : Int).toNat ((wrap64 (x5_2 + 1)) : Int).toNat).size ≤ 9223372036854775807) = true := decide_eq_true c22
                try have c22b2 : (9223372036854775807 < x7_2.size + (a0.extract (x5_2 : Int).toNat ((wrap64 (x5_2 + 1)) : Int).toNat).size) = False := eq_false (Nat.not_lt.2 c22)
                by_cases c23 : x5_2 < (a0.size : Int)
                ·rw [if_pos c23] at H
                 have c23b0 : decide (x5_2 < (a0.size : Int)) = true := decide_eq_true c23
                 clear c23
                 by_cases c25 : (bt a0 x5_2) = 34
                 ·rw [if_pos c25] at H
                  have c25b0 : ((bt a0 x5_2) == 34) = true := beq_iff_eq.mpr c25
                  have c25b1 : ((bt a0 x5_2) != 34) = false := bne_eq_false_iff_eq.mpr c25
                  clear c25
                  have H' := Aside0.mk H
                  clear H
                  have p24 : 0 ≤ (x5_2 : Int) := of_decide_eq_true asA
                  have q24 : x5_2 < (a0.size : Int) := of_decide_eq_true asA
                  have hx24 := bt_at a0 x5_2
                  replace p24 := eq_true p24
                  replace q24 := eq_true q24
                  go_wp2
                  go_roundg kj8
                  case measure => have := HK1.out; have := HK2.out; have := HJ8.out; omega
                  case rel => exact ⟨(wrap64 ((wrap64 (x5_2 + 1)) + 1)), (x7_2 ++ (a0.extract (x5_2 : Int).toNat ((wrap64 (x5_2 + 1)) : Int).toNat)), sA, sA, H', ⟨by have := HK1.out; have := HK2.out; have := HJ8.out; omega⟩, ⟨kR HO_4⟩, ⟨bA⟩⟩
                 ·rw [if_neg c25] at H
                  have c25b0 : ((bt a0 x5_2) == 34) = false := beq_eq_false_iff_ne.mpr c25
                  have c25b1 : ((bt a0 x5_2) != 34) = true := bne_iff_ne.mpr c25
                  have H' := Aside0.mk H
                  clear H
                  have p24 : 0 ≤ (x5_2 : Int) := of_decide_eq_true asA
                  have q24 : x5_2 < (a0.size : Int) := of_decide_eq_true asA
                  have hx24 := bt_at a0 x5_2
                  replace p24 := eq_true p24
                  replace q24 := eq_true q24
                  go_wp2
                  go_roundg kj8
                  case measure => have := HK1.out; have := HK2.out; have := HJ8.out; omega
                  case rel => exact ⟨(wrap64 (x5_2 + 1)), (x7_2 ++ (a0.extract (x5_2 : Int).toNat ((wrap64 (x5_2 + 1)) : Int).toNat)), sA, sA, H', ⟨by have := HK1.out; have := HK2.out; have := HJ8.out; omega⟩, ⟨kR HO_4⟩, ⟨bA⟩⟩
                ·rw [if_neg c23] at H
                 exact absurd H (by simp)
               ·rw [if_neg c22] at H
                exact absurd H (by simp)
              ·rw [if_neg c21] at H
               exact absurd H (by simp)
             ·rw [if_neg c20] at H
              exact absurd H (by simp)
            ·rw [if_neg c19] at H
             exact absurd H (by simp)
           ·replace c18 := Bool.eq_false_iff.mpr c18
            subst c18
            have H1 : (if x4_1.length < 8796093022208 then ((some (x4_1 ++ [x7_2] : List ByteArray)).bind fun y160 => (if x5_2 ≥ (a0.size : Int) then (some (y160, false)) else (flongref05_Args.l0 kj8 a0 y160 (wrap64 (x5_2 + 1))))) else (none)) = some (r1, r2) := by rw [if_neg (show ¬ (false = true) by decide)] at H; exact H
            clear H
            have H := H1
            clear H1
            by_cases c26 : x4_1.length < 8796093022208
            ·rw [if_pos c26] at H
             have LMc26 := Aside0.mk c26
             clear c26
             obtain ⟨y160, hy160⟩ : ∃ y_ : List ByteArray, y_ = (x4_1 ++ [x7_2]) := ⟨_, rfl⟩
             replace H : (if x5_2 ≥ (a0.size : Int) then (some (y160, false)) else (flongref05_Args.l0 kj8 a0 y160 (wrap64 (x5_2 + 1)))) = some (r1, r2) := hyA hy160 H
             have Ny160 := Aside0.mk hy160
             clear hy160
             by_cases c27 : x5_2 ≥ (a0.size : Int)
             ·rw [if_pos c27] at H
              have c27b0 : decide ((a0.size : Int) ≤ x5_2) = true := decide_eq_true c27
              clear c27
              simp only [Option.some.injEq, Prod.mk.injEq] at H
              obtain ⟨rfl, rfl⟩ := H
              go_wp2_with (first | ((with_reducible refine gate_builtin (b := .append) (xs := #[.tmp 93, .tmp 95]) rfl ?_); (try (refine gate_guard (by rfl) ?_; dsimp only)); at_builtin; refine Kd.R_append Kd.string (w0 := w) w.heap.size rfl (.tmp 93) (.tmp 95) 23 9 (.string ⟨#[]⟩) 16 rfl Tryd.underlying23 info9 rfl (by decide) (by omega) u4 x4_1 x7_2 [.string x7_2] (fun _ => True) (fun _ => False) rfl rfl ?aP (fun _ hk => hk.elim) ?aF ?aO ?aB ?aS ?aL ?_; (case aP => exact rfl); (case aB => exact bA); (case aF => exact (fun _ _ => trivial)); (case aO => exact (kR HO_4)); (case aS => exact (below_size bA)); (case aL => have := LMc26.out; omega); intro v161 w28 ho hb hg hat; rw [← Ny160.out] at ho; have n0_ := Aside0.mk (hb); have n1_ := Aside0.mk (ho); clear HB; clear HO_4; have HB := n0_; have HO162 := n1_; clear n0_ n1_; clear ho hb hg hat))
              go_ret2
              exact ⟨_, eW, kR HO162, bA⟩
             ·rw [if_neg c27] at H
              have c27b0 : decide ((a0.size : Int) ≤ x5_2) = false := decide_eq_false c27
              clear c27
              have H' := Aside0.mk H
              clear H
              go_wp2_with (first | ((with_reducible refine gate_builtin (b := .append) (xs := #[.tmp 93, .tmp 95]) rfl ?_); (try (refine gate_guard (by rfl) ?_; dsimp only)); at_builtin; refine Kd.R_append Kd.string (w0 := w) w.heap.size rfl (.tmp 93) (.tmp 95) 23 9 (.string ⟨#[]⟩) 16 rfl Tryd.underlying23 info9 rfl (by decide) (by omega) u4 x4_1 x7_2 [.string x7_2] (fun _ => True) (fun _ => False) rfl rfl ?aP (fun _ hk => hk.elim) ?aF ?aO ?aB ?aS ?aL ?_; (case aP => exact rfl); (case aB => exact bA); (case aF => exact (fun _ _ => trivial)); (case aO => exact (kR HO_4)); (case aS => exact (below_size bA)); (case aL => have := LMc26.out; omega); intro v161 w29 ho hb hg hat; rw [← Ny160.out] at ho; have n0_ := Aside0.mk (hb); have n1_ := Aside0.mk (ho); clear HB; clear HO_4; have HB := n0_; have HO162 := n1_; clear n0_ n1_; clear ho hb hg hat))
              go_roundg kj8
              case measure => have := HK1.out; have := HK2.out; have := HJ8.out; omega
              case rel => exact ⟨(y160), (wrap64 (x5_2 + 1)), sA, H', ⟨by have := HK1.out; have := HK2.out; have := HJ8.out; omega⟩, ⟨kR HO162⟩, ⟨bA⟩⟩
            ·rw [if_neg c26] at H
             exact absurd H (by simp)
      ·rw [if_neg c8] at H
       have c8b0 : ((bt a0 x5_1) == 34) = false := beq_eq_false_iff_ne.mpr c8
       have c8b1 : ((bt a0 x5_1) != 34) = true := bne_iff_ne.mpr c8
       have H' := Aside0.mk H
       clear H
       have p4 : 0 ≤ (x5_1 : Int) := of_decide_eq_true asA
       have q4 : x5_1 < (a0.size : Int) := of_decide_eq_true asA
       have hx4 := bt_at a0 x5_1
       replace p4 := eq_true p4
       replace q4 := eq_true q4
       go_wp2_with (first | ((with_reducible refine gate_callee (f := 27) rfl ?_); refine goesL_ (some 15) rfl rfl Tryd.func27 (by kernel_rfl) rfl #[.int .u8 (bt a0 x5_1)] rfl aP ?_; (with_reducible refine (flongref05_blank.calls (bt a0 x5_1) false _ A5.out).mono ?_); rintro e w' ⟨rfl, ⟨nd, rfl⟩⟩; refine ⟨_, rfl, ?_⟩; have p7 : 0 ≤ (x5_1 : Int) := of_decide_eq_true asA; have q7 : x5_1 < (a0.size : Int) := of_decide_eq_true asA; have hx7 := bt_at a0 x5_1; replace p7 := eq_true p7; replace q7 := eq_true q7))
       go_loopg [5] k1 (fun kq v5 w' => ∃ (x5_2 : Int), v5 = .int .i64 x5_2 ∧ Aside0 (flongref05_Args.l1 kq a0 x4_1 x5_2 x5_1 = some (r1, r2)) ∧ Aside0 (kq ≤ k1) ∧ Aside0 (Kd.R Kd.string 9 w' w.heap.size (fun _ => True) u4 x4_1) ∧ Aside0 (Below w.heap.size w w'))
       case atStart => exact ⟨(x5_1), sA, H', ⟨Nat.le_refl _⟩, ⟨kR HO_4⟩, ⟨bA⟩⟩
       case round =>
        clear H'
        try clear c1
        try clear p1
        try clear q1
        try clear hx1
        try clear c2
        try clear c2b0
        try clear p2
        try clear q2
        try clear hx2
        try clear c3
        try clear c3b0
        try clear p4
        try clear q4
        try clear hx4
        try clear c6
        try clear p6
        try clear p7
        try clear q7
        try clear hx7
        try clear c8
        try clear c8b0
        try clear c8b1
        try clear c10
        try clear c10b0
        try clear c11
        try clear c11b0
        try clear p12
        try clear q12
        try clear hx12
        try clear c13
        try clear c13b0
        try clear c13b1
        try clear c14
        try clear c14b0
        try clear c16
        try clear c16b0
        try clear p17
        try clear q17
        try clear hx17
        try clear c18
        try clear c19
        try clear c19b0
        try clear c19b1
        try clear c20
        try clear c20b0
        try clear c20b1
        try clear c21
        try clear c21b0
        try clear c21b1
        try clear c22
        try clear c22b0
        try clear c22b1
        try clear c22b2
        try clear c23
        try clear c23b0
        try clear p24
        try clear q24
        try clear hx24
        try clear c25
        try clear c25b0
        try clear c25b1
        try clear c26
        try clear c27
        try clear c27b0
        try clear p1
        try clear p12
        try clear p17
        try clear p2
        try clear p24
        try clear p4
        try clear p6
        try clear p7
        try clear q1
        try clear q12
        try clear q17
        try clear q24
        try clear q4
        try clear q7
        obtain ⟨x5_2, rfl, HA, HK2, HO_4, HB⟩ := hrel
        cases gk with
        | zero => exact absurd HA.out (by simp [flongref05_Args.l1])
        | succ k2 =>
         have H := HA.out
         clear HA
         simp only [flongref05_Args.l1] at H
         by_cases c30 : x5_2 < (a0.size : Int)
         ·rw [if_pos c30] at H
          have c30b0 : decide (x5_2 < (a0.size : Int)) = true := decide_eq_true c30
          clear c30
          by_cases c31 : 0 ≤ x5_2
          ·rw [if_pos c31] at H
           have c31b0 : decide (0 ≤ x5_2) = true := decide_eq_true c31
           clear c31
           replace H := Option.bind_eq_some_iff.mp H
           obtain ⟨t152, A330, H⟩ := H
           replace H : (if t152 = true then (if 0 ≤ x5_1 then (if x5_1 ≤ (a0.size : Int) then ((flongref05_odd.f k2 (a0.extract (x5_1 : Int).toNat a0.size) (wrap64 (x5_2 - x5_1))).bind fun t153 => (if t153 = true then (flongref05_Args.l1 k2 a0 x4_1 (wrap64 (x5_2 + 1)) x5_1) else (if x5_1 ≤ x5_2 then (if x5_2 ≤ (a0.size : Int) then (if x4_1.length < 8796093022208 then (flongref05_Args.l0 k2 a0 (x4_1 ++ [a0.extract (x5_1 : Int).toNat (x5_2 : Int).toNat]) x5_2) else (none)) else (none)) else (none)))) else (none)) else (none)) else (flongref05_Args.l1 k2 a0 x4_1 (wrap64 (x5_2 + 1)) x5_1)) = some (r1, r2) := H
           have A33 := Aside0.mk A330
           clear A330
           by_cases c34 : t152 = true
           ·subst c34
            have H1 : (if 0 ≤ x5_1 then (if x5_1 ≤ (a0.size : Int) then ((flongref05_odd.f k2 (a0.extract (x5_1 : Int).toNat a0.size) (wrap64 (x5_2 - x5_1))).bind fun t153 => (if t153 = true then (flongref05_Args.l1 k2 a0 x4_1 (wrap64 (x5_2 + 1)) x5_1) else (if x5_1 ≤ x5_2 then (if x5_2 ≤ (a0.size : Int) then (if x4_1.length < 8796093022208 then (flongref05_Args.l0 k2 a0 (x4_1 ++ [a0.extract (x5_1 : Int).toNat (x5_2 : Int).toNat]) x5_2) else (none)) else (none)) else (none)))) else (none)) else (none)) = some (r1, r2) := by rw [if_pos rfl] at H; exact H
            clear H
            have H := H1
            clear H1
            by_cases c35 : 0 ≤ x5_1
            ·rw [if_pos c35] at H
             have c35b0 := eq_true c35
             have c35b1 : decide (0 ≤ x5_1) = true := decide_eq_true c35
             clear c35
             by_cases c36 : x5_1 ≤ (a0.size : Int)
             ·rw [if_pos c36] at H
              have c36b0 := eq_true c36
              have c36b1 : decide (x5_1 ≤ (a0.size : Int)) = true := decide_eq_true c36
              clear c36
              replace H := Option.bind_eq_some_iff.mp H
              obtain ⟨t153, A370, H⟩ := H
              replace H : (if t153 = true then (flongref05_Args.l1 k2 a0 x4_1 (wrap64 (x5_2 + 1)) x5_1) else (if x5_1 ≤ x5_2 then (if x5_2 ≤ (a0.size : Int) then (if x4_1.length < 8796093022208 then (flongref05_Args.l0 k2 a0 (x4_1 ++ [a0.extract (x5_1 : Int).toNat (x5_2 : Int).toNat]) x5_2) else (none)) else (none)) else (none))) = some (r1, r2) := H
              have A37 := Aside0.mk A370
              clear A370
              by_cases c38 : t153 = true
              ·subst c38
               have H1 : (flongref05_Args.l1 k2 a0 x4_1 (wrap64 (x5_2 + 1)) x5_1) = some (r1, r2) := by rw [if_pos rfl] at H; exact H
               clear H
               have H := H1
               clear H1
               have H' := Aside0.mk H
               clear H
               have p32 : 0 ≤ (x5_2 : Int) := of_decide_eq_true asA
               have q32 : x5_2 < (a0.size : Int) := of_decide_eq_true asA
               have hx32 := bt_at a0 x5_2
               replace p32 := eq_true p32
               replace q32 := eq_true q32
               go_wp2_with (first | (go_at_call 27; (with_reducible refine (flongref05_blank.calls (bt a0 x5_2) true _ A33.out).mono ?_); rintro e w' ⟨rfl, ⟨nd, rfl⟩⟩) | (go_at_call 28; (with_reducible refine (flongref05_odd.calls k2 (a0.extract (x5_1 : Int).toNat a0.size) (wrap64 (x5_2 - x5_1)) true _ A37.out).mono ?_); rintro e w' ⟨rfl, ⟨nd, rfl⟩⟩))
               go_roundg k2
               case measure => have := HK1.out; have := HK2.out; omega
               case rel => exact ⟨(wrap64 (x5_2 + 1)), sA, H', ⟨by have := HK1.out; have := HK2.out; omega⟩, ⟨kR HO_4⟩, ⟨bA⟩⟩
              ·replace c38 := Bool.eq_false_iff.mpr c38
               subst c38
               have H1 : (if x5_1 ≤ x5_2 then (if x5_2 ≤ (a0.size : Int) then (if x4_1.length < 8796093022208 then (flongref05_Args.l0 k2 a0 (x4_1 ++ [a0.extract (x5_1 : Int).toNat (x5_2 : Int).toNat]) x5_2) else (none)) else (none)) else (none)) = some (r1, r2) := by rw [if_neg (show ¬ (false = true) by decide)] at H; exact H
               clear H
               have H := H1
               clear H1
               have c39b0 := eq_true (of_decide_eq_true asA : 0 ≤ x5_1)
               by_cases c40 : x5_1 ≤ x5_2
               ·rw [if_pos c40] at H
                have c40b0 := eq_true c40
                have c40b1 : decide (x5_1 ≤ x5_2) = true := decide_eq_true c40
                clear c40
                by_cases c41 : x5_2 ≤ (a0.size : Int)
                ·rw [if_pos c41] at H
                 have c41b0 := eq_true c41
                 have c41b1 : decide (x5_2 ≤ (a0.size : Int)) = true := decide_eq_true c41
                 clear c41
                 by_cases c42 : x4_1.length < 8796093022208
                 ·rw [if_pos c42] at H
                  have LMc42 := Aside0.mk c42
                  clear c42
                  obtain ⟨y154, hy154⟩ : ∃ y_ : List ByteArray, y_ = (x4_1 ++ [a0.extract (x5_1 : Int).toNat (x5_2 : Int).toNat]) := ⟨_, rfl⟩
                  replace H : (flongref05_Args.l0 k2 a0 y154 x5_2) = some (r1, r2) := hyA hy154 H
                  have Ny154 := Aside0.mk hy154
                  clear hy154
                  have H' := Aside0.mk H
                  clear H
                  have p32 : 0 ≤ (x5_2 : Int) := of_decide_eq_true asA
                  have q32 : x5_2 < (a0.size : Int) := of_decide_eq_true asA
                  have hx32 := bt_at a0 x5_2
                  replace p32 := eq_true p32
                  replace q32 := eq_true q32
                  go_wp2_with (first | (go_at_call 27; (with_reducible refine (flongref05_blank.calls (bt a0 x5_2) true _ A33.out).mono ?_); rintro e w' ⟨rfl, ⟨nd, rfl⟩⟩) | (go_at_call 28; (with_reducible refine (flongref05_odd.calls k2 (a0.extract (x5_1 : Int).toNat a0.size) (wrap64 (x5_2 - x5_1)) false _ A37.out).mono ?_); rintro e w' ⟨rfl, ⟨nd, rfl⟩⟩) | ((with_reducible refine gate_builtin (b := .append) (xs := #[.tmp 45, .tmp 50]) rfl ?_); (try (refine gate_guard (by rfl) ?_; dsimp only)); at_builtin; refine Kd.R_append Kd.string (w0 := w) w.heap.size rfl (.tmp 45) (.tmp 50) 23 9 (.string ⟨#[]⟩) 16 rfl Tryd.underlying23 info9 rfl (by decide) (by omega) u4 x4_1 (a0.extract (x5_1 : Int).toNat (x5_2 : Int).toNat) [.string (a0.extract (x5_1 : Int).toNat (x5_2 : Int).toNat)] (fun _ => True) (fun _ => False) rfl rfl ?aP (fun _ hk => hk.elim) ?aF ?aO ?aB ?aS ?aL ?_; (case aP => exact rfl); (case aB => exact bA); (case aF => exact (fun _ _ => trivial)); (case aO => exact (kR HO_4)); (case aS => exact (below_size bA)); (case aL => have := LMc42.out; omega); intro v155 w43 ho hb hg hat; rw [← Ny154.out] at ho; have n0_ := Aside0.mk (hb); have n1_ := Aside0.mk (ho); clear HB; clear HO_4; have HB := n0_; have HO156 := n1_; clear n0_ n1_; clear ho hb hg hat))
                  go_roundg k2
                  case measure => have := HK1.out; have := HK2.out; omega
                  case rel => exact ⟨(y154), (x5_2), sA, H', ⟨by have := HK1.out; have := HK2.out; omega⟩, ⟨kR HO156⟩, ⟨bA⟩⟩
                 ·rw [if_neg c42] at H
                  exact absurd H (by simp)
                ·rw [if_neg c41] at H
                 exact absurd H (by simp)
               ·rw [if_neg c40] at H
                exact absurd H (by simp)
             ·rw [if_neg c36] at H
              exact absurd H (by simp)
            ·rw [if_neg c35] at H
             exact absurd H (by simp)
           ·replace c34 := Bool.eq_false_iff.mpr c34
            subst c34
            have H1 : (flongref05_Args.l1 k2 a0 x4_1 (wrap64 (x5_2 + 1)) x5_1) = some (r1, r2) := by rw [if_neg (show ¬ (false = true) by decide)] at H; exact H
            clear H
            have H := H1
            clear H1
            have H' := Aside0.mk H
            clear H
            have p32 : 0 ≤ (x5_2 : Int) := of_decide_eq_true asA
            have q32 : x5_2 < (a0.size : Int) := of_decide_eq_true asA
            have hx32 := bt_at a0 x5_2
            replace p32 := eq_true p32
            replace q32 := eq_true q32
            go_wp2_with (first | (go_at_call 27; (with_reducible refine (flongref05_blank.calls (bt a0 x5_2) false _ A33.out).mono ?_); rintro e w' ⟨rfl, ⟨nd, rfl⟩⟩))
            go_roundg k2
            case measure => have := HK1.out; have := HK2.out; omega
            case rel => exact ⟨(wrap64 (x5_2 + 1)), sA, H', ⟨by have := HK1.out; have := HK2.out; omega⟩, ⟨kR HO_4⟩, ⟨bA⟩⟩
          ·rw [if_neg c31] at H
           exact absurd H (by simp)
         ·rw [if_neg c30] at H
          have c30b0 : decide (x5_2 < (a0.size : Int)) = false := decide_eq_false c30
          clear c30
          by_cases c44 : 0 ≤ x5_1
          ·rw [if_pos c44] at H
           have c44b0 := eq_true c44
           have c44b1 : decide (0 ≤ x5_1) = true := decide_eq_true c44
           clear c44
           by_cases c45 : x5_1 ≤ x5_2
           ·rw [if_pos c45] at H
            have c45b0 := eq_true c45
            have c45b1 : decide (x5_1 ≤ x5_2) = true := decide_eq_true c45
            clear c45
            by_cases c46 : x5_2 ≤ (a0.size : Int)
            ·rw [if_pos c46] at H
             have c46b0 := eq_true c46
             have c46b1 : decide (x5_2 ≤ (a0.size : Int)) = true := decide_eq_true c46
             clear c46
             by_cases c47 : x4_1.length < 8796093022208
             ·rw [if_pos c47] at H
              have LMc47 := Aside0.mk c47
              clear c47
              obtain ⟨y157, hy157⟩ : ∃ y_ : List ByteArray, y_ = (x4_1 ++ [a0.extract (x5_1 : Int).toNat (x5_2 : Int).toNat]) := ⟨_, rfl⟩
              replace H : (flongref05_Args.l0 k2 a0 y157 x5_2) = some (r1, r2) := hyA hy157 H
              have Ny157 := Aside0.mk hy157
              clear hy157
              have H' := Aside0.mk H
              clear H
              go_wp2_with (first | ((with_reducible refine gate_builtin (b := .append) (xs := #[.tmp 45, .tmp 50]) rfl ?_); (try (refine gate_guard (by rfl) ?_; dsimp only)); at_builtin; refine Kd.R_append Kd.string (w0 := w) w.heap.size rfl (.tmp 45) (.tmp 50) 23 9 (.string ⟨#[]⟩) 16 rfl Tryd.underlying23 info9 rfl (by decide) (by omega) u4 x4_1 (a0.extract (x5_1 : Int).toNat (x5_2 : Int).toNat) [.string (a0.extract (x5_1 : Int).toNat (x5_2 : Int).toNat)] (fun _ => True) (fun _ => False) rfl rfl ?aP (fun _ hk => hk.elim) ?aF ?aO ?aB ?aS ?aL ?_; (case aP => exact rfl); (case aB => exact bA); (case aF => exact (fun _ _ => trivial)); (case aO => exact (kR HO_4)); (case aS => exact (below_size bA)); (case aL => have := LMc47.out; omega); intro v158 w48 ho hb hg hat; rw [← Ny157.out] at ho; have n0_ := Aside0.mk (hb); have n1_ := Aside0.mk (ho); clear HB; clear HO_4; have HB := n0_; have HO159 := n1_; clear n0_ n1_; clear ho hb hg hat))
              go_roundg k2
              case measure => have := HK1.out; have := HK2.out; omega
              case rel => exact ⟨(y157), (x5_2), sA, H', ⟨by have := HK1.out; have := HK2.out; omega⟩, ⟨kR HO159⟩, ⟨bA⟩⟩
             ·rw [if_neg c47] at H
              exact absurd H (by simp)
            ·rw [if_neg c46] at H
             exact absurd H (by simp)
           ·rw [if_neg c45] at H
            exact absurd H (by simp)
          ·rw [if_neg c44] at H
           exact absurd H (by simp)
    ·rw [if_neg c3] at H
     exact absurd H (by simp)
   ·rw [if_neg c2] at H
    have c2b0 : decide (x5_1 < (a0.size : Int)) = false := decide_eq_false c2
    clear c2
    simp only [Option.some.injEq, Prod.mk.injEq] at H
    obtain ⟨rfl, rfl⟩ := H
    go_wp2
    go_ret2
    exact ⟨_, eW, kR HO_4, bA⟩

/-! ### flongref05_Quoted: function 16 -/
def flongref05_Quoted.l0 : Nat → ByteArray → ByteArray → Int → Option (ByteArray)
 | 0, _, _, _ => none
 | k + 1, x0, x3, x4 => if x4 < (x0.size : Int) then (if 0 ≤ x4 then (if x4 ≤ (wrap64 (x4 + 1)) then (if (wrap64 (x4 + 1)) ≤ (x0.size : Int) then (if x3.size + (x0.extract (x4 : Int).toNat ((wrap64 (x4 + 1)) : Int).toNat).size ≤ 9223372036854775807 then (if (bt x0 x4) = 34 then (if (x3 ++ (x0.extract (x4 : Int).toNat ((wrap64 (x4 + 1)) : Int).toNat)).size + 1 ≤ 9223372036854775807 then (flongref05_Quoted.l0 k x0 ((x3 ++ (x0.extract (x4 : Int).toNat ((wrap64 (x4 + 1)) : Int).toNat)) ++ (⟨#[34]⟩ : ByteArray)) (wrap64 (x4 + 1))) else (none)) else (flongref05_Quoted.l0 k x0 (x3 ++ (x0.extract (x4 : Int).toNat ((wrap64 (x4 + 1)) : Int).toNat)) (wrap64 (x4 + 1)))) else (none)) else (none)) else (none)) else (none)) else (if x3.size + 1 ≤ 9223372036854775807 then (some (x3 ++ (⟨#[34]⟩ : ByteArray))) else (none))
def flongref05_Quoted.f (k : Nat) (a0 : ByteArray) : Option (ByteArray) := flongref05_Quoted.l0 k a0 (⟨#[34]⟩ : ByteArray) 0
theorem flongref05_Quoted.mono_l : ∀ k, (∀ y0 y1 y2, LeO (flongref05_Quoted.l0 k y0 y1 y2) (flongref05_Quoted.l0 (k + 1) y0 y1 y2))
 | 0 => fun _ _ _ r h => by simp [flongref05_Quoted.l0] at h
 | k + 1 => by
  have ih0 := flongref05_Quoted.mono_l k
  ·intro y0 y1 y2
   unfold flongref05_Quoted.l0
   repeat' first
   | (with_reducible exact ih0 _ _ _)
   | (with_reducible exact LeO.refl _)
   | (with_reducible exact LeO.none _)
   | (with_reducible refine LeO.ite ?_ ?_)
   | (with_reducible refine LeO.bind ?_ (fun _ => ?_))
theorem flongref05_Quoted.mono : ∀ a0 k, LeO (flongref05_Quoted.f k a0) (flongref05_Quoted.f (k + 1) a0) := by
 intro a0 k
 have ih0 := flongref05_Quoted.mono_l k
 unfold flongref05_Quoted.f
 repeat' first
   | (with_reducible exact ih0 _ _ _)
   | (with_reducible exact LeO.refl _)
   | (with_reducible exact LeO.none _)
   | (with_reducible refine LeO.ite ?_ ?_)
   | (with_reducible refine LeO.bind ?_ (fun _ => ?_))
theorem flongref05_Quoted.calls (k : Nat) (a0 : ByteArray) (r : ByteArray) (w : World) (h : flongref05_Quoted.f k a0 = some r) :
  Calls Tryd.prog 16 #[.string a0] w fun e w' => e = .returned (.string r) ∧ Drawn0 w w' := by
 have H : (flongref05_Quoted.l0 k a0 (⟨#[34]⟩ : ByteArray) 0) = some r := h
 clear h
 have H' := Aside0.mk H
 clear H
 go_enter Tryd.func16, Tryd.ntmps16
 go_wp2
 go_loopg [3, 4] k (fun kq v3 v4 w' => ∃ (x3_1 : ByteArray) (x4_1 : Int), v3 = .string x3_1 ∧ v4 = .int .i64 x4_1 ∧ Aside0 (flongref05_Quoted.l0 kq a0 x3_1 x4_1 = some r) ∧ Aside0 (kq ≤ k) ∧ Drawn0 w w')
 case atStart => exact ⟨((⟨#[34]⟩ : ByteArray)), (0), sA, sA, H', ⟨Nat.le_refl _⟩, by repeat (first | exact Drawn0.refl _ | apply Drawn0.step)⟩
 case round =>
  clear H'
  try clear c1
  obtain ⟨x3_1, x4_1, rfl, rfl, HA, HK1, ⟨m1, rfl⟩⟩ := hrel
  cases gk with
  | zero => exact absurd HA.out (by simp [flongref05_Quoted.l0])
  | succ k1 =>
   have H := HA.out
   clear HA
   simp only [flongref05_Quoted.l0] at H
   by_cases c2 : x4_1 < (a0.size : Int)
   ·rw [if_pos c2] at H
    have c2b0 : decide (x4_1 < (a0.size : Int)) = true := decide_eq_true c2
    clear c2
    by_cases c3 : 0 ≤ x4_1
    ·rw [if_pos c3] at H
     have c3b0 := eq_true c3
     have c3b1 : decide (0 ≤ x4_1) = true := decide_eq_true c3
     clear c3
     by_cases c4 : x4_1 ≤ (wrap64 (x4_1 + 1))
     ·rw [if_pos c4] at H
      have c4b0 := eq_true c4
      have c4b1 : decide (x4_1 ≤ (wrap64 (x4_1 + 1))) = true := decide_eq_true c4
      by_cases c5 : (wrap64 (x4_1 + 1)) ≤ (a0.size : Int)
      ·rw [if_pos c5] at H
       have c5b0 := eq_true c5
       have c5b1 : decide ((wrap64 (x4_1 + 1)) ≤ (a0.size : Int)) = true := decide_eq_true c5
       by_cases c6 : x3_1.size + (a0.extract (x4_1 : Int).toNat ((wrap64 (x4_1 + 1)) : Int).toNat).size ≤ 9223372036854775807
       ·rw [if_pos c6] at H
        have c6b0 := eq_true c6
        have c6b1 : decide (x3_1.size + (a0.extract (x4_1 : Int).toNat ((wrap64 (x4_1 + 1)) : Int).toNat).size ≤ 9223372036854775807) = true := decide_eq_true c6
        try have c6b2 : (9223372036854775807 < x3_1.size + (a0.extract (x4_1 : Int).toNat ((wrap64 (x4_1 + 1)) : Int).toNat).size) = False := eq_false (Nat.not_lt.2 c6)
        by_cases c8 : (bt a0 x4_1) = 34
        ·rw [if_pos c8] at H
         have c8b0 : ((bt a0 x4_1) == 34) = true := beq_iff_eq.mpr c8
         have c8b1 : ((bt a0 x4_1) != 34) = false := bne_eq_false_iff_eq.mpr c8
         clear c8
         by_cases c9 : (x3_1 ++ (a0.extract (x4_1 : Int).toNat ((wrap64 (x4_1 + 1)) : Int).toNat)).size + 1 ≤ 9223372036854775807
         ·rw [if_pos c9] at H
          have c9b0 := eq_true c9
          have c9b1 : decide ((x3_1 ++ (a0.extract (x4_1 : Int).toNat ((wrap64 (x4_1 + 1)) : Int).toNat)).size + 1 ≤ 9223372036854775807) = true := decide_eq_true c9
          try have c9b2 : (9223372036854775807 < (x3_1 ++ (a0.extract (x4_1 : Int).toNat ((wrap64 (x4_1 + 1)) : Int).toNat)).size + 1) = False := eq_false (Nat.not_lt.2 c9)
          (try (have c9n := c9; simp only [ByteArray.size_append'] at c9n; have c9b3 := eq_false (Nat.not_lt.2 c9n); have c9b4 := eq_true c9n; clear c9n))
          (try (have c9e : x3_1.size + ((wrap64 (x4_1 + 1)).toNat - x4_1.toNat) + 1 ≤ 9223372036854775807 := (by have h_ := c9; rw [ByteArray.size_append', ByteArray.size_extract] at h_; omega); have c9b9 := eq_false (Nat.not_lt.2 c9e); have c9c0 := eq_true c9e; clear c9e))
          have H' := Aside0.mk H
          clear H
          have p7 : 0 ≤ (x4_1 : Int) := of_decide_eq_true asA
          have q7 : x4_1 < (a0.size : Int) := of_decide_eq_true asA
          have hx7 := bt_at a0 x4_1
          replace p7 := eq_true p7
          replace q7 := eq_true q7
          go_wp2
          go_roundg k1
          case measure => have := HK1.out; omega
          case rel => exact ⟨((x3_1 ++ (a0.extract (x4_1 : Int).toNat ((wrap64 (x4_1 + 1)) : Int).toNat)) ++ (⟨#[34]⟩ : ByteArray)), (wrap64 (x4_1 + 1)), sA, sA, H', ⟨by have := HK1.out; omega⟩, by repeat (first | exact Drawn0.refl _ | apply Drawn0.step)⟩
         ·rw [if_neg c9] at H
          exact absurd H (by simp)
        ·rw [if_neg c8] at H
         have c8b0 : ((bt a0 x4_1) == 34) = false := beq_eq_false_iff_ne.mpr c8
         have c8b1 : ((bt a0 x4_1) != 34) = true := bne_iff_ne.mpr c8
         have H' := Aside0.mk H
         clear H
         have p7 : 0 ≤ (x4_1 : Int) := of_decide_eq_true asA
         have q7 : x4_1 < (a0.size : Int) := of_decide_eq_true asA
         have hx7 := bt_at a0 x4_1
         replace p7 := eq_true p7
         replace q7 := eq_true q7
         go_wp2
         go_roundg k1
         case measure => have := HK1.out; omega
         case rel => exact ⟨(x3_1 ++ (a0.extract (x4_1 : Int).toNat ((wrap64 (x4_1 + 1)) : Int).toNat)), (wrap64 (x4_1 + 1)), sA, sA, H', ⟨by have := HK1.out; omega⟩, by repeat (first | exact Drawn0.refl _ | apply Drawn0.step)⟩
       ·rw [if_neg c6] at H
        exact absurd H (by simp)
      ·rw [if_neg c5] at H
       exact absurd H (by simp)
     ·rw [if_neg c4] at H
      exact absurd H (by simp)
    ·rw [if_neg c3] at H
     exact absurd H (by simp)
   ·rw [if_neg c2] at H
    have c2b0 : decide (x4_1 < (a0.size : Int)) = false := decide_eq_false c2
    clear c2
    by_cases c10 : x3_1.size + 1 ≤ 9223372036854775807
    ·rw [if_pos c10] at H
     have c10b0 := eq_true c10
     have c10b1 : decide (x3_1.size + 1 ≤ 9223372036854775807) = true := decide_eq_true c10
     try have c10b2 : (9223372036854775807 < x3_1.size + 1) = False := eq_false (Nat.not_lt.2 c10)
     obtain rfl := Option.some.inj H
     go_wp2
     go_ret
     exact ⟨sA, by repeat (first | exact Drawn0.refl _ | apply Drawn0.step)⟩
    ·rw [if_neg c10] at H
     exact absurd H (by simp)

end Go.Proofs.YtmfkokjbjmahkaaDoor.X
