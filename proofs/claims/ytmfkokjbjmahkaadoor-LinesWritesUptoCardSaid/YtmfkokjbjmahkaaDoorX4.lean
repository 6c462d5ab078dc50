-- Written by this session's xprint.py (a variant of the kit's printer). Not trusted: Lean checks it.
import Derived.Test.YtmfkokjbjmahkaaDoorX0
import Derived.Test.YtmfkokjbjmahkaaDoorSlim
import Derived.Test.YtmfkokjbjmahkaaDoorX2
import Derived.Test.YtmfkokjbjmahkaaDoorX3
import Derived.Test.YtmfkokjbjmahkaaDoorHandA
import Derived.Test.YtmfkokjbjmahkaaDoorHandE
namespace Go.Proofs.YtmfkokjbjmahkaaDoor.X
open Go.Proofs.YtmfkokjbjmahkaaDoor.Hand
open Go.RowKit Go.Proofs.YtmfkokjbjmahkaaDoorW.PrintWords Go.Proofs.YtmfkokjbjmahkaaDoorW.PrintLast Go.Proofs.YtmfkokjbjmahkaaDoorW.PrintMore
attribute [local go_sem] max2_int min2_int max_two min_two max_three min_three max_four min_four   -- for this text's walks alone
set_option linter.unusedVariables false
set_option maxHeartbeats 8000000
set_option maxRecDepth 100000
set_option linter.unusedSimpArgs false

/-! ### flonglaw05_known: function 11 -/
def flonglaw05_known.f (k : Nat)  : Option (Bool) := (lines_Read.f k (⟨#[46, 66, 32, 34, 97, 32, 98, 34, 32, 99, 10]⟩ : ByteArray)).bind fun bt137 => ((flongref05_Same.f k bt137.1 (([(⟨1, (⟨#[66]⟩ : ByteArray), (([(⟨#[97, 32, 98]⟩ : ByteArray), (⟨#[99]⟩ : ByteArray)] : List ByteArray)), (⟨#[]⟩ : ByteArray)⟩ : S35)] : List (S35)))).bind fun t149 => (if t149 = true then (if (bt137.2.length : Int) = 0 then ((lines_Quoted.f (⟨#[120]⟩ : ByteArray)).bind fun t150 => (some (t150.toList == ([34, 120, 34] : List UInt8)))) else (some false)) else (some false)))
theorem flonglaw05_known.mono : ∀ k, LeO (flonglaw05_known.f k ) (flonglaw05_known.f (k + 1) ) := by
 intro  k
 unfold flonglaw05_known.f
 repeat' first
   | (with_reducible exact flongref05_Same.mono _ _ _)
   | (with_reducible exact lines_Read.mono _ _)
   | (with_reducible exact LeO.refl _)
   | (with_reducible exact LeO.none _)
   | (with_reducible refine LeO.ite ?_ ?_)
   | (with_reducible refine LeO.bind ?_ (fun _ => ?_))
theorem flonglaw05_known.calls (k : Nat)  (r : Bool) (w : World) (hG : GOK [0] w) (h : flonglaw05_known.f k  = some r) :
  Calls Tryd.prog 11 #[] w fun e w' => e = .returned (.bool r) ∧ Below w.heap.size w w' := by
 have hu35 := Tryd.underlying35
 have HG := Aside0.mk hG
 clear hG
 have HB := Aside0.mk (Below.refl w.heap.size w)
 have H : ((lines_Read.f k (⟨#[46, 66, 32, 34, 97, 32, 98, 34, 32, 99, 10]⟩ : ByteArray)).bind fun bt137 => ((flongref05_Same.f k bt137.1 (([(⟨1, (⟨#[66]⟩ : ByteArray), (([(⟨#[97, 32, 98]⟩ : ByteArray), (⟨#[99]⟩ : ByteArray)] : List ByteArray)), (⟨#[]⟩ : ByteArray)⟩ : S35)] : List (S35)))).bind fun t149 => (if t149 = true then (if (bt137.2.length : Int) = 0 then ((lines_Quoted.f (⟨#[120]⟩ : ByteArray)).bind fun t150 => (some (t150.toList == ([34, 120, 34] : List UInt8)))) else (some false)) else (some false)))) = some r := h
 clear h
 replace H := Option.bind_eq_some_iff.mp H
 obtain ⟨⟨t137, t138⟩, A10, H⟩ := H
 replace H : ((flongref05_Same.f k t137 (([(⟨1, (⟨#[66]⟩ : ByteArray), (([(⟨#[97, 32, 98]⟩ : ByteArray), (⟨#[99]⟩ : ByteArray)] : List ByteArray)), (⟨#[]⟩ : ByteArray)⟩ : S35)] : List (S35)))).bind fun t149 => (if t149 = true then (if (t138.length : Int) = 0 then ((lines_Quoted.f (⟨#[120]⟩ : ByteArray)).bind fun t150 => (some (t150.toList == ([34, 120, 34] : List UInt8)))) else (some false)) else (some false))) = some r := H
 have A1 := Aside0.mk A10
 clear A10
 obtain ⟨y143, hy143⟩ : ∃ y_ : List ByteArray, y_ = (([(⟨#[97, 32, 98]⟩ : ByteArray), (⟨#[99]⟩ : ByteArray)] : List ByteArray)) := ⟨_, rfl⟩
 replace H : ((flongref05_Same.f k t137 (([(⟨1, (⟨#[66]⟩ : ByteArray), y143, (⟨#[]⟩ : ByteArray)⟩ : S35)] : List (S35)))).bind fun t149 => (if t149 = true then (if (t138.length : Int) = 0 then ((lines_Quoted.f (⟨#[120]⟩ : ByteArray)).bind fun t150 => (some (t150.toList == ([34, 120, 34] : List UInt8)))) else (some false)) else (some false))) = some r := hyA hy143 H
 have Ny143 := Aside0.mk hy143
 clear hy143
 obtain ⟨y146, hy146⟩ : ∃ y_ : List (S35), y_ = (([(⟨1, (⟨#[66]⟩ : ByteArray), y143, (⟨#[]⟩ : ByteArray)⟩ : S35)] : List (S35))) := ⟨_, rfl⟩
 replace H : ((flongref05_Same.f k t137 y146).bind fun t149 => (if t149 = true then (if (t138.length : Int) = 0 then ((lines_Quoted.f (⟨#[120]⟩ : ByteArray)).bind fun t150 => (some (t150.toList == ([34, 120, 34] : List UInt8)))) else (some false)) else (some false))) = some r := hyA hy146 H
 have Ny146 := Aside0.mk hy146
 clear hy146
 replace H := Option.bind_eq_some_iff.mp H
 obtain ⟨t149, A20, H⟩ := H
 replace H : (if t149 = true then (if (t138.length : Int) = 0 then ((lines_Quoted.f (⟨#[120]⟩ : ByteArray)).bind fun t150 => (some (t150.toList == ([34, 120, 34] : List UInt8)))) else (some false)) else (some false)) = some r := H
 have A2 := Aside0.mk A20
 clear A20
 by_cases c3 : t149 = true
 ·subst c3
  have H1 : (if (t138.length : Int) = 0 then ((lines_Quoted.f (⟨#[120]⟩ : ByteArray)).bind fun t150 => (some (t150.toList == ([34, 120, 34] : List UInt8)))) else (some false)) = some r := by rw [if_pos rfl] at H; exact H
  clear H
  have H := H1
  clear H1
  by_cases c4 : (t138.length : Int) = 0
  ·rw [if_pos c4] at H
   have c4b0 : ((t138.length : Int) == 0) = true := beq_iff_eq.mpr c4
   have c4b1 : ((t138.length : Int) != 0) = false := bne_eq_false_iff_eq.mpr c4
   clear c4
   replace H := Option.bind_eq_some_iff.mp H
   obtain ⟨t150, A50, H⟩ := H
   replace H : (some (t150.toList == ([34, 120, 34] : List UInt8))) = some r := H
   have A5 := Aside0.mk A50
   clear A50
   obtain rfl := Option.some.inj H
   go_enter Tryd.func11, Tryd.ntmps11
   go_wp2_with (first | ((with_reducible refine gate_callee (f := 17) rfl ?_); refine goesL_ (some 4) rfl rfl Tryd.func17 (by kernel_rfl) rfl #[.string (⟨#[46, 66, 32, 34, 97, 32, 98, 34, 32, 99, 10]⟩ : ByteArray)] rfl aP ?_; (with_reducible refine (lines_Read.calls k (⟨#[46, 66, 32, 34, 97, 32, 98, 34, 32, 99, 10]⟩ : ByteArray) t137 t138 _ A1.out).mono ?_); rintro e w6 ⟨v139, v141, rfl, ho0, ho1, hb⟩; refine ⟨_, rfl, ?_⟩; have HO140 := Aside0.mk (Kd.N_lower (Kd.N_mono (ok' := fun k_ => some k_ ≠ (v141 : Value).ownBlock) (Kd.S_N (Kd.S_bound (Kd.S_apart' ho0 (Kd.R_typed ho1) (by decide)))) (fun k_ hk_ => hk_.1.2)) (below_size bA)); have HO142 := Aside0.mk (Kd.R_lower ho1 (below_size bA)); replace HB := Aside0.mk (below_step bA hb); (try clear hb); (try clear hb2); (try clear hk); (try clear hi); (try clear ho0); (try clear ho1)) | ((with_reducible refine gate_dst (N := 8) rfl ?_); (try (refine gate_guard (by rfl) ?_; dsimp only)); refine Kd.R_lit Kd.string _ 9 ?hg (N := 8) ?hd (xs := ([(⟨#[97, 32, 98]⟩ : ByteArray), (⟨#[99]⟩ : ByteArray)] : List ByteArray)) (inner := [.string (⟨#[97, 32, 98]⟩ : ByteArray), .string (⟨#[99]⟩ : ByteArray)]) (ok := fun _ => True) (okp := fun _ => True) ?hr ?hp (fun _ hk => hk) trivial (Below.refl _ _) (Nat.le_refl _) (by simp) ?_; (case hd => rfl); (case hg => rfl); (case hr => first | (go_simp; done) | (go_simp; rfl)); (case hp => exact (Reps.one (show Kd.M Kd.string _ _ _ (⟨#[97, 32, 98]⟩ : ByteArray) [.string (⟨#[97, 32, 98]⟩ : ByteArray)] from rfl) (Reps.one (show Kd.M Kd.string _ _ _ (⟨#[99]⟩ : ByteArray) [.string (⟨#[99]⟩ : ByteArray)] from rfl) (Reps.none _ _)))); intro v144 w7 ho8 hb hg_ hnew_; clear hg_ hnew_; (first | rw [← Ny143.out] at ho8 | (simp only [Int.reduceToNat] at ho8; rw [← Ny143.out] at ho8)); have n0_ := Aside0.mk (Kd.N_elder' (by (with_reducible repeat (first | apply Kd.N_alloc | apply Kd.N_drewN | apply Kd.N_drew)); exact HO140.out) (Kd.R_base ho8) hb); have n1_ := Aside0.mk (Kd.R_below (kR HO142) hb); have n2_ := Aside0.mk (Kd.R_lower ho8 (below_size bA)); have n3_ := Aside0.mk (below_step bA hb); clear HO140; clear HO142; clear HB; have HO140 := n0_; have HO142 := n1_; have HO145 := n2_; have HB := n3_; clear n0_ n1_ n2_ n3_; clear hb ho8; obtain ⟨Ao9, co9, eo9⟩ := Kd.R_slice HO145.out; subst eo9) | ((with_reducible refine gate_dst (N := 10) rfl ?_); (try (refine gate_guard (by rfl) ?_; dsimp only)); refine Kd.N_lit k35 _ 35 ?hg (N' := 10) ?hd (xs := ([(⟨1, (⟨#[66]⟩ : ByteArray), y143, (⟨#[]⟩ : ByteArray)⟩ : S35)] : List (S35))) (inner := [.int .i64 1, .string (⟨#[66]⟩ : ByteArray), .slice Ao9 y143.length co9, .string (⟨#[]⟩ : ByteArray)]) (ok := (fun k_ => some k_ ≠ (v139 : Value).ownBlock ∧ some k_ ≠ (v141 : Value).ownBlock)) (okp := (fun k_ => some k_ ≠ (v139 : Value).ownBlock ∧ some k_ ≠ (v141 : Value).ownBlock)) ?hr ?hp (fun _ hk => hk) ((show ∀ k_, w7.heap.size ≤ k_ → (fun k_ => some k_ ≠ (v139 : Value).ownBlock ∧ some k_ ≠ (v141 : Value).ownBlock) k_ from fun k_ hk => ⟨Kd.fresh' (Kd.N_lt (by (with_reducible repeat (first | apply Kd.N_alloc | apply Kd.N_drewN | apply Kd.N_drew)); exact HO140.out)) k_ hk, Kd.fresh' (Kd.R_lt (kR HO142)) k_ hk⟩) _ (Nat.le_refl _)) (Below.refl _ _) (Nat.le_refl _) (by simp) ?_; (case hd => rfl); (case hg => rfl); (case hr => first | (go_simp; done) | (go_simp; rfl)); (case hp => exact (Reps.c4 (show Kd.FK k35 _ _ (⟨1, (⟨#[66]⟩ : ByteArray), y143, (⟨#[]⟩ : ByteArray)⟩ : S35) [.int .i64 1, .string (⟨#[66]⟩ : ByteArray), .slice Ao9 y143.length co9, .string (⟨#[]⟩ : ByteArray)] from (k35_mkF _ _ (⟨1, (⟨#[66]⟩ : ByteArray), y143, (⟨#[]⟩ : ByteArray)⟩ : S35) (Kd.R_reads' (Kd.R_mono (ok' := (fun k_ => some k_ ≠ (v139 : Value).ownBlock ∧ some k_ ≠ (v141 : Value).ownBlock)) (Kd.R_apart' (Kd.R_apart' (HO145.out) (Kd.N_typed HO140.out) (by decide)) (Kd.R_typed HO142.out) (by decide)) (fun k_ hk => ⟨hk.1.2, hk.2⟩))).2.1 (Kd.R_F (Kd.R_mono (ok' := (fun k_ => some k_ ≠ (v139 : Value).ownBlock ∧ some k_ ≠ (v141 : Value).ownBlock)) (Kd.R_apart' (Kd.R_apart' (HO145.out) (Kd.N_typed HO140.out) (by decide)) (Kd.R_typed HO142.out) (by decide)) (fun k_ hk => ⟨hk.1.2, hk.2⟩))))) (Reps.none _ _))); intro v147 w10 ho11 hb hg_ hnew_; clear hg_ hnew_; (first | rw [← Ny146.out] at ho11 | (simp only [Int.reduceToNat] at ho11; rw [← Ny146.out] at ho11)); have n0_ := Aside0.mk (Kd.N_elder' (by (with_reducible repeat (first | apply Kd.N_alloc | apply Kd.N_drewN | apply Kd.N_drew)); exact HO140.out) (Kd.N_base ho11) hb); have n1_ := Aside0.mk (Kd.R_below (kR HO142) hb); have n2_ := Aside0.mk (Kd.N_lower ho11 (below_size bA)); have n3_ := Aside0.mk (below_step bA hb); clear HO140; clear HO142; clear HB; clear HO145; have HO140 := n0_; have HO142 := n1_; have HO148 := n2_; have HB := n3_; clear n0_ n1_ n2_ n3_; clear hb ho11; obtain ⟨Ao12, co12, eo12⟩ := Kd.N_slice HO140.out; subst eo12; obtain ⟨Ao13, co13, eo13⟩ := Kd.N_slice HO148.out; subst eo13) | ((with_reducible refine gate_callee (f := 18) rfl ?_); refine goesL_ (some 11) rfl rfl Tryd.func18 (by kernel_rfl) rfl #[.slice Ao12 t137.length co12, .slice Ao13 y146.length co13] rfl aP ?_; (with_reducible refine (flongref05_Same.calls k _ _ t137 _ _ y146 true _ ?side1 ?side2 ?side3 ?side4 A2.out).mono ?_); (case side1 => repeat (first | exact (Kd.N_reads' HO140.out).2.2 | (with_reducible refine Kd.C_alloc ?_ _) | (with_reducible refine Kd.C_drewN ?_ _) | (with_reducible refine Kd.C_drew ?_))); (case side2 => exact (Kd.N_reads' HO140.out).2.1); (case side3 => repeat (first | exact (Kd.N_reads' HO148.out).2.2 | (with_reducible refine Kd.C_alloc ?_ _) | (with_reducible refine Kd.C_drewN ?_ _) | (with_reducible refine Kd.C_drew ?_))); (case side4 => exact (Kd.N_reads' HO148.out).2.1); rintro e w14 ⟨rfl, hb⟩; refine ⟨_, rfl, ?_⟩; have n0_ := Aside0.mk (Kd.N_below (by (with_reducible repeat (first | apply Kd.N_alloc | apply Kd.N_drewN | apply Kd.N_drew)); exact HO140.out) hb); have n1_ := Aside0.mk (Kd.R_below (kR HO142) hb); have n2_ := Aside0.mk (Kd.N_below (by (with_reducible repeat (first | apply Kd.N_alloc | apply Kd.N_drewN | apply Kd.N_drew)); exact HO148.out) hb); have n3_ := Aside0.mk (below_step bA hb); clear HO140; clear HO142; clear HO148; clear HB; have HO140 := n0_; have HO142 := n1_; have HO148 := n2_; have HB := n3_; clear n0_ n1_ n2_ n3_; (try clear hb); (try clear hb2); (try clear hk); (try clear hi); obtain ⟨Ao15, co15, eo15⟩ := Kd.R_slice HO142.out; subst eo15) | (go_at_call 15; (with_reducible refine (lines_Quoted.calls (⟨#[120]⟩ : ByteArray) t150 _ ?side1 A5.out).mono ?_); (case side1 => exact GOK.of_below (GOK.sub HG.out rfl) bA); rintro e w16 ⟨rfl, hb⟩; have n0_ := Aside0.mk (Kd.N_below (by (with_reducible repeat (first | apply Kd.N_alloc | apply Kd.N_drewN | apply Kd.N_drew)); exact HO140.out) hb); have n1_ := Aside0.mk (Kd.R_below (kR HO142) hb); have n2_ := Aside0.mk (Kd.N_below (by (with_reducible repeat (first | apply Kd.N_alloc | apply Kd.N_drewN | apply Kd.N_drew)); exact HO148.out) hb); have n3_ := Aside0.mk (below_step bA hb); clear HO140; clear HO142; clear HO148; clear HB; have HO140 := n0_; have HO142 := n1_; have HO148 := n2_; have HB := n3_; clear n0_ n1_ n2_ n3_; (try clear hb); (try clear hb2); (try clear hk); (try clear hi)))
   go_ret
   exact ⟨eW, bA⟩
  ·rw [if_neg c4] at H
   have c4b0 : ((t138.length : Int) == 0) = false := beq_eq_false_iff_ne.mpr c4
   have c4b1 : ((t138.length : Int) != 0) = true := bne_iff_ne.mpr c4
   have c4b2 : ¬ (t138 = []) := fun h_ => c4 (by rw [h_]; rfl)
   obtain rfl := Option.some.inj H
   go_enter Tryd.func11, Tryd.ntmps11
   go_wp2_with (first | ((with_reducible refine gate_callee (f := 17) rfl ?_); refine goesL_ (some 4) rfl rfl Tryd.func17 (by kernel_rfl) rfl #[.string (⟨#[46, 66, 32, 34, 97, 32, 98, 34, 32, 99, 10]⟩ : ByteArray)] rfl aP ?_; (with_reducible refine (lines_Read.calls k (⟨#[46, 66, 32, 34, 97, 32, 98, 34, 32, 99, 10]⟩ : ByteArray) t137 t138 _ A1.out).mono ?_); rintro e w17 ⟨v139, v141, rfl, ho0, ho1, hb⟩; refine ⟨_, rfl, ?_⟩; have HO140 := Aside0.mk (Kd.N_lower (Kd.N_mono (ok' := fun k_ => some k_ ≠ (v141 : Value).ownBlock) (Kd.S_N (Kd.S_bound (Kd.S_apart' ho0 (Kd.R_typed ho1) (by decide)))) (fun k_ hk_ => hk_.1.2)) (below_size bA)); have HO142 := Aside0.mk (Kd.R_lower ho1 (below_size bA)); replace HB := Aside0.mk (below_step bA hb); (try clear hb); (try clear hb2); (try clear hk); (try clear hi); (try clear ho0); (try clear ho1)) | ((with_reducible refine gate_dst (N := 8) rfl ?_); (try (refine gate_guard (by rfl) ?_; dsimp only)); refine Kd.R_lit Kd.string _ 9 ?hg (N := 8) ?hd (xs := ([(⟨#[97, 32, 98]⟩ : ByteArray), (⟨#[99]⟩ : ByteArray)] : List ByteArray)) (inner := [.string (⟨#[97, 32, 98]⟩ : ByteArray), .string (⟨#[99]⟩ : ByteArray)]) (ok := fun _ => True) (okp := fun _ => True) ?hr ?hp (fun _ hk => hk) trivial (Below.refl _ _) (Nat.le_refl _) (by simp) ?_; (case hd => rfl); (case hg => rfl); (case hr => first | (go_simp; done) | (go_simp; rfl)); (case hp => exact (Reps.one (show Kd.M Kd.string _ _ _ (⟨#[97, 32, 98]⟩ : ByteArray) [.string (⟨#[97, 32, 98]⟩ : ByteArray)] from rfl) (Reps.one (show Kd.M Kd.string _ _ _ (⟨#[99]⟩ : ByteArray) [.string (⟨#[99]⟩ : ByteArray)] from rfl) (Reps.none _ _)))); intro v144 w18 ho19 hb hg_ hnew_; clear hg_ hnew_; (first | rw [← Ny143.out] at ho19 | (simp only [Int.reduceToNat] at ho19; rw [← Ny143.out] at ho19)); have n0_ := Aside0.mk (Kd.N_elder' (by (with_reducible repeat (first | apply Kd.N_alloc | apply Kd.N_drewN | apply Kd.N_drew)); exact HO140.out) (Kd.R_base ho19) hb); have n1_ := Aside0.mk (Kd.R_below (kR HO142) hb); have n2_ := Aside0.mk (Kd.R_lower ho19 (below_size bA)); have n3_ := Aside0.mk (below_step bA hb); clear HO140; clear HO142; clear HB; have HO140 := n0_; have HO142 := n1_; have HO145 := n2_; have HB := n3_; clear n0_ n1_ n2_ n3_; clear hb ho19; obtain ⟨Ao20, co20, eo20⟩ := Kd.R_slice HO145.out; subst eo20) | ((with_reducible refine gate_dst (N := 10) rfl ?_); (try (refine gate_guard (by rfl) ?_; dsimp only)); refine Kd.N_lit k35 _ 35 ?hg (N' := 10) ?hd (xs := ([(⟨1, (⟨#[66]⟩ : ByteArray), y143, (⟨#[]⟩ : ByteArray)⟩ : S35)] : List (S35))) (inner := [.int .i64 1, .string (⟨#[66]⟩ : ByteArray), .slice Ao20 y143.length co20, .string (⟨#[]⟩ : ByteArray)]) (ok := (fun k_ => some k_ ≠ (v139 : Value).ownBlock ∧ some k_ ≠ (v141 : Value).ownBlock)) (okp := (fun k_ => some k_ ≠ (v139 : Value).ownBlock ∧ some k_ ≠ (v141 : Value).ownBlock)) ?hr ?hp (fun _ hk => hk) ((show ∀ k_, w18.heap.size ≤ k_ → (fun k_ => some k_ ≠ (v139 : Value).ownBlock ∧ some k_ ≠ (v141 : Value).ownBlock) k_ from fun k_ hk => ⟨Kd.fresh' (Kd.N_lt (by (with_reducible repeat (first | apply Kd.N_alloc | apply Kd.N_drewN | apply Kd.N_drew)); exact HO140.out)) k_ hk, Kd.fresh' (Kd.R_lt (kR HO142)) k_ hk⟩) _ (Nat.le_refl _)) (Below.refl _ _) (Nat.le_refl _) (by simp) ?_; (case hd => rfl); (case hg => rfl); (case hr => first | (go_simp; done) | (go_simp; rfl)); (case hp => exact (Reps.c4 (show Kd.FK k35 _ _ (⟨1, (⟨#[66]⟩ : ByteArray), y143, (⟨#[]⟩ : ByteArray)⟩ : S35) [.int .i64 1, .string (⟨#[66]⟩ : ByteArray), .slice Ao20 y143.length co20, .string (⟨#[]⟩ : ByteArray)] from (k35_mkF _ _ (⟨1, (⟨#[66]⟩ : ByteArray), y143, (⟨#[]⟩ : ByteArray)⟩ : S35) (Kd.R_reads' (Kd.R_mono (ok' := (fun k_ => some k_ ≠ (v139 : Value).ownBlock ∧ some k_ ≠ (v141 : Value).ownBlock)) (Kd.R_apart' (Kd.R_apart' (HO145.out) (Kd.N_typed HO140.out) (by decide)) (Kd.R_typed HO142.out) (by decide)) (fun k_ hk => ⟨hk.1.2, hk.2⟩))).2.1 (Kd.R_F (Kd.R_mono (ok' := (fun k_ => some k_ ≠ (v139 : Value).ownBlock ∧ some k_ ≠ (v141 : Value).ownBlock)) (Kd.R_apart' (Kd.R_apart' (HO145.out) (Kd.N_typed HO140.out) (by decide)) (Kd.R_typed HO142.out) (by decide)) (fun k_ hk => ⟨hk.1.2, hk.2⟩))))) (Reps.none _ _))); intro v147 w21 ho22 hb hg_ hnew_; clear hg_ hnew_; (first | rw [← Ny146.out] at ho22 | (simp only [Int.reduceToNat] at ho22; rw [← Ny146.out] at ho22)); have n0_ := Aside0.mk (Kd.N_elder' (by (with_reducible repeat (first | apply Kd.N_alloc | apply Kd.N_drewN | apply Kd.N_drew)); exact HO140.out) (Kd.N_base ho22) hb); have n1_ := Aside0.mk (Kd.R_below (kR HO142) hb); have n2_ := Aside0.mk (Kd.N_lower ho22 (below_size bA)); have n3_ := Aside0.mk (below_step bA hb); clear HO140; clear HO142; clear HB; clear HO145; have HO140 := n0_; have HO142 := n1_; have HO148 := n2_; have HB := n3_; clear n0_ n1_ n2_ n3_; clear hb ho22; obtain ⟨Ao23, co23, eo23⟩ := Kd.N_slice HO140.out; subst eo23; obtain ⟨Ao24, co24, eo24⟩ := Kd.N_slice HO148.out; subst eo24) | ((with_reducible refine gate_callee (f := 18) rfl ?_); refine goesL_ (some 11) rfl rfl Tryd.func18 (by kernel_rfl) rfl #[.slice Ao23 t137.length co23, .slice Ao24 y146.length co24] rfl aP ?_; (with_reducible refine (flongref05_Same.calls k _ _ t137 _ _ y146 true _ ?side1 ?side2 ?side3 ?side4 A2.out).mono ?_); (case side1 => repeat (first | exact (Kd.N_reads' HO140.out).2.2 | (with_reducible refine Kd.C_alloc ?_ _) | (with_reducible refine Kd.C_drewN ?_ _) | (with_reducible refine Kd.C_drew ?_))); (case side2 => exact (Kd.N_reads' HO140.out).2.1); (case side3 => repeat (first | exact (Kd.N_reads' HO148.out).2.2 | (with_reducible refine Kd.C_alloc ?_ _) | (with_reducible refine Kd.C_drewN ?_ _) | (with_reducible refine Kd.C_drew ?_))); (case side4 => exact (Kd.N_reads' HO148.out).2.1); rintro e w25 ⟨rfl, hb⟩; refine ⟨_, rfl, ?_⟩; have n0_ := Aside0.mk (Kd.N_below (by (with_reducible repeat (first | apply Kd.N_alloc | apply Kd.N_drewN | apply Kd.N_drew)); exact HO140.out) hb); have n1_ := Aside0.mk (Kd.R_below (kR HO142) hb); have n2_ := Aside0.mk (Kd.N_below (by (with_reducible repeat (first | apply Kd.N_alloc | apply Kd.N_drewN | apply Kd.N_drew)); exact HO148.out) hb); have n3_ := Aside0.mk (below_step bA hb); clear HO140; clear HO142; clear HO148; clear HB; have HO140 := n0_; have HO142 := n1_; have HO148 := n2_; have HB := n3_; clear n0_ n1_ n2_ n3_; (try clear hb); (try clear hb2); (try clear hk); (try clear hi); obtain ⟨Ao26, co26, eo26⟩ := Kd.R_slice HO142.out; subst eo26))
   go_ret
   exact ⟨eW, bA⟩
 ·replace c3 := Bool.eq_false_iff.mpr c3
  subst c3
  have H1 : (some false) = some r := by rw [if_neg (show ¬ (false = true) by decide)] at H; exact H
  clear H
  have H := H1
  clear H1
  obtain rfl := Option.some.inj H
  go_enter Tryd.func11, Tryd.ntmps11
  go_wp2_with (first | ((with_reducible refine gate_callee (f := 17) rfl ?_); refine goesL_ (some 4) rfl rfl Tryd.func17 (by kernel_rfl) rfl #[.string (⟨#[46, 66, 32, 34, 97, 32, 98, 34, 32, 99, 10]⟩ : ByteArray)] rfl aP ?_; (with_reducible refine (lines_Read.calls k (⟨#[46, 66, 32, 34, 97, 32, 98, 34, 32, 99, 10]⟩ : ByteArray) t137 t138 _ A1.out).mono ?_); rintro e w27 ⟨v139, v141, rfl, ho0, ho1, hb⟩; refine ⟨_, rfl, ?_⟩; have HO140 := Aside0.mk (Kd.N_lower (Kd.N_mono (ok' := fun k_ => some k_ ≠ (v141 : Value).ownBlock) (Kd.S_N (Kd.S_bound (Kd.S_apart' ho0 (Kd.R_typed ho1) (by decide)))) (fun k_ hk_ => hk_.1.2)) (below_size bA)); have HO142 := Aside0.mk (Kd.R_lower ho1 (below_size bA)); replace HB := Aside0.mk (below_step bA hb); (try clear hb); (try clear hb2); (try clear hk); (try clear hi); (try clear ho0); (try clear ho1)) | ((with_reducible refine gate_dst (N := 8) rfl ?_); (try (refine gate_guard (by rfl) ?_; dsimp only)); refine Kd.R_lit Kd.string _ 9 ?hg (N := 8) ?hd (xs := ([(⟨#[97, 32, 98]⟩ : ByteArray), (⟨#[99]⟩ : ByteArray)] : List ByteArray)) (inner := [.string (⟨#[97, 32, 98]⟩ : ByteArray), .string (⟨#[99]⟩ : ByteArray)]) (ok := fun _ => True) (okp := fun _ => True) ?hr ?hp (fun _ hk => hk) trivial (Below.refl _ _) (Nat.le_refl _) (by simp) ?_; (case hd => rfl); (case hg => rfl); (case hr => first | (go_simp; done) | (go_simp; rfl)); (case hp => exact (Reps.one (show Kd.M Kd.string _ _ _ (⟨#[97, 32, 98]⟩ : ByteArray) [.string (⟨#[97, 32, 98]⟩ : ByteArray)] from rfl) (Reps.one (show Kd.M Kd.string _ _ _ (⟨#[99]⟩ : ByteArray) [.string (⟨#[99]⟩ : ByteArray)] from rfl) (Reps.none _ _)))); intro v144 w28 ho29 hb hg_ hnew_; clear hg_ hnew_; (first | rw [← Ny143.out] at ho29 | (simp only [Int.reduceToNat] at ho29; rw [← Ny143.out] at ho29)); have n0_ := Aside0.mk (Kd.N_elder' (by (with_reducible repeat (first | apply Kd.N_alloc | apply Kd.N_drewN | apply Kd.N_drew)); exact HO140.out) (Kd.R_base ho29) hb); have n1_ := Aside0.mk (Kd.R_below (kR HO142) hb); have n2_ := Aside0.mk (Kd.R_lower ho29 (below_size bA)); have n3_ := Aside0.mk (below_step bA hb); clear HO140; clear HO142; clear HB; have HO140 := n0_; have HO142 := n1_; have HO145 := n2_; have HB := n3_; clear n0_ n1_ n2_ n3_; clear hb ho29; obtain ⟨Ao30, co30, eo30⟩ := Kd.R_slice HO145.out; subst eo30) | ((with_reducible refine gate_dst (N := 10) rfl ?_); (try (refine gate_guard (by rfl) ?_; dsimp only)); refine Kd.N_lit k35 _ 35 ?hg (N' := 10) ?hd (xs := ([(⟨1, (⟨#[66]⟩ : ByteArray), y143, (⟨#[]⟩ : ByteArray)⟩ : S35)] : List (S35))) (inner := [.int .i64 1, .string (⟨#[66]⟩ : ByteArray), .slice Ao30 y143.length co30, .string (⟨#[]⟩ : ByteArray)]) (ok := (fun k_ => some k_ ≠ (v139 : Value).ownBlock ∧ some k_ ≠ (v141 : Value).ownBlock)) (okp := (fun k_ => some k_ ≠ (v139 : Value).ownBlock ∧ some k_ ≠ (v141 : Value).ownBlock)) ?hr ?hp (fun _ hk => hk) ((show ∀ k_, w28.heap.size ≤ k_ → (fun k_ => some k_ ≠ (v139 : Value).ownBlock ∧ some k_ ≠ (v141 : Value).ownBlock) k_ from fun k_ hk => ⟨Kd.fresh' (Kd.N_lt (by (with_reducible repeat (first | apply Kd.N_alloc | apply Kd.N_drewN | apply Kd.N_drew)); exact HO140.out)) k_ hk, Kd.fresh' (Kd.R_lt (kR HO142)) k_ hk⟩) _ (Nat.le_refl _)) (Below.refl _ _) (Nat.le_refl _) (by simp) ?_; (case hd => rfl); (case hg => rfl); (case hr => first | (go_simp; done) | (go_simp; rfl)); (case hp => exact (Reps.c4 (show Kd.FK k35 _ _ (⟨1, (⟨#[66]⟩ : ByteArray), y143, (⟨#[]⟩ : ByteArray)⟩ : S35) [.int .i64 1, .string (⟨#[66]⟩ : ByteArray), .slice Ao30 y143.length co30, .string (⟨#[]⟩ : ByteArray)] from (k35_mkF _ _ (⟨1, (⟨#[66]⟩ : ByteArray), y143, (⟨#[]⟩ : ByteArray)⟩ : S35) (Kd.R_reads' (Kd.R_mono (ok' := (fun k_ => some k_ ≠ (v139 : Value).ownBlock ∧ some k_ ≠ (v141 : Value).ownBlock)) (Kd.R_apart' (Kd.R_apart' (HO145.out) (Kd.N_typed HO140.out) (by decide)) (Kd.R_typed HO142.out) (by decide)) (fun k_ hk => ⟨hk.1.2, hk.2⟩))).2.1 (Kd.R_F (Kd.R_mono (ok' := (fun k_ => some k_ ≠ (v139 : Value).ownBlock ∧ some k_ ≠ (v141 : Value).ownBlock)) (Kd.R_apart' (Kd.R_apart' (HO145.out) (Kd.N_typed HO140.out) (by decide)) (Kd.R_typed HO142.out) (by decide)) (fun k_ hk => ⟨hk.1.2, hk.2⟩))))) (Reps.none _ _))); intro v147 w31 ho32 hb hg_ hnew_; clear hg_ hnew_; (first | rw [← Ny146.out] at ho32 | (simp only [Int.reduceToNat] at ho32; rw [← Ny146.out] at ho32)); have n0_ := Aside0.mk (Kd.N_elder' (by (with_reducible repeat (first | apply Kd.N_alloc | apply Kd.N_drewN | apply Kd.N_drew)); exact HO140.out) (Kd.N_base ho32) hb); have n1_ := Aside0.mk (Kd.R_below (kR HO142) hb); have n2_ := Aside0.mk (Kd.N_lower ho32 (below_size bA)); have n3_ := Aside0.mk (below_step bA hb); clear HO140; clear HO142; clear HB; clear HO145; have HO140 := n0_; have HO142 := n1_; have HO148 := n2_; have HB := n3_; clear n0_ n1_ n2_ n3_; clear hb ho32; obtain ⟨Ao33, co33, eo33⟩ := Kd.N_slice HO140.out; subst eo33; obtain ⟨Ao34, co34, eo34⟩ := Kd.N_slice HO148.out; subst eo34) | ((with_reducible refine gate_callee (f := 18) rfl ?_); refine goesL_ (some 11) rfl rfl Tryd.func18 (by kernel_rfl) rfl #[.slice Ao33 t137.length co33, .slice Ao34 y146.length co34] rfl aP ?_; (with_reducible refine (flongref05_Same.calls k _ _ t137 _ _ y146 false _ ?side1 ?side2 ?side3 ?side4 A2.out).mono ?_); (case side1 => repeat (first | exact (Kd.N_reads' HO140.out).2.2 | (with_reducible refine Kd.C_alloc ?_ _) | (with_reducible refine Kd.C_drewN ?_ _) | (with_reducible refine Kd.C_drew ?_))); (case side2 => exact (Kd.N_reads' HO140.out).2.1); (case side3 => repeat (first | exact (Kd.N_reads' HO148.out).2.2 | (with_reducible refine Kd.C_alloc ?_ _) | (with_reducible refine Kd.C_drewN ?_ _) | (with_reducible refine Kd.C_drew ?_))); (case side4 => exact (Kd.N_reads' HO148.out).2.1); rintro e w35 ⟨rfl, hb⟩; refine ⟨_, rfl, ?_⟩; have n0_ := Aside0.mk (Kd.N_below (by (with_reducible repeat (first | apply Kd.N_alloc | apply Kd.N_drewN | apply Kd.N_drew)); exact HO140.out) hb); have n1_ := Aside0.mk (Kd.R_below (kR HO142) hb); have n2_ := Aside0.mk (Kd.N_below (by (with_reducible repeat (first | apply Kd.N_alloc | apply Kd.N_drewN | apply Kd.N_drew)); exact HO148.out) hb); have n3_ := Aside0.mk (below_step bA hb); clear HO140; clear HO142; clear HO148; clear HB; have HO140 := n0_; have HO142 := n1_; have HO148 := n2_; have HB := n3_; clear n0_ n1_ n2_ n3_; (try clear hb); (try clear hb2); (try clear hk); (try clear hi)))
  go_ret
  exact ⟨eW, bA⟩

/-! ### strings_HasSuffix: function 36 -/
def strings_HasSuffix.f (a0 : ByteArray) (a1 : ByteArray) : Option (Bool) := (stringslite_HasSuffix.f a0 a1).bind fun t151 => (some t151)
theorem strings_HasSuffix.calls (a0 : ByteArray) (a1 : ByteArray) (r : Bool) (w : World) (h : strings_HasSuffix.f a0 a1 = some r) :
  Calls Tryd.prog 36 #[.string a0, .string a1] w fun e w' => e = .returned (.bool r) ∧ Drawn0 w w' := by
 have H : ((stringslite_HasSuffix.f a0 a1).bind fun t151 => (some t151)) = some r := h
 clear h
 replace H := Option.bind_eq_some_iff.mp H
 obtain ⟨t151, A30, H⟩ := H
 replace H : (some t151) = some r := H
 have A3 := Aside0.mk A30
 clear A30
 obtain rfl := Option.some.inj H
 go_enter Tryd.func36, Tryd.ntmps36
 go_wp2_with (first | ((with_reducible refine gate_callee (f := 55) rfl ?_); refine goesL_ (some 7) rfl rfl Tryd.func55 (by kernel_rfl) rfl #[.string a0, .string a1] rfl aP ?_; (with_reducible refine (stringslite_HasSuffix.calls a0 a1 t151 _ A3.out).mono ?_); rintro e w' ⟨rfl, ⟨nd, rfl⟩⟩; refine ⟨_, rfl, ?_⟩))
 go_ret
 exact ⟨sA, by repeat (first | exact Drawn0.refl _ | apply Drawn0.step)⟩

/-! ### stringslite_HasPrefix: function 56 -/
def stringslite_HasPrefix.f (a0 : ByteArray) (a1 : ByteArray) : Option (Bool) := if (a0.size : Int) ≥ (a1.size : Int) then (if 0 ≤ (a1.size : Int) then (if (a1.size : Int) ≤ (a0.size : Int) then (some ((a0.extract 0 ((a1.size : Int) : Int).toNat).toList == a1.toList)) else (none)) else (none)) else (some false)
theorem stringslite_HasPrefix.calls (a0 : ByteArray) (a1 : ByteArray) (r : Bool) (w : World) (h : stringslite_HasPrefix.f a0 a1 = some r) :
  Calls Tryd.prog 56 #[.string a0, .string a1] w fun e w' => e = .returned (.bool r) ∧ Drawn0 w w' := by
 have H : (if (a0.size : Int) ≥ (a1.size : Int) then (if 0 ≤ (a1.size : Int) then (if (a1.size : Int) ≤ (a0.size : Int) then (some ((a0.extract 0 ((a1.size : Int) : Int).toNat).toList == a1.toList)) else (none)) else (none)) else (some false)) = some r := h
 clear h
 by_cases c3 : (a0.size : Int) ≥ (a1.size : Int)
 ·rw [if_pos c3] at H
  have c3b0 : decide ((a1.size : Int) ≤ (a0.size : Int)) = true := decide_eq_true c3
  have c3b1 : decide (a1.size ≤ a0.size) = true := decide_eq_true (Int.ofNat_le.mp c3)
  clear c3
  by_cases c4 : 0 ≤ (a1.size : Int)
  ·rw [if_pos c4] at H
   have c4b0 := eq_true c4
   have c4b1 : decide (0 ≤ (a1.size : Int)) = true := decide_eq_true c4
   clear c4
   by_cases c5 : (a1.size : Int) ≤ (a0.size : Int)
   ·rw [if_pos c5] at H
    have c5b0 := eq_true c5
    have c5b1 : decide ((a1.size : Int) ≤ (a0.size : Int)) = true := decide_eq_true c5
    clear c5
    obtain rfl := Option.some.inj H
    go_enter Tryd.func56, Tryd.ntmps56
    go_wp2
    go_ret
    exact ⟨sA, by repeat (first | exact Drawn0.refl _ | apply Drawn0.step)⟩
   ·rw [if_neg c5] at H
    exact absurd H (by simp)
  ·rw [if_neg c4] at H
   exact absurd H (by simp)
 ·rw [if_neg c3] at H
  have c3b0 : decide ((a1.size : Int) ≤ (a0.size : Int)) = false := decide_eq_false c3
  have c3b1 : decide (a1.size ≤ a0.size) = false := decide_eq_false (fun h => c3 (Int.ofNat_le.mpr h))
  clear c3
  obtain rfl := Option.some.inj H
  go_enter Tryd.func56, Tryd.ntmps56
  go_wp2
  go_ret
  exact ⟨sA, by repeat (first | exact Drawn0.refl _ | apply Drawn0.step)⟩

/-! ### strings_HasPrefix: function 37 -/
def strings_HasPrefix.f (a0 : ByteArray) (a1 : ByteArray) : Option (Bool) := (stringslite_HasPrefix.f a0 a1).bind fun t152 => (some t152)
theorem strings_HasPrefix.calls (a0 : ByteArray) (a1 : ByteArray) (r : Bool) (w : World) (h : strings_HasPrefix.f a0 a1 = some r) :
  Calls Tryd.prog 37 #[.string a0, .string a1] w fun e w' => e = .returned (.bool r) ∧ Drawn0 w w' := by
 have H : ((stringslite_HasPrefix.f a0 a1).bind fun t152 => (some t152)) = some r := h
 clear h
 replace H := Option.bind_eq_some_iff.mp H
 obtain ⟨t152, A30, H⟩ := H
 replace H : (some t152) = some r := H
 have A3 := Aside0.mk A30
 clear A30
 obtain rfl := Option.some.inj H
 go_enter Tryd.func37, Tryd.ntmps37
 go_wp2_with (first | ((with_reducible refine gate_callee (f := 56) rfl ?_); refine goesL_ (some 7) rfl rfl Tryd.func56 (by kernel_rfl) rfl #[.string a0, .string a1] rfl aP ?_; (with_reducible refine (stringslite_HasPrefix.calls a0 a1 t152 _ A3.out).mono ?_); rintro e w' ⟨rfl, ⟨nd, rfl⟩⟩; refine ⟨_, rfl, ?_⟩))
 go_ret
 exact ⟨sA, by repeat (first | exact Drawn0.refl _ | apply Drawn0.step)⟩

-- NOT PRINTED: function 57 (slices_IndexFunc_string_string)

-- NOT PRINTED: function 38 (slices_ContainsFunc_string_string)

end Go.Proofs.YtmfkokjbjmahkaaDoor.X
