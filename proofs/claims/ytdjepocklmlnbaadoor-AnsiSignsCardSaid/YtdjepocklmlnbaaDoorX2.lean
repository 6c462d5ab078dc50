-- Written by this session's xprint.py (a variant of the kit's printer). Not trusted: Lean checks it.
import Derived.Test.YtdjepocklmlnbaaDoorX0
import Derived.Test.YtdjepocklmlnbaaDoorSlim
import Derived.Test.YtdjepocklmlnbaaDoorHandA
import Derived.Test.YtdjepocklmlnbaaDoorHandW
namespace Go.Proofs.YtdjepocklmlnbaaDoor.X
open Go.Proofs.YtdjepocklmlnbaaDoor.Hand
open Go.RowKit Go.Proofs.YtdjepocklmlnbaaDoorW.PrintWords Go.Proofs.YtdjepocklmlnbaaDoorW.PrintLast Go.Proofs.YtdjepocklmlnbaaDoorW.PrintMore
attribute [local go_sem] max2_int min2_int max_two min_two max_three min_three max_four min_four   -- for this text's walks alone
set_option linter.unusedVariables false
set_option maxHeartbeats 8000000
set_option maxRecDepth 100000
set_option linter.unusedSimpArgs false

/-! ### flonglaw19_known: function 10 -/
def flonglaw19_known.f (k : Nat)  : Option (Bool) := (ansi_Row.f k (([(⟨97, 1⟩ : S44), (⟨98, 0⟩ : S44)] : List (S44)))).bind fun t168 => (if (strOfNums t168).toList = ([27, 91, 49, 109, 97, 27, 91, 48, 109, 98] : List UInt8) then ((ansi_Sign.f 0).bind fun t171 => (some (t171.toList == ([27, 91, 48, 109] : List UInt8)))) else (some false))
theorem flonglaw19_known.mono : ∀ k, LeO (flonglaw19_known.f k ) (flonglaw19_known.f (k + 1) ) := by
 intro  k
 unfold flonglaw19_known.f
 repeat' first
   | (with_reducible exact ansi_Row.mono _ _)
   | (with_reducible exact LeO.refl _)
   | (with_reducible exact LeO.none _)
   | (with_reducible refine LeO.ite ?_ ?_)
   | (with_reducible refine LeO.bind ?_ (fun _ => ?_))
theorem flonglaw19_known.calls (k : Nat)  (r : Bool) (w : World) (hG : GOK [0,1,2] w) (h : flonglaw19_known.f k  = some r) :
  Calls Tryd.prog 10 #[] w fun e w' => e = .returned (.bool r) ∧ Below w.heap.size w w' := by
 have hu44 := Tryd.underlying44
 have HG := Aside0.mk hG
 clear hG
 have HB := Aside0.mk (Below.refl w.heap.size w)
 have H : ((ansi_Row.f k (([(⟨97, 1⟩ : S44), (⟨98, 0⟩ : S44)] : List (S44)))).bind fun t168 => (if (strOfNums t168).toList = ([27, 91, 49, 109, 97, 27, 91, 48, 109, 98] : List UInt8) then ((ansi_Sign.f 0).bind fun t171 => (some (t171.toList == ([27, 91, 48, 109] : List UInt8)))) else (some false))) = some r := h
 clear h
 obtain ⟨y165, hy165⟩ : ∃ y_ : List (S44), y_ = (([(⟨97, 1⟩ : S44), (⟨98, 0⟩ : S44)] : List (S44))) := ⟨_, rfl⟩
 replace H : ((ansi_Row.f k y165).bind fun t168 => (if (strOfNums t168).toList = ([27, 91, 49, 109, 97, 27, 91, 48, 109, 98] : List UInt8) then ((ansi_Sign.f 0).bind fun t171 => (some (t171.toList == ([27, 91, 48, 109] : List UInt8)))) else (some false))) = some r := hyA hy165 H
 have Ny165 := Aside0.mk hy165
 clear hy165
 replace H := Option.bind_eq_some_iff.mp H
 obtain ⟨t168, A10, H⟩ := H
 replace H : (if (strOfNums t168).toList = ([27, 91, 49, 109, 97, 27, 91, 48, 109, 98] : List UInt8) then ((ansi_Sign.f 0).bind fun t171 => (some (t171.toList == ([27, 91, 48, 109] : List UInt8)))) else (some false)) = some r := H
 have A1 := Aside0.mk A10
 clear A10
 by_cases c2 : (strOfNums t168).toList = ([27, 91, 49, 109, 97, 27, 91, 48, 109, 98] : List UInt8)
 ·rw [if_pos c2] at H
  have c2b0 : ((strOfNums t168).toList == ([27, 91, 49, 109, 97, 27, 91, 48, 109, 98] : List UInt8)) = true := beq_iff_eq.mpr c2
  have c2b1 : ((strOfNums t168).toList != ([27, 91, 49, 109, 97, 27, 91, 48, 109, 98] : List UInt8)) = false := bne_eq_false_iff_eq.mpr c2
  clear c2
  replace H := Option.bind_eq_some_iff.mp H
  obtain ⟨t171, A30, H⟩ := H
  replace H : (some (t171.toList == ([27, 91, 48, 109] : List UInt8))) = some r := H
  have A3 := Aside0.mk A30
  clear A30
  obtain rfl := Option.some.inj H
  go_enter Tryd.func10, Tryd.ntmps10
  go_wp2_with (first | ((with_reducible refine gate_dst (N := 3) rfl ?_); refine Kd.R_lit k44 _ 44 ?hg (N := 3) ?hd (xs := ([(⟨97, 1⟩ : S44), (⟨98, 0⟩ : S44)] : List (S44))) (inner := [.int .i32 97, .int .u8 1, .int .i32 98, .int .u8 0]) (ok := fun _ => True) (okp := fun _ => True) ?hr ?hp (fun _ hk => hk) trivial (Below.refl _ _) (Nat.le_refl _) (by simp) ?_; (case hd => rfl); (case hg => rfl); (case hr => first | (go_simp; done) | (go_simp; rfl)); (case hp => exact (Reps.c2 (show Kd.M k44 _ _ _ (⟨97, 1⟩ : S44) [.int .i32 97, .int .u8 1] from (k44_mkM _ _ _ (⟨97, 1⟩ : S44) )) (Reps.c2 (show Kd.M k44 _ _ _ (⟨98, 0⟩ : S44) [.int .i32 98, .int .u8 0] from (k44_mkM _ _ _ (⟨98, 0⟩ : S44) )) (Reps.none _ _)))); intro v166 w4 ho5 hb hg_ hnew_; clear hg_ hnew_; (first | rw [← Ny165.out] at ho5 | (simp only [Int.reduceToNat] at ho5; rw [← Ny165.out] at ho5)); have HO167 := Aside0.mk (Kd.R_lower ho5 (below_size bA)); replace HB := Aside0.mk (below_step bA hb); clear hb ho5; obtain ⟨Ao6, co6, eo6⟩ := Kd.R_slice HO167.out; subst eo6) | ((with_reducible refine gate_callee (f := 16) rfl ?_); refine goesL_ (some 4) rfl rfl Tryd.func16 (by kernel_rfl) rfl #[.slice Ao6 y165.length co6] rfl aP ?_; (with_reducible refine (ansi_Row.calls k _ _ y165 t168 _ ?side1 ?side2 ?side3 A1.out).mono ?_); (case side1 => repeat (first | exact (Kd.R_reads' HO167.out).2.2 | (with_reducible refine Kd.C_alloc ?_ _) | (with_reducible refine Kd.C_drewN ?_ _) | (with_reducible refine Kd.C_drew ?_))); (case side2 => exact (Kd.R_reads' HO167.out).2.1); (case side3 => exact GOK.of_below (GOK.sub HG.out rfl) bA); rintro e w7 ⟨v169, rfl, ho0, hb⟩; refine ⟨_, rfl, ?_⟩; replace HO167 := Aside0.mk (Kd.R_below (kR HO167) hb); have HO170 := Aside0.mk (Kd.R_lower ho0 (below_size bA)); replace HB := Aside0.mk (below_step bA hb); (try clear hb); (try clear hb2); (try clear hk); (try clear hi); (try clear ho0); have hcv8 := own_string (P := Tryd.prog) Tryd.underlying22 Tryd.underlying5 Tryd.underlying9 (Kd.own_of_R HO170.out)) | (go_at_call 11; (with_reducible refine (ansi_Sign.calls 0 t171 _ ?side1 A3.out).mono ?_); (case side1 => exact GOK.of_below (GOK.sub HG.out rfl) bA); rintro e w' ⟨rfl, ⟨nd, rfl⟩⟩))
  go_ret
  exact ⟨eW, bA⟩
 ·rw [if_neg c2] at H
  have c2b0 : ((strOfNums t168).toList == ([27, 91, 49, 109, 97, 27, 91, 48, 109, 98] : List UInt8)) = false := beq_eq_false_iff_ne.mpr c2
  have c2b1 : ((strOfNums t168).toList != ([27, 91, 49, 109, 97, 27, 91, 48, 109, 98] : List UInt8)) = true := bne_iff_ne.mpr c2
  obtain rfl := Option.some.inj H
  go_enter Tryd.func10, Tryd.ntmps10
  go_wp2_with (first | ((with_reducible refine gate_dst (N := 3) rfl ?_); refine Kd.R_lit k44 _ 44 ?hg (N := 3) ?hd (xs := ([(⟨97, 1⟩ : S44), (⟨98, 0⟩ : S44)] : List (S44))) (inner := [.int .i32 97, .int .u8 1, .int .i32 98, .int .u8 0]) (ok := fun _ => True) (okp := fun _ => True) ?hr ?hp (fun _ hk => hk) trivial (Below.refl _ _) (Nat.le_refl _) (by simp) ?_; (case hd => rfl); (case hg => rfl); (case hr => first | (go_simp; done) | (go_simp; rfl)); (case hp => exact (Reps.c2 (show Kd.M k44 _ _ _ (⟨97, 1⟩ : S44) [.int .i32 97, .int .u8 1] from (k44_mkM _ _ _ (⟨97, 1⟩ : S44) )) (Reps.c2 (show Kd.M k44 _ _ _ (⟨98, 0⟩ : S44) [.int .i32 98, .int .u8 0] from (k44_mkM _ _ _ (⟨98, 0⟩ : S44) )) (Reps.none _ _)))); intro v166 w9 ho10 hb hg_ hnew_; clear hg_ hnew_; (first | rw [← Ny165.out] at ho10 | (simp only [Int.reduceToNat] at ho10; rw [← Ny165.out] at ho10)); have HO167 := Aside0.mk (Kd.R_lower ho10 (below_size bA)); replace HB := Aside0.mk (below_step bA hb); clear hb ho10; obtain ⟨Ao11, co11, eo11⟩ := Kd.R_slice HO167.out; subst eo11) | ((with_reducible refine gate_callee (f := 16) rfl ?_); refine goesL_ (some 4) rfl rfl Tryd.func16 (by kernel_rfl) rfl #[.slice Ao11 y165.length co11] rfl aP ?_; (with_reducible refine (ansi_Row.calls k _ _ y165 t168 _ ?side1 ?side2 ?side3 A1.out).mono ?_); (case side1 => repeat (first | exact (Kd.R_reads' HO167.out).2.2 | (with_reducible refine Kd.C_alloc ?_ _) | (with_reducible refine Kd.C_drewN ?_ _) | (with_reducible refine Kd.C_drew ?_))); (case side2 => exact (Kd.R_reads' HO167.out).2.1); (case side3 => exact GOK.of_below (GOK.sub HG.out rfl) bA); rintro e w12 ⟨v169, rfl, ho0, hb⟩; refine ⟨_, rfl, ?_⟩; replace HO167 := Aside0.mk (Kd.R_below (kR HO167) hb); have HO170 := Aside0.mk (Kd.R_lower ho0 (below_size bA)); replace HB := Aside0.mk (below_step bA hb); (try clear hb); (try clear hb2); (try clear hk); (try clear hi); (try clear ho0); have hcv13 := own_string (P := Tryd.prog) Tryd.underlying22 Tryd.underlying5 Tryd.underlying9 (Kd.own_of_R HO170.out)))
  go_ret
  exact ⟨eW, bA⟩

end Go.Proofs.YtdjepocklmlnbaaDoor.X
