/- HandO: several of this session's texts in one. -/
import Derived.Shelf.Strings.Builder1
import Derived.Shelf.Strings.Repeat
import Derived.Test.YtmeinakeiefcdaaDoorProg
import Derived.Test.YtmeinakeiefcdaaDoorVMore
import Derived.Lib.Repeat
import Derived.Test.YtmeinakeiefcdaaDoorHandA
import Derived.Test.YtmeinakeiefcdaaDoorX0
import Derived.Shelf.Abstract
import Derived.WalkKit
import Derived.Test.YtmeinakeiefcdaaDoorX1
/- Contracts of the library (strings.Builder, strings.Repeat) at this dump, in plain words: written by the kit's lay-shelf and lay-plain for this seat. -/
namespace Go.Proofs
open Go.Shelf Go.RowKit
def Tryd.lays169_ren : Go.Shelf.Ren := ⟨fun | 169 => 39 | n => n, fun | 70 => 61 | 9 => 9 | 0 => 0 | 72 => 63 | 37 => 25 | 127 => 93 | 3 => 3 | 5 => 5 | n => n, fun | n => n⟩
theorem Tryd.lays169 : Go.Proofs.Lays.n169 Tryd.prog Tryd.lays169_ren := {
  mixed := by kernel_rfl
  f169 := Tryd.func39.trans (congrArg some (by kernel_rfl))
  t0 := Tryd.underlying0
  a0 := Tryd.isAgg0
  z0 := Tryd.sizeOf0
  v0 := Tryd.zeroValue0
  t3 := Tryd.underlying3
  a3 := Tryd.isAgg3
  z3 := Tryd.sizeOf3
  v3 := Tryd.zeroValue3
  t9 := Tryd.underlying9
  a9 := Tryd.isAgg9
  z9 := Tryd.sizeOf9
  v9 := Tryd.zeroValue9
  t37 := Tryd.underlying25
  a37 := Tryd.isAgg25
  z37 := Tryd.sizeOf25
  v37 := Tryd.zeroValue25
  t70 := Tryd.underlying61
  a70 := Tryd.isAgg61
  z70 := Tryd.sizeOf61
  v70 := Tryd.zeroValue61
  t72 := Tryd.underlying63
  a72 := Tryd.isAgg63
  z72 := Tryd.sizeOf63
  v72 := Tryd.zeroValue63
  t127 := Tryd.underlying93
  a127 := Tryd.isAgg93
  z127 := Tryd.sizeOf93
  v127 := Tryd.zeroValue93 }
theorem Tryd.Builder_Extra_169 : Builder.Extra Tryd.prog Tryd.lays169_ren := {
  sizeBuilder := by kernel_rfl
  liesBuilder := by kernel_rfl
  t5 := Tryd.underlying5
  a5 := Tryd.isAgg5
  z5 := Tryd.sizeOf5
  v5 := Tryd.zeroValue5
  infoByte := by kernel_rfl
  cellsByte := by kernel_rfl
  sizeByte := by kernel_rfl
  neB5 := by decide }
open Go.RowKit in
/-- (*strings.Builder).String: "String returns the accumulated string.": WHATEVER THE BUILDER HOLDS. (LAID: no walk: one application.) -/
theorem Tryd.Builder_String_any (B b : Nat) (l : List UInt8) (w : World) (h : Lib.IsBuilder 63 5 B b (Lib.byteCells l) w) (hBw : B ≤ w.heap.size) :
    Calls Tryd.prog 39 #[.pointer (some ⟨b, 0, none⟩)] w fun e w' => e = .returned (.string ⟨l.toArray⟩) ∧ Below B w w' := Any.Builder_String_any Tryd.lays169 Tryd.Builder_Extra_169 B b l w h hBw
def Tryd.lays105_ren : Go.Shelf.Ren := ⟨fun | 105 => 38 | 212 => 63 | 99 => 48 | 165 => 64 | 166 => 37 | 170 => 65 | 169 => 39 | 263 => 78 | 264 => 79 | 206 => 71 | 240 => 62 | 241 => 80 | 276 => 77 | 277 => 88 | n => n, fun | 9 => 9 | 3 => 3 | 4 => 4 | 20 => 20 | 0 => 0 | 46 => 88 | 109 => 89 | 5 => 5 | 72 => 63 | 76 => 66 | 51 => 105 | 146 => 106 | 53 => 108 | 148 => 109 | 70 => 61 | 37 => 25 | 75 => 65 | 127 => 93 | 164 => 103 | 80 => 69 | n => n, fun | n => n⟩
theorem Tryd.lays105 : Go.Proofs.Lays.n105 Tryd.prog Tryd.lays105_ren := {
  mixed := by kernel_rfl
  f99 := Tryd.func48.trans (congrArg some (by kernel_rfl))
  f105 := Tryd.func38.trans (congrArg some (by kernel_rfl))
  f165 := Tryd.func64.trans (congrArg some (by kernel_rfl))
  f166 := Tryd.func37.trans (congrArg some (by kernel_rfl))
  f169 := Tryd.func39.trans (congrArg some (by kernel_rfl))
  f170 := Tryd.func65.trans (congrArg some (by kernel_rfl))
  f206 := Tryd.func71.trans (congrArg some (by kernel_rfl))
  f212 := Tryd.func63.trans (congrArg some (by kernel_rfl))
  f240 := Tryd.func62.trans (congrArg some (by kernel_rfl))
  f241 := Tryd.func80.trans (congrArg some (by kernel_rfl))
  f263 := Tryd.func78.trans (congrArg some (by kernel_rfl))
  f264 := Tryd.func79.trans (congrArg some (by kernel_rfl))
  f276 := Tryd.func77.trans (congrArg some (by kernel_rfl))
  f277 := Tryd.func88.trans (congrArg some (by kernel_rfl))
  t0 := Tryd.underlying0
  a0 := Tryd.isAgg0
  z0 := Tryd.sizeOf0
  v0 := Tryd.zeroValue0
  t3 := Tryd.underlying3
  a3 := Tryd.isAgg3
  z3 := Tryd.sizeOf3
  v3 := Tryd.zeroValue3
  t4 := Tryd.underlying4
  a4 := Tryd.isAgg4
  z4 := Tryd.sizeOf4
  v4 := Tryd.zeroValue4
  t5 := Tryd.underlying5
  a5 := Tryd.isAgg5
  z5 := Tryd.sizeOf5
  v5 := Tryd.zeroValue5
  t9 := Tryd.underlying9
  a9 := Tryd.isAgg9
  z9 := Tryd.sizeOf9
  v9 := Tryd.zeroValue9
  t20 := Tryd.underlying20
  a20 := Tryd.isAgg20
  z20 := Tryd.sizeOf20
  v20 := Tryd.zeroValue20
  t37 := Tryd.underlying25
  a37 := Tryd.isAgg25
  z37 := Tryd.sizeOf25
  v37 := Tryd.zeroValue25
  t46 := Tryd.underlying88
  a46 := Tryd.isAgg88
  z46 := Tryd.sizeOf88
  v46 := Tryd.zeroValue88
  t51 := Tryd.underlying105
  a51 := Tryd.isAgg105
  z51 := Tryd.sizeOf105
  v51 := Tryd.zeroValue105
  t53 := Tryd.underlying108
  a53 := Tryd.isAgg108
  z53 := Tryd.sizeOf108
  v53 := Tryd.zeroValue108
  t70 := Tryd.underlying61
  a70 := Tryd.isAgg61
  z70 := Tryd.sizeOf61
  v70 := Tryd.zeroValue61
  t72 := Tryd.underlying63
  a72 := Tryd.isAgg63
  z72 := Tryd.sizeOf63
  v72 := Tryd.zeroValue63
  t75 := Tryd.underlying65
  a75 := Tryd.isAgg65
  z75 := Tryd.sizeOf65
  v75 := Tryd.zeroValue65
  t76 := Tryd.underlying66
  a76 := Tryd.isAgg66
  z76 := Tryd.sizeOf66
  v76 := Tryd.zeroValue66
  t109 := Tryd.underlying89
  a109 := Tryd.isAgg89
  z109 := Tryd.sizeOf89
  v109 := Tryd.zeroValue89
  t127 := Tryd.underlying93
  a127 := Tryd.isAgg93
  z127 := Tryd.sizeOf93
  v127 := Tryd.zeroValue93
  t146 := Tryd.underlying106
  a146 := Tryd.isAgg106
  z146 := Tryd.sizeOf106
  v146 := Tryd.zeroValue106
  t148 := Tryd.underlying109
  a148 := Tryd.isAgg109
  z148 := Tryd.sizeOf109
  v148 := Tryd.zeroValue109
  t164 := Tryd.underlying103
  a164 := Tryd.isAgg103
  z164 := Tryd.sizeOf103
  v164 := Tryd.zeroValue103 }
theorem Tryd.Builder_Extra_105 : Builder.Extra Tryd.prog Tryd.lays105_ren := {
  sizeBuilder := by kernel_rfl
  liesBuilder := by kernel_rfl
  t5 := Tryd.underlying5
  a5 := Tryd.isAgg5
  z5 := Tryd.sizeOf5
  v5 := Tryd.zeroValue5
  infoByte := by kernel_rfl
  cellsByte := by kernel_rfl
  sizeByte := by kernel_rfl
  neB5 := by decide }
open Go.RowKit Go.Lib in
/-- **strings.Repeat: count ≥ 0, the result within one allocation: count copies of s.** (LAID: no walk: one application.) -/
theorem Tryd.strings_Repeat (s : ByteArray) (c : Nat) (w : World) (hc : c ≤ 9223372036854775807) (hlen : s.size * c ≤ 140737488355328) :
    Calls Tryd.prog 38 #[.string s, .int .i64 c] w fun e w' => e = .returned (.string ⟨(Lib.repeatL s.data.toList c).toArray⟩) ∧ Below w.heap.size w w' := Any.strings_Repeat Tryd.lays105 Tryd.Builder_Extra_105 s c w hc hlen
theorem Tryd.lays166 : Go.Proofs.Lays.n166 Tryd.prog Tryd.lays105_ren := { Tryd.lays105 with }
theorem Tryd.Builder_WriteString (B b : Nat) (bs : List Value) (s : ByteArray) (w : World) (h : Lib.IsBuilder 63 5 B b bs w) (hlen : bs.length + s.size ≤ 140737488355328) (hBw : B ≤ w.heap.size) :
    Calls Tryd.prog 37 #[.pointer (some ⟨b, 0, none⟩), .string s] w fun e w' => e = .returned (.tuple #[.int .i64 s.size, .nilIface]) ∧ (Lib.BuilderAt 63 5 B b (.pointer (some ⟨b, 0, none⟩)) (bs ++ Lib.strCells s) w' ∧ Below B w w') := Any.Builder_WriteString Tryd.lays166 Tryd.Builder_Extra_105 B b bs s w h hlen hBw
end Go.Proofs

/- strings.Repeat of a short text, few times: by the library's contract. -/
namespace Go.Proofs.YtmeinakeiefcdaaDoor.Hand
open Go Go.RowKit Go.Proofs.YtmeinakeiefcdaaDoorW.PrintWords Go.Proofs.YtmeinakeiefcdaaDoorW.PrintLast Go.Proofs.YtmeinakeiefcdaaDoorW.PrintMore
set_option linter.unusedVariables false
def strings_Repeat.f (s : ByteArray) (n : Int) : Option ByteArray := if 0 ≤ n ∧ n ≤ 1000 ∧ s.size ≤ 1000 then some ⟨(Lib.repeatL s.data.toList n.toNat).toArray⟩ else none
theorem strings_Repeat.calls (a0 : ByteArray) (a1 : Int) (r : ByteArray) (w : World) (h : strings_Repeat.f a0 a1 = some r) :
    Calls Tryd.prog 38 #[.string a0, .int .i64 a1] w fun e w' => e = .returned (.string r) ∧ Below w.heap.size w w' := by
  unfold strings_Repeat.f at h
  split at h
  · rename_i hh
    obtain ⟨h0, h1, h2⟩ := hh
    obtain rfl := Option.some.inj h
    obtain ⟨n, rfl⟩ := Int.eq_ofNat_of_zero_le h0
    have hm : a0.size * n ≤ 1000 * 1000 := Nat.mul_le_mul h2 (by omega)
    have := Tryd.strings_Repeat a0 n w (by omega) (by omega)
    rw [Int.toNat_natCast]
    exact this
  · cases h
end Go.Proofs.YtmeinakeiefcdaaDoor.Hand

/- over.One, walked by hand: a glyph's bytes, by a builder. -/
namespace Go.Proofs.YtmeinakeiefcdaaDoor.Hand
open Go Go.RowKit Go.Proofs.YtmeinakeiefcdaaDoorW.PrintWords Go.Proofs.YtmeinakeiefcdaaDoorW.PrintLast Go.Proofs.YtmeinakeiefcdaaDoorW.PrintMore Go.Proofs.YtmeinakeiefcdaaDoor.X
set_option linter.unusedVariables false
set_option linter.unusedSimpArgs false
theorem BuilderAt_below {T e B b : Nat} {p : Value} {bs : List Value} {w w1 : World} (h : Lib.BuilderAt T e B b p bs w) (hb : Below w.heap.size w w1) : Lib.BuilderAt T e B b p bs w1 := by
  obtain ⟨h0, v, h1, h2, h3⟩ := h
  exact ⟨h0, v, blk_below h1 hb, h2.kept (grown_of_below hb none) (by cases v.ownBlock <;> simp), h3⟩
theorem IsBuilder_below {T e B b : Nat} {bs : List Value} {w w1 : World} (h : Lib.IsBuilder T e B b bs w) (hb : Below w.heap.size w w1) : Lib.IsBuilder T e B b bs w1 := h.imp (fun k => BuilderAt_below k hb) (fun k => BuilderAt_below k hb)
theorem IsBuilder_cells {T e B b : Nat} {l : List UInt8} {s : ByteArray} {w : World} (h : Lib.IsBuilder T e B b (Lib.byteCells l ++ Lib.strCells s) w) : Lib.IsBuilder T e B b (Lib.byteCells (l ++ s.data.toList)) w := by
  have e : Lib.byteCells (l ++ s.data.toList) = Lib.byteCells l ++ Lib.strCells s := by simp [Lib.byteCells, Lib.strCells]
  rw [e]
  exact h
theorem rep_one (x : UInt8) (m : Nat) (hm : m ≤ 1000) : ∃ rx : ByteArray, (rx.size = m ∧ rx.data.toList = List.replicate m x) ∧ ∀ W : World, Calls Tryd.prog 38 #[.string ⟨#[x]⟩, .int .i64 m] W fun e w' => e = .returned (.string rx) ∧ Below W.heap.size W w' := by
  have hl : ∀ n, Lib.repeatL [x] n = List.replicate n x := by
    intro n
    induction n with
    | zero => rfl
    | succ n ih => rw [Lib.repeatL, ih, List.replicate_succ]; rfl
  refine ⟨⟨(Lib.repeatL [x] m).toArray⟩, ⟨?_, by rw [hl]⟩, fun W => ?_⟩
  · rw [hl]
    show (List.replicate m x).toArray.size = m
    simp
  · exact strings_Repeat.calls ⟨#[x]⟩ m _ W (by unfold strings_Repeat.f; rw [if_pos ⟨by omega, by omega, by show 1 ≤ 1000; omega⟩, Int.toNat_natCast])
theorem conv_some {s : ByteArray} {l : List Int} (h : bytesOf s = l) (hs : s.size ≤ 9223372036854775807) : conv_bytes.f s = some l := by
  unfold conv_bytes.f
  rw [if_pos hs, h]
theorem build_text (B b : Nat) (l : List UInt8) (w : World) (h : Lib.IsBuilder 63 5 B b (Lib.byteCells l) w) (hBw : B ≤ w.heap.size) :
    Calls Tryd.prog 39 #[.pointer (some ⟨b, 0, none⟩)] w fun e w' => ∃ sz : ByteArray, e = .returned (.string sz) ∧ sz.data.toList = l ∧ Below B w w' :=
  (Tryd.Builder_String_any B b l w h hBw).mono fun e w' hh => ⟨_, hh.1, by simp, hh.2⟩
/-- The bytes of a glyph that is set. -/
def oneB (s : ByteArray) (n : Nat) (f : Int) : List Int :=
  ((if Go.bits .and .u8 f 2 = 0 then [] else List.replicate n 95 ++ List.replicate n 8) ++ (if Go.bits .and .u8 f 1 = 0 then [] else bytesOf s ++ List.replicate n 8)) ++ bytesOf s
theorem one_small {t s : ByteArray} {m : Nat} {z : Int} (h : bytesOf t = oneB s m z) (hm : m ≤ 1000) (hs : s.size ≤ 1000) : t.size ≤ 9223372036854775807 := by
  have h1 := congrArg List.length h
  rw [bytesOf_length] at h1
  have h2 : (oneB s m z).length ≤ 6000 := by
    unfold oneB
    have hb := bytesOf_length s
    split <;> split <;> simp only [List.length_append, List.length_replicate, List.length_nil] <;> omega
  omega
def over_One.f (k : Nat) (a0 a1 : Int) : Option (List Int) :=
  (cells_Clean.f k [⟨a0, a1⟩]).bind fun c =>
    if c.length = 0 then (runes_Safe.f k a0).bind fun r => runes_Encode.f k [r]
    else (cells_Text.f k c).bind fun s => (cells_Width.f k c).bind fun n =>
      if (rd_T35 c 0).f0 = 32 ∨ (rd_T35 c 0).f1 = 0 then conv_bytes.f s
      else if 0 ≤ n ∧ n ≤ 1000 ∧ s.size ≤ 1000 then some (oneB s n.toNat (rd_T35 c 0).f1) else none
theorem over_One.mono : ∀ a0 a1 k, LeO (over_One.f k a0 a1) (over_One.f (k + 1) a0 a1) := by
  intro a0 a1 k
  unfold over_One.f
  exact LeO.bind (cells_Clean.mono _ _) fun c => LeO.ite (LeO.bind (runes_Safe.mono _ _) fun r => runes_Encode.mono _ _) (LeO.bind (cells_Text.mono _ _) fun s => LeO.bind (cells_Width.mono _ _) fun n => LeO.refl _)
set_option maxHeartbeats 8000000 in
set_option maxRecDepth 100000 in
theorem over_One.calls (k : Nat) (a0 a1 : Int) (r : List Int) (w : World) (hG : GOK [0] w) (h : over_One.f k a0 a1 = some r) :
    Calls Tryd.prog 15 #[.agg #[.int .i32 a0, .int .u8 a1]] w fun e w' => ∃ v0_ : Value, e = .returned (v0_) ∧ Kd.V (Kd.int .u8) 5 w' w.heap.size (fun k_ => (w.heap.size ≤ k_)) v0_ r ∧ Below w.heap.size w w' := by
  unfold over_One.f at h
  obtain ⟨c, hC, h⟩ := Option.bind_eq_some_iff.1 h
  have HG := Aside0.mk hG
  have HCl := Aside0.mk hC
  clear hG hC
  have HX0 : Aside0 ((w.alloc (.cells #[.int .i32 a0, .int .u8 a1] 35)).heap[w.heap.size]? = some (.cells #[.int .i32 a0, .int .u8 a1] 35 (0, 0))) := ⟨blk_new w _⟩
  have HB0 : Aside0 (Below w.heap.size w (w.alloc (.cells #[.int .i32 a0, .int .u8 a1] 35))) := ⟨below_alloc (Below.refl _ _) _⟩
  split at h
  · rename_i hc0
    obtain ⟨s0, hS, h⟩ := Option.bind_eq_some_iff.1 h
    have HS := Aside0.mk hS
    have HE := Aside0.mk h
    clear hS h
    have c1 : ((c.length : Int) == 0) = true := by rw [hc0]; rfl
    have C1 := Aside0.mk c1
    clear c1
    go_enter Tryd.func15, Tryd.ntmps15
    go_wp2_with (first
      | ((with_reducible refine gate_dst (N := 8) rfl ?_); refine Kd.R_lit k35 _ 35 ?hg (N := 8) ?hd (xs := ([(⟨a0, a1⟩ : S35)] : List (S35))) (inner := [.int .i32 a0, .int .u8 a1]) (ok := fun _ => True) (okp := fun _ => True) ?hr ?hp (fun _ hk => hk) trivial (Below.refl _ _) (Nat.le_refl _) (by simp) ?_; (case hd => rfl); (case hg => rfl); (case hr => first | (go_simp; done) | (go_simp; rfl)); (case hp => exact (Reps.c2 (show Kd.M k35 _ _ _ (⟨a0, a1⟩ : S35) [.int .i32 a0, .int .u8 a1] from (k35_mkM _ _ _ (⟨a0, a1⟩ : S35))) (Reps.none _ _))); intro v8 w1 ho1 hb1 hg_ hnew_; clear hg_ hnew_; have HX1 := Aside0.mk (blk_below HX0.out hb1); have HB1 := Aside0.mk (below_step HB0.out hb1); have HO1 := Aside0.mk ho1; clear hb1 ho1; obtain ⟨Ao, co, eo⟩ := Kd.R_slice HO1.out; subst eo)
      | (go_at_call 32; refine (cells_Clean.calls k _ _ [⟨a0, a1⟩] c _ (Kd.R_reads' HO1.out).2.2 (Kd.R_reads' HO1.out).2.1 (GOK.of_below (GOK.sub HG.out rfl) HB1.out) HCl.out).mono ?_; rintro e w2 ⟨v2, rfl, ho2, hb2⟩; have HX2 := Aside0.mk (blk_below HX1.out hb2); have HB2 := Aside0.mk (below_step HB1.out hb2); have HO2 := Aside0.mk ho2; clear hb2 ho2; obtain ⟨Ac, cc, eo⟩ := Kd.R_slice HO2.out; subst eo; have c2 := C1.out; have hx2 := (blk_cell HX2.out 0).trans rfl)
      | (go_at_call 34; refine (runes_Safe.calls k a0 s0 _ HS.out).mono ?_; rintro e w3 ⟨rfl, hd3⟩; have HB3 := Aside0.mk (below_step HB2.out hd3.below); clear hd3)
      | ((with_reducible refine gate_dst (N := 16) rfl ?_); refine Kd.R_lit (Kd.int .i32) _ 21 ?hg (N := 16) ?hd (xs := ([s0] : List Int)) (inner := [.int .i32 s0]) (ok := fun _ => True) (okp := fun _ => True) ?hr ?hp (fun _ hk => hk) trivial (Below.refl _ _) (Nat.le_refl _) (by simp) ?_; (case hd => rfl); (case hg => rfl); (case hr => first | (go_simp; done) | (go_simp; rfl)); (case hp => exact (Reps.one (show Kd.M (Kd.int .i32) _ _ _ s0 [.int .i32 s0] from rfl) (Reps.none _ _))); intro v4 w4 ho4 hb4 hg_ hnew_; clear hg_ hnew_; have HB4 := Aside0.mk (below_step HB3.out hb4); have HO4 := Aside0.mk ho4; clear hb4 ho4; obtain ⟨Ar, cr, eo⟩ := Kd.R_slice HO4.out; subst eo)
      | (go_at_call 33; refine (runes_Encode.calls k _ _ [s0] r _ (Kd.R_reads' HO4.out).2.2 (Kd.R_reads' HO4.out).2.1 HE.out).mono ?_; rintro e w5 ⟨v5, rfl, ho5, hb5⟩; have HB5 := Aside0.mk (below_step HB4.out hb5); have HO5 := Aside0.mk (Kd.R_lower ho5 HB4.out.size); clear hb5 ho5))
    go_ret
    exact ⟨_, rfl, Kd.R_V (Kd.R_mono (Kd.R_bound HO5.out) (fun k hk => hk.2.1)), HB5.out⟩
  · rename_i hc0
    obtain ⟨sx, hT, h⟩ := Option.bind_eq_some_iff.1 h
    obtain ⟨n, hW, h⟩ := Option.bind_eq_some_iff.1 h
    obtain ⟨z0, hz0⟩ : ∃ z, z = (rd_T35 c 0).f0 := ⟨_, rfl⟩
    obtain ⟨z1, hz1⟩ : ∃ z, z = (rd_T35 c 0).f1 := ⟨_, rfl⟩
    rw [← hz0, ← hz1] at h
    have HT := Aside0.mk hT
    have HWd := Aside0.mk hW
    have HZ0 := Aside0.mk hz0
    have HZ1 := Aside0.mk hz1
    have H := Aside0.mk h
    have HP := Aside0.mk (show 0 < c.length by omega)
    have C1 := Aside0.mk (show ((c.length : Int) == 0) = false from beq_eq_false_iff_ne.2 (by omega))
    clear hT hW h hz0 hz1
    have p0 : (0 : Int) < (c.length : Int) := by omega
    have h := H.out
    clear H
    split at h
    · rename_i hpl
      have HCV := Aside0.mk h
      clear h
      by_cases h32 : z0 = 32
      · have q0 : (z0 == 32) = true := by rw [h32]; rfl
        clear h32 hpl
        go_enter Tryd.func15, Tryd.ntmps15
        go_wp2_with (first
          | ((with_reducible refine gate_dst (N := 8) rfl ?_); refine Kd.R_lit k35 _ 35 ?hg (N := 8) ?hd (xs := ([(⟨a0, a1⟩ : S35)] : List (S35))) (inner := [.int .i32 a0, .int .u8 a1]) (ok := fun _ => True) (okp := fun _ => True) ?hr ?hp (fun _ hk => hk) trivial (Below.refl _ _) (Nat.le_refl _) (by simp) ?_; (case hd => rfl); (case hg => rfl); (case hr => first | (go_simp; done) | (go_simp; rfl)); (case hp => exact (Reps.c2 (show Kd.M k35 _ _ _ (⟨a0, a1⟩ : S35) [.int .i32 a0, .int .u8 a1] from (k35_mkM _ _ _ (⟨a0, a1⟩ : S35))) (Reps.none _ _))); intro v8 w1 ho1 hb1 hg_ hnew_; clear hg_ hnew_; have HX1 := Aside0.mk (blk_below HX0.out hb1); have HB1 := Aside0.mk (below_step HB0.out hb1); have HO1 := Aside0.mk ho1; clear hb1 ho1; obtain ⟨Ao, co, eo⟩ := Kd.R_slice HO1.out; subst eo)
          | (go_at_call 32; refine (cells_Clean.calls k _ _ [⟨a0, a1⟩] c _ (Kd.R_reads' HO1.out).2.2 (Kd.R_reads' HO1.out).2.1 (GOK.of_below (GOK.sub HG.out rfl) HB1.out) HCl.out).mono ?_; rintro e w2 ⟨v2, rfl, ho2, hb2⟩; have HB2 := Aside0.mk (below_step HB1.out hb2); have HO2 := Aside0.mk ho2; clear hb2 ho2; obtain ⟨Ac, cc, eo⟩ := Kd.R_slice HO2.out; subst eo; have c2 := C1.out)
          | (go_at_call 35; refine (cells_Text.calls k _ _ c sx _ (Kd.R_reads' HO2.out).2.2 (Kd.R_reads' HO2.out).2.1 HT.out).mono ?_; rintro e w3 ⟨rfl, hb3⟩; have HB3 := Aside0.mk (below_step HB2.out hb3); have HO3 := Aside0.mk (Kd.R_below HO2.out hb3); clear hb3)
          | (go_at_call 36; refine (cells_Width.calls k _ _ c n _ (Kd.R_reads' HO3.out).2.2 (Kd.R_reads' HO3.out).2.1 (GOK.of_below (GOK.sub HG.out rfl) HB3.out) HWd.out).mono ?_; rintro e w4 ⟨rfl, hb4⟩; have HB4 := Aside0.mk (below_step HB3.out hb4); have HO4 := Aside0.mk (Kd.R_below HO3.out hb4); clear hb4; obtain ⟨ad2, e2, hg0, hg1⟩ := at_T35 (Kd.R_reads' HO4.out).2.2 0 (by omega) (by have := HP.out; omega); subst e2; simp only [Int.toNat_zero, Nat.zero_mul, Addr.add_zero'] at hg0 hg1; rw [← HZ0.out] at hg0; rw [← HZ1.out] at hg1)
          | ((with_reducible refine gate_convert (src := 9) (dst := 25) rfl ?_); refine convL_ _ rfl rfl sx rfl rfl ?_; refine (conv_bytes.calls sx r _ HCV.out).mono ?_; rintro e w5 ⟨v5, rfl, ho5, hb5⟩; refine ⟨_, rfl, ?_⟩; have HB5 := Aside0.mk (below_step (by repeat (first | (with_reducible first | exact HB4.out | apply below_alloc | apply pw_below_drewN | apply below_drew1) | exact HB4.out)) hb5); have HO5 := Aside0.mk (Kd.V_mono ho5 (fun k_ hk => Nat.le_trans (Below.size (by repeat (first | (with_reducible first | exact HB4.out | apply below_alloc | apply pw_below_drewN | apply below_drew1) | exact HB4.out))) hk)); clear ho5 hb5))
        go_ret
        exact ⟨_, rfl, Kd.V_lower HO5.out HB4.out.size, HB5.out⟩
      · have q0 : (z0 == 32) = false := beq_eq_false_iff_ne.2 h32
        have q1 : (z1 == 0) = true := by
          have := hpl.resolve_left h32
          rw [this]
          rfl
        clear h32 hpl
        go_enter Tryd.func15, Tryd.ntmps15
        go_wp2_with (first
          | ((with_reducible refine gate_dst (N := 8) rfl ?_); refine Kd.R_lit k35 _ 35 ?hg (N := 8) ?hd (xs := ([(⟨a0, a1⟩ : S35)] : List (S35))) (inner := [.int .i32 a0, .int .u8 a1]) (ok := fun _ => True) (okp := fun _ => True) ?hr ?hp (fun _ hk => hk) trivial (Below.refl _ _) (Nat.le_refl _) (by simp) ?_; (case hd => rfl); (case hg => rfl); (case hr => first | (go_simp; done) | (go_simp; rfl)); (case hp => exact (Reps.c2 (show Kd.M k35 _ _ _ (⟨a0, a1⟩ : S35) [.int .i32 a0, .int .u8 a1] from (k35_mkM _ _ _ (⟨a0, a1⟩ : S35))) (Reps.none _ _))); intro v8 w1 ho1 hb1 hg_ hnew_; clear hg_ hnew_; have HX1 := Aside0.mk (blk_below HX0.out hb1); have HB1 := Aside0.mk (below_step HB0.out hb1); have HO1 := Aside0.mk ho1; clear hb1 ho1; obtain ⟨Ao, co, eo⟩ := Kd.R_slice HO1.out; subst eo)
          | (go_at_call 32; refine (cells_Clean.calls k _ _ [⟨a0, a1⟩] c _ (Kd.R_reads' HO1.out).2.2 (Kd.R_reads' HO1.out).2.1 (GOK.of_below (GOK.sub HG.out rfl) HB1.out) HCl.out).mono ?_; rintro e w2 ⟨v2, rfl, ho2, hb2⟩; have HB2 := Aside0.mk (below_step HB1.out hb2); have HO2 := Aside0.mk ho2; clear hb2 ho2; obtain ⟨Ac, cc, eo⟩ := Kd.R_slice HO2.out; subst eo; have c2 := C1.out)
          | (go_at_call 35; refine (cells_Text.calls k _ _ c sx _ (Kd.R_reads' HO2.out).2.2 (Kd.R_reads' HO2.out).2.1 HT.out).mono ?_; rintro e w3 ⟨rfl, hb3⟩; have HB3 := Aside0.mk (below_step HB2.out hb3); have HO3 := Aside0.mk (Kd.R_below HO2.out hb3); clear hb3)
          | (go_at_call 36; refine (cells_Width.calls k _ _ c n _ (Kd.R_reads' HO3.out).2.2 (Kd.R_reads' HO3.out).2.1 (GOK.of_below (GOK.sub HG.out rfl) HB3.out) HWd.out).mono ?_; rintro e w4 ⟨rfl, hb4⟩; have HB4 := Aside0.mk (below_step HB3.out hb4); have HO4 := Aside0.mk (Kd.R_below HO3.out hb4); clear hb4; obtain ⟨ad2, e2, hg0, hg1⟩ := at_T35 (Kd.R_reads' HO4.out).2.2 0 (by omega) (by have := HP.out; omega); subst e2; simp only [Int.toNat_zero, Nat.zero_mul, Addr.add_zero'] at hg0 hg1; rw [← HZ0.out] at hg0; rw [← HZ1.out] at hg1)
          | ((with_reducible refine gate_convert (src := 9) (dst := 25) rfl ?_); refine convL_ _ rfl rfl sx rfl rfl ?_; refine (conv_bytes.calls sx r _ HCV.out).mono ?_; rintro e w5 ⟨v5, rfl, ho5, hb5⟩; refine ⟨_, rfl, ?_⟩; have HB5 := Aside0.mk (below_step (by repeat (first | (with_reducible first | exact HB4.out | apply below_alloc | apply pw_below_drewN | apply below_drew1) | exact HB4.out)) hb5); have HO5 := Aside0.mk (Kd.V_mono ho5 (fun k_ hk => Nat.le_trans (Below.size (by repeat (first | (with_reducible first | exact HB4.out | apply below_alloc | apply pw_below_drewN | apply below_drew1) | exact HB4.out))) hk)); clear ho5 hb5))
        go_ret
        exact ⟨_, rfl, Kd.V_lower HO5.out HB4.out.size, HB5.out⟩
    · rename_i hpl
      have q0 : (z0 == 32) = false := beq_eq_false_iff_ne.2 (fun e => hpl (.inl e))
      have q1 : (z1 == 0) = false := beq_eq_false_iff_ne.2 (fun e => hpl (.inr e))
      split at h
      · rename_i hh
        obtain ⟨hn0, hn1, hsx⟩ := hh
        obtain ⟨m, rfl⟩ := Int.eq_ofNat_of_zero_le hn0
        rw [Int.toNat_natCast] at h
        obtain rfl := Option.some.inj h
        have HM := Aside0.mk (show m ≤ 1000 by omega)
        have HSX := Aside0.mk hsx
        have hrep : ∀ (x : UInt8), ∃ rx : ByteArray, (rx.size = m ∧ rx.data.toList = List.replicate m x) ∧ ∀ W : World, Calls Tryd.prog 38 #[.string ⟨#[x]⟩, .int .i64 m] W fun e w' => e = .returned (.string rx) ∧ Below W.heap.size W w' := fun x => rep_one x m (by omega)
        obtain ⟨r8, hr8, hc8⟩ := hrep 8
        obtain ⟨r95, hr95, hc95⟩ := hrep 95
        have HR8 := Aside0.mk hr8
        have HR95 := Aside0.mk hr95
        have HREP8 := Aside0.mk hc8
        have HREP95 := Aside0.mk hc95
        have k8 : (9223372036854775807 < sx.size + r8.size) = False := eq_false (by have := hr8.1; omega)
        have k9 : (9223372036854775807 < r95.size + r8.size) = False := eq_false (by have := hr8.1; have := hr95.1; omega)
        clear hpl hn0 hn1 hsx h hrep hr8 hc8 hr95 hc95
        by_cases b2 : Go.bits .and .u8 z1 2 = 0
        · have q2 : (Go.bits .and .u8 z1 2 != 0) = false := by rw [b2]; rfl
          by_cases b1 : Go.bits .and .u8 z1 1 = 0
          · have q3 : (Go.bits .and .u8 z1 1 != 0) = false := by rw [b1]; rfl
            have HCV := Aside0.mk (show ∀ sz : ByteArray, sz.data.toList = (([] : List UInt8) ++ sx.data.toList) → bytesOf sz = oneB sx m z1 from fun sz hz => by unfold bytesOf; rw [hz]; simp [oneB, bytesOf, b1, b2, HR8.out.2, ByteArray.data_append])
            have HCS := Aside0.mk (fun sz hz => one_small (HCV.out sz hz) HM.out HSX.out)
            clear b1 b2
            go_enter Tryd.func15, Tryd.ntmps15
            go_wp2_with (first
              | ((with_reducible refine gate_dst (N := 8) rfl ?_); refine Kd.R_lit k35 _ 35 ?hg (N := 8) ?hd (xs := ([(⟨a0, a1⟩ : S35)] : List (S35))) (inner := [.int .i32 a0, .int .u8 a1]) (ok := fun _ => True) (okp := fun _ => True) ?hr ?hp (fun _ hk => hk) trivial (Below.refl _ _) (Nat.le_refl _) (by simp) ?_; (case hd => rfl); (case hg => rfl); (case hr => first | (go_simp; done) | (go_simp; rfl)); (case hp => exact (Reps.c2 (show Kd.M k35 _ _ _ (⟨a0, a1⟩ : S35) [.int .i32 a0, .int .u8 a1] from (k35_mkM _ _ _ (⟨a0, a1⟩ : S35))) (Reps.none _ _))); intro v8 w1 ho1 hb1 hg_ hnew_; clear hg_ hnew_; have HX1 := Aside0.mk (blk_below HX0.out hb1); have HB1 := Aside0.mk (below_step HB0.out hb1); have HO1 := Aside0.mk ho1; clear hb1 ho1; obtain ⟨Ao, co, eo⟩ := Kd.R_slice HO1.out; subst eo)
              | (go_at_call 32; refine (cells_Clean.calls k _ _ [⟨a0, a1⟩] c _ (Kd.R_reads' HO1.out).2.2 (Kd.R_reads' HO1.out).2.1 (GOK.of_below (GOK.sub HG.out rfl) HB1.out) HCl.out).mono ?_; rintro e w2 ⟨v2, rfl, ho2, hb2⟩; have HB2 := Aside0.mk (below_step HB1.out hb2); have HO2 := Aside0.mk ho2; clear hb2 ho2; obtain ⟨Ac, cc, eo⟩ := Kd.R_slice HO2.out; subst eo; have c2 := C1.out)
              | (go_at_call 35; refine (cells_Text.calls k _ _ c sx _ (Kd.R_reads' HO2.out).2.2 (Kd.R_reads' HO2.out).2.1 HT.out).mono ?_; rintro e w3 ⟨rfl, hb3⟩; have HB3 := Aside0.mk (below_step HB2.out hb3); have HO3 := Aside0.mk (Kd.R_below HO2.out hb3); clear hb3)
              | (go_at_call 36; refine (cells_Width.calls k _ _ c (m : Int) _ (Kd.R_reads' HO3.out).2.2 (Kd.R_reads' HO3.out).2.1 (GOK.of_below (GOK.sub HG.out rfl) HB3.out) HWd.out).mono ?_; rintro e w4 ⟨rfl, hb4⟩; have HB4 := Aside0.mk (below_step HB3.out hb4); have HO4 := Aside0.mk (Kd.R_below HO3.out hb4); clear hb4; obtain ⟨ad2, e2, hg0, hg1⟩ := at_T35 (Kd.R_reads' HO4.out).2.2 0 (by omega) (by have := HP.out; omega); subst e2; simp only [Int.toNat_zero, Nat.zero_mul, Addr.add_zero'] at hg0 hg1; rw [← HZ0.out] at hg0; rw [← HZ1.out] at hg1; have hle4 := HB4.out.size; have HI := Aside0.mk (show Lib.IsBuilder 63 5 w4.heap.size w4.heap.size (Lib.byteCells []) (w4.alloc (.cells #[.pointer none, .slice none 0 0] 63)) from Lib.fresh_isBuilder 63 5 w4); have HB := Aside0.mk (below_alloc HB4.out (.cells #[.pointer none, .slice none 0 0] 63)); have HSZ := Aside0.mk (show w4.heap.size ≤ (w4.alloc (.cells #[.pointer none, .slice none 0 0] 63)).heap.size by simp); have HLE4 := Aside0.mk hle4; clear hle4; have hg1a := pw_cell_below (show Below w4.heap.size w4 (w4.alloc (.cells #[.pointer none, .slice none 0 0] 63)) from below_alloc (Below.refl _ _) _) hg1; have HC := Aside0.mk hg1a; have HCB := Aside0.mk (World.block_lt_of_cell? w4 _ hg1))
              | (go_at_call 38; (with_reducible refine (HREP95.out _).mono ?_); rintro e w9 ⟨rfl, hb9⟩; have HBn := Aside0.mk (below_step HB.out hb9); have HIn := Aside0.mk (IsBuilder_below HI.out hb9); have HSn := Aside0.mk (Nat.le_trans HSZ.out hb9.size); clear HB HI HSZ; have HB := HBn; have HI := HIn; have HSZ := HSn; have HCn := Aside0.mk (pw_cell_below hb9 HC.out); clear HC; have HC := HCn; have hc9 := HC.out; clear HBn HIn HSn HCn hb9)
              | (go_at_call 38; (with_reducible refine (HREP8.out _).mono ?_); rintro e w9 ⟨rfl, hb9⟩; have HBn := Aside0.mk (below_step HB.out hb9); have HIn := Aside0.mk (IsBuilder_below HI.out hb9); have HSn := Aside0.mk (Nat.le_trans HSZ.out hb9.size); clear HB HI HSZ; have HB := HBn; have HI := HIn; have HSZ := HSn; have HCn := Aside0.mk (pw_cell_below hb9 HC.out); clear HC; have HC := HCn; have hc9 := HC.out; clear HBn HIn HSn HCn hb9)
              | (go_at_call 37; refine (Tryd.Builder_WriteString w4.heap.size w4.heap.size _ _ _ HI.out (by have h1_ := HM.out; have h2_ := HSX.out; have h3_ := HR8.out.1; have h4_ := HR95.out.1; simp only [Lib.byteCells_length, List.length_append, List.length_nil, ByteArray.size_append, data_length, h3_, h4_]; omega) HSZ.out).mono ?_; rintro e w9 ⟨rfl, hi9, hb9⟩; have HBn := Aside0.mk (HB.out.trans (hb9.mono HLE4.out)); have HIn := Aside0.mk (IsBuilder_cells (Or.inr hi9)); have HSn := Aside0.mk (Nat.le_trans HSZ.out hb9.size); clear HB HI HSZ; have HB := HBn; have HI := HIn; have HSZ := HSn; have HCn := Aside0.mk ((hb9.cell (p := ⟨ad2.block, ad2.off + 1, none⟩) HCB.out).trans HC.out); clear HC; have HC := HCn; have hc9 := HC.out; clear HBn HIn HSn HCn hb9 hi9)
              | (go_at_call 39; refine (build_text w4.heap.size w4.heap.size _ _ HI.out HSZ.out).mono ?_; rintro e w9 ⟨sz, rfl, hsz, hb9⟩; have HSR := Aside0.mk hsz; clear hsz; have HBn := Aside0.mk (HB.out.trans (hb9.mono HLE4.out)); clear HB; have HB := HBn; clear HBn hb9)
              | ((with_reducible refine gate_convert (src := 9) (dst := 25) rfl ?_); refine convL_ _ rfl rfl sz rfl rfl ?_; refine (conv_bytes.calls sz (oneB sx m z1) _ (conv_some (HCV.out sz HSR.out) (HCS.out sz HSR.out))).mono ?_; rintro e w5 ⟨v5, rfl, ho5, hb5⟩; refine ⟨_, rfl, ?_⟩; have HB5 := Aside0.mk (below_step HB.out hb5); have HO5 := Aside0.mk (Kd.V_mono ho5 (fun k_ hk => Nat.le_trans HB.out.size hk)); clear ho5 hb5))
            go_ret
            exact ⟨_, rfl, Kd.V_lower HO5.out HB.out.size, HB5.out⟩
          · have q3 : (Go.bits .and .u8 z1 1 != 0) = true := by simpa using b1
            have HCV := Aside0.mk (show ∀ sz : ByteArray, sz.data.toList = ((([] : List UInt8) ++ (sx ++ r8).data.toList) ++ sx.data.toList) → bytesOf sz = oneB sx m z1 from fun sz hz => by unfold bytesOf; rw [hz]; simp [oneB, bytesOf, b1, b2, HR8.out.2, ByteArray.data_append])
            have HCS := Aside0.mk (fun sz hz => one_small (HCV.out sz hz) HM.out HSX.out)
            clear b1 b2
            go_enter Tryd.func15, Tryd.ntmps15
            go_wp2_with (first
              | ((with_reducible refine gate_dst (N := 8) rfl ?_); refine Kd.R_lit k35 _ 35 ?hg (N := 8) ?hd (xs := ([(⟨a0, a1⟩ : S35)] : List (S35))) (inner := [.int .i32 a0, .int .u8 a1]) (ok := fun _ => True) (okp := fun _ => True) ?hr ?hp (fun _ hk => hk) trivial (Below.refl _ _) (Nat.le_refl _) (by simp) ?_; (case hd => rfl); (case hg => rfl); (case hr => first | (go_simp; done) | (go_simp; rfl)); (case hp => exact (Reps.c2 (show Kd.M k35 _ _ _ (⟨a0, a1⟩ : S35) [.int .i32 a0, .int .u8 a1] from (k35_mkM _ _ _ (⟨a0, a1⟩ : S35))) (Reps.none _ _))); intro v8 w1 ho1 hb1 hg_ hnew_; clear hg_ hnew_; have HX1 := Aside0.mk (blk_below HX0.out hb1); have HB1 := Aside0.mk (below_step HB0.out hb1); have HO1 := Aside0.mk ho1; clear hb1 ho1; obtain ⟨Ao, co, eo⟩ := Kd.R_slice HO1.out; subst eo)
              | (go_at_call 32; refine (cells_Clean.calls k _ _ [⟨a0, a1⟩] c _ (Kd.R_reads' HO1.out).2.2 (Kd.R_reads' HO1.out).2.1 (GOK.of_below (GOK.sub HG.out rfl) HB1.out) HCl.out).mono ?_; rintro e w2 ⟨v2, rfl, ho2, hb2⟩; have HB2 := Aside0.mk (below_step HB1.out hb2); have HO2 := Aside0.mk ho2; clear hb2 ho2; obtain ⟨Ac, cc, eo⟩ := Kd.R_slice HO2.out; subst eo; have c2 := C1.out)
              | (go_at_call 35; refine (cells_Text.calls k _ _ c sx _ (Kd.R_reads' HO2.out).2.2 (Kd.R_reads' HO2.out).2.1 HT.out).mono ?_; rintro e w3 ⟨rfl, hb3⟩; have HB3 := Aside0.mk (below_step HB2.out hb3); have HO3 := Aside0.mk (Kd.R_below HO2.out hb3); clear hb3)
              | (go_at_call 36; refine (cells_Width.calls k _ _ c (m : Int) _ (Kd.R_reads' HO3.out).2.2 (Kd.R_reads' HO3.out).2.1 (GOK.of_below (GOK.sub HG.out rfl) HB3.out) HWd.out).mono ?_; rintro e w4 ⟨rfl, hb4⟩; have HB4 := Aside0.mk (below_step HB3.out hb4); have HO4 := Aside0.mk (Kd.R_below HO3.out hb4); clear hb4; obtain ⟨ad2, e2, hg0, hg1⟩ := at_T35 (Kd.R_reads' HO4.out).2.2 0 (by omega) (by have := HP.out; omega); subst e2; simp only [Int.toNat_zero, Nat.zero_mul, Addr.add_zero'] at hg0 hg1; rw [← HZ0.out] at hg0; rw [← HZ1.out] at hg1; have hle4 := HB4.out.size; have HI := Aside0.mk (show Lib.IsBuilder 63 5 w4.heap.size w4.heap.size (Lib.byteCells []) (w4.alloc (.cells #[.pointer none, .slice none 0 0] 63)) from Lib.fresh_isBuilder 63 5 w4); have HB := Aside0.mk (below_alloc HB4.out (.cells #[.pointer none, .slice none 0 0] 63)); have HSZ := Aside0.mk (show w4.heap.size ≤ (w4.alloc (.cells #[.pointer none, .slice none 0 0] 63)).heap.size by simp); have HLE4 := Aside0.mk hle4; clear hle4; have hg1a := pw_cell_below (show Below w4.heap.size w4 (w4.alloc (.cells #[.pointer none, .slice none 0 0] 63)) from below_alloc (Below.refl _ _) _) hg1; have HC := Aside0.mk hg1a; have HCB := Aside0.mk (World.block_lt_of_cell? w4 _ hg1))
              | (go_at_call 38; (with_reducible refine (HREP95.out _).mono ?_); rintro e w9 ⟨rfl, hb9⟩; have HBn := Aside0.mk (below_step HB.out hb9); have HIn := Aside0.mk (IsBuilder_below HI.out hb9); have HSn := Aside0.mk (Nat.le_trans HSZ.out hb9.size); clear HB HI HSZ; have HB := HBn; have HI := HIn; have HSZ := HSn; have HCn := Aside0.mk (pw_cell_below hb9 HC.out); clear HC; have HC := HCn; have hc9 := HC.out; clear HBn HIn HSn HCn hb9)
              | (go_at_call 38; (with_reducible refine (HREP8.out _).mono ?_); rintro e w9 ⟨rfl, hb9⟩; have HBn := Aside0.mk (below_step HB.out hb9); have HIn := Aside0.mk (IsBuilder_below HI.out hb9); have HSn := Aside0.mk (Nat.le_trans HSZ.out hb9.size); clear HB HI HSZ; have HB := HBn; have HI := HIn; have HSZ := HSn; have HCn := Aside0.mk (pw_cell_below hb9 HC.out); clear HC; have HC := HCn; have hc9 := HC.out; clear HBn HIn HSn HCn hb9)
              | (go_at_call 37; refine (Tryd.Builder_WriteString w4.heap.size w4.heap.size _ _ _ HI.out (by have h1_ := HM.out; have h2_ := HSX.out; have h3_ := HR8.out.1; have h4_ := HR95.out.1; simp only [Lib.byteCells_length, List.length_append, List.length_nil, ByteArray.size_append, data_length, h3_, h4_]; omega) HSZ.out).mono ?_; rintro e w9 ⟨rfl, hi9, hb9⟩; have HBn := Aside0.mk (HB.out.trans (hb9.mono HLE4.out)); have HIn := Aside0.mk (IsBuilder_cells (Or.inr hi9)); have HSn := Aside0.mk (Nat.le_trans HSZ.out hb9.size); clear HB HI HSZ; have HB := HBn; have HI := HIn; have HSZ := HSn; have HCn := Aside0.mk ((hb9.cell (p := ⟨ad2.block, ad2.off + 1, none⟩) HCB.out).trans HC.out); clear HC; have HC := HCn; have hc9 := HC.out; clear HBn HIn HSn HCn hb9 hi9)
              | (go_at_call 39; refine (build_text w4.heap.size w4.heap.size _ _ HI.out HSZ.out).mono ?_; rintro e w9 ⟨sz, rfl, hsz, hb9⟩; have HSR := Aside0.mk hsz; clear hsz; have HBn := Aside0.mk (HB.out.trans (hb9.mono HLE4.out)); clear HB; have HB := HBn; clear HBn hb9)
              | ((with_reducible refine gate_convert (src := 9) (dst := 25) rfl ?_); refine convL_ _ rfl rfl sz rfl rfl ?_; refine (conv_bytes.calls sz (oneB sx m z1) _ (conv_some (HCV.out sz HSR.out) (HCS.out sz HSR.out))).mono ?_; rintro e w5 ⟨v5, rfl, ho5, hb5⟩; refine ⟨_, rfl, ?_⟩; have HB5 := Aside0.mk (below_step HB.out hb5); have HO5 := Aside0.mk (Kd.V_mono ho5 (fun k_ hk => Nat.le_trans HB.out.size hk)); clear ho5 hb5))
            go_ret
            exact ⟨_, rfl, Kd.V_lower HO5.out HB.out.size, HB5.out⟩
        · have q2 : (Go.bits .and .u8 z1 2 != 0) = true := by simpa using b2
          by_cases b1 : Go.bits .and .u8 z1 1 = 0
          · have q3 : (Go.bits .and .u8 z1 1 != 0) = false := by rw [b1]; rfl
            have HCV := Aside0.mk (show ∀ sz : ByteArray, sz.data.toList = ((([] : List UInt8) ++ (r95 ++ r8).data.toList) ++ sx.data.toList) → bytesOf sz = oneB sx m z1 from fun sz hz => by unfold bytesOf; rw [hz]; simp [oneB, bytesOf, b1, b2, HR8.out.2, HR95.out.2, ByteArray.data_append])
            have HCS := Aside0.mk (fun sz hz => one_small (HCV.out sz hz) HM.out HSX.out)
            clear b1 b2
            go_enter Tryd.func15, Tryd.ntmps15
            go_wp2_with (first
              | ((with_reducible refine gate_dst (N := 8) rfl ?_); refine Kd.R_lit k35 _ 35 ?hg (N := 8) ?hd (xs := ([(⟨a0, a1⟩ : S35)] : List (S35))) (inner := [.int .i32 a0, .int .u8 a1]) (ok := fun _ => True) (okp := fun _ => True) ?hr ?hp (fun _ hk => hk) trivial (Below.refl _ _) (Nat.le_refl _) (by simp) ?_; (case hd => rfl); (case hg => rfl); (case hr => first | (go_simp; done) | (go_simp; rfl)); (case hp => exact (Reps.c2 (show Kd.M k35 _ _ _ (⟨a0, a1⟩ : S35) [.int .i32 a0, .int .u8 a1] from (k35_mkM _ _ _ (⟨a0, a1⟩ : S35))) (Reps.none _ _))); intro v8 w1 ho1 hb1 hg_ hnew_; clear hg_ hnew_; have HX1 := Aside0.mk (blk_below HX0.out hb1); have HB1 := Aside0.mk (below_step HB0.out hb1); have HO1 := Aside0.mk ho1; clear hb1 ho1; obtain ⟨Ao, co, eo⟩ := Kd.R_slice HO1.out; subst eo)
              | (go_at_call 32; refine (cells_Clean.calls k _ _ [⟨a0, a1⟩] c _ (Kd.R_reads' HO1.out).2.2 (Kd.R_reads' HO1.out).2.1 (GOK.of_below (GOK.sub HG.out rfl) HB1.out) HCl.out).mono ?_; rintro e w2 ⟨v2, rfl, ho2, hb2⟩; have HB2 := Aside0.mk (below_step HB1.out hb2); have HO2 := Aside0.mk ho2; clear hb2 ho2; obtain ⟨Ac, cc, eo⟩ := Kd.R_slice HO2.out; subst eo; have c2 := C1.out)
              | (go_at_call 35; refine (cells_Text.calls k _ _ c sx _ (Kd.R_reads' HO2.out).2.2 (Kd.R_reads' HO2.out).2.1 HT.out).mono ?_; rintro e w3 ⟨rfl, hb3⟩; have HB3 := Aside0.mk (below_step HB2.out hb3); have HO3 := Aside0.mk (Kd.R_below HO2.out hb3); clear hb3)
              | (go_at_call 36; refine (cells_Width.calls k _ _ c (m : Int) _ (Kd.R_reads' HO3.out).2.2 (Kd.R_reads' HO3.out).2.1 (GOK.of_below (GOK.sub HG.out rfl) HB3.out) HWd.out).mono ?_; rintro e w4 ⟨rfl, hb4⟩; have HB4 := Aside0.mk (below_step HB3.out hb4); have HO4 := Aside0.mk (Kd.R_below HO3.out hb4); clear hb4; obtain ⟨ad2, e2, hg0, hg1⟩ := at_T35 (Kd.R_reads' HO4.out).2.2 0 (by omega) (by have := HP.out; omega); subst e2; simp only [Int.toNat_zero, Nat.zero_mul, Addr.add_zero'] at hg0 hg1; rw [← HZ0.out] at hg0; rw [← HZ1.out] at hg1; have hle4 := HB4.out.size; have HI := Aside0.mk (show Lib.IsBuilder 63 5 w4.heap.size w4.heap.size (Lib.byteCells []) (w4.alloc (.cells #[.pointer none, .slice none 0 0] 63)) from Lib.fresh_isBuilder 63 5 w4); have HB := Aside0.mk (below_alloc HB4.out (.cells #[.pointer none, .slice none 0 0] 63)); have HSZ := Aside0.mk (show w4.heap.size ≤ (w4.alloc (.cells #[.pointer none, .slice none 0 0] 63)).heap.size by simp); have HLE4 := Aside0.mk hle4; clear hle4; have hg1a := pw_cell_below (show Below w4.heap.size w4 (w4.alloc (.cells #[.pointer none, .slice none 0 0] 63)) from below_alloc (Below.refl _ _) _) hg1; have HC := Aside0.mk hg1a; have HCB := Aside0.mk (World.block_lt_of_cell? w4 _ hg1))
              | (go_at_call 38; (with_reducible refine (HREP95.out _).mono ?_); rintro e w9 ⟨rfl, hb9⟩; have HBn := Aside0.mk (below_step HB.out hb9); have HIn := Aside0.mk (IsBuilder_below HI.out hb9); have HSn := Aside0.mk (Nat.le_trans HSZ.out hb9.size); clear HB HI HSZ; have HB := HBn; have HI := HIn; have HSZ := HSn; have HCn := Aside0.mk (pw_cell_below hb9 HC.out); clear HC; have HC := HCn; have hc9 := HC.out; clear HBn HIn HSn HCn hb9)
              | (go_at_call 38; (with_reducible refine (HREP8.out _).mono ?_); rintro e w9 ⟨rfl, hb9⟩; have HBn := Aside0.mk (below_step HB.out hb9); have HIn := Aside0.mk (IsBuilder_below HI.out hb9); have HSn := Aside0.mk (Nat.le_trans HSZ.out hb9.size); clear HB HI HSZ; have HB := HBn; have HI := HIn; have HSZ := HSn; have HCn := Aside0.mk (pw_cell_below hb9 HC.out); clear HC; have HC := HCn; have hc9 := HC.out; clear HBn HIn HSn HCn hb9)
              | (go_at_call 37; refine (Tryd.Builder_WriteString w4.heap.size w4.heap.size _ _ _ HI.out (by have h1_ := HM.out; have h2_ := HSX.out; have h3_ := HR8.out.1; have h4_ := HR95.out.1; simp only [Lib.byteCells_length, List.length_append, List.length_nil, ByteArray.size_append, data_length, h3_, h4_]; omega) HSZ.out).mono ?_; rintro e w9 ⟨rfl, hi9, hb9⟩; have HBn := Aside0.mk (HB.out.trans (hb9.mono HLE4.out)); have HIn := Aside0.mk (IsBuilder_cells (Or.inr hi9)); have HSn := Aside0.mk (Nat.le_trans HSZ.out hb9.size); clear HB HI HSZ; have HB := HBn; have HI := HIn; have HSZ := HSn; have HCn := Aside0.mk ((hb9.cell (p := ⟨ad2.block, ad2.off + 1, none⟩) HCB.out).trans HC.out); clear HC; have HC := HCn; have hc9 := HC.out; clear HBn HIn HSn HCn hb9 hi9)
              | (go_at_call 39; refine (build_text w4.heap.size w4.heap.size _ _ HI.out HSZ.out).mono ?_; rintro e w9 ⟨sz, rfl, hsz, hb9⟩; have HSR := Aside0.mk hsz; clear hsz; have HBn := Aside0.mk (HB.out.trans (hb9.mono HLE4.out)); clear HB; have HB := HBn; clear HBn hb9)
              | ((with_reducible refine gate_convert (src := 9) (dst := 25) rfl ?_); refine convL_ _ rfl rfl sz rfl rfl ?_; refine (conv_bytes.calls sz (oneB sx m z1) _ (conv_some (HCV.out sz HSR.out) (HCS.out sz HSR.out))).mono ?_; rintro e w5 ⟨v5, rfl, ho5, hb5⟩; refine ⟨_, rfl, ?_⟩; have HB5 := Aside0.mk (below_step HB.out hb5); have HO5 := Aside0.mk (Kd.V_mono ho5 (fun k_ hk => Nat.le_trans HB.out.size hk)); clear ho5 hb5))
            go_ret
            exact ⟨_, rfl, Kd.V_lower HO5.out HB.out.size, HB5.out⟩
          · have q3 : (Go.bits .and .u8 z1 1 != 0) = true := by simpa using b1
            have HCV := Aside0.mk (show ∀ sz : ByteArray, sz.data.toList = (((([] : List UInt8) ++ (r95 ++ r8).data.toList) ++ (sx ++ r8).data.toList) ++ sx.data.toList) → bytesOf sz = oneB sx m z1 from fun sz hz => by unfold bytesOf; rw [hz]; simp [oneB, bytesOf, b1, b2, HR8.out.2, HR95.out.2, ByteArray.data_append])
            have HCS := Aside0.mk (fun sz hz => one_small (HCV.out sz hz) HM.out HSX.out)
            clear b1 b2
            go_enter Tryd.func15, Tryd.ntmps15
            go_wp2_with (first
              | ((with_reducible refine gate_dst (N := 8) rfl ?_); refine Kd.R_lit k35 _ 35 ?hg (N := 8) ?hd (xs := ([(⟨a0, a1⟩ : S35)] : List (S35))) (inner := [.int .i32 a0, .int .u8 a1]) (ok := fun _ => True) (okp := fun _ => True) ?hr ?hp (fun _ hk => hk) trivial (Below.refl _ _) (Nat.le_refl _) (by simp) ?_; (case hd => rfl); (case hg => rfl); (case hr => first | (go_simp; done) | (go_simp; rfl)); (case hp => exact (Reps.c2 (show Kd.M k35 _ _ _ (⟨a0, a1⟩ : S35) [.int .i32 a0, .int .u8 a1] from (k35_mkM _ _ _ (⟨a0, a1⟩ : S35))) (Reps.none _ _))); intro v8 w1 ho1 hb1 hg_ hnew_; clear hg_ hnew_; have HX1 := Aside0.mk (blk_below HX0.out hb1); have HB1 := Aside0.mk (below_step HB0.out hb1); have HO1 := Aside0.mk ho1; clear hb1 ho1; obtain ⟨Ao, co, eo⟩ := Kd.R_slice HO1.out; subst eo)
              | (go_at_call 32; refine (cells_Clean.calls k _ _ [⟨a0, a1⟩] c _ (Kd.R_reads' HO1.out).2.2 (Kd.R_reads' HO1.out).2.1 (GOK.of_below (GOK.sub HG.out rfl) HB1.out) HCl.out).mono ?_; rintro e w2 ⟨v2, rfl, ho2, hb2⟩; have HB2 := Aside0.mk (below_step HB1.out hb2); have HO2 := Aside0.mk ho2; clear hb2 ho2; obtain ⟨Ac, cc, eo⟩ := Kd.R_slice HO2.out; subst eo; have c2 := C1.out)
              | (go_at_call 35; refine (cells_Text.calls k _ _ c sx _ (Kd.R_reads' HO2.out).2.2 (Kd.R_reads' HO2.out).2.1 HT.out).mono ?_; rintro e w3 ⟨rfl, hb3⟩; have HB3 := Aside0.mk (below_step HB2.out hb3); have HO3 := Aside0.mk (Kd.R_below HO2.out hb3); clear hb3)
              | (go_at_call 36; refine (cells_Width.calls k _ _ c (m : Int) _ (Kd.R_reads' HO3.out).2.2 (Kd.R_reads' HO3.out).2.1 (GOK.of_below (GOK.sub HG.out rfl) HB3.out) HWd.out).mono ?_; rintro e w4 ⟨rfl, hb4⟩; have HB4 := Aside0.mk (below_step HB3.out hb4); have HO4 := Aside0.mk (Kd.R_below HO3.out hb4); clear hb4; obtain ⟨ad2, e2, hg0, hg1⟩ := at_T35 (Kd.R_reads' HO4.out).2.2 0 (by omega) (by have := HP.out; omega); subst e2; simp only [Int.toNat_zero, Nat.zero_mul, Addr.add_zero'] at hg0 hg1; rw [← HZ0.out] at hg0; rw [← HZ1.out] at hg1; have hle4 := HB4.out.size; have HI := Aside0.mk (show Lib.IsBuilder 63 5 w4.heap.size w4.heap.size (Lib.byteCells []) (w4.alloc (.cells #[.pointer none, .slice none 0 0] 63)) from Lib.fresh_isBuilder 63 5 w4); have HB := Aside0.mk (below_alloc HB4.out (.cells #[.pointer none, .slice none 0 0] 63)); have HSZ := Aside0.mk (show w4.heap.size ≤ (w4.alloc (.cells #[.pointer none, .slice none 0 0] 63)).heap.size by simp); have HLE4 := Aside0.mk hle4; clear hle4; have hg1a := pw_cell_below (show Below w4.heap.size w4 (w4.alloc (.cells #[.pointer none, .slice none 0 0] 63)) from below_alloc (Below.refl _ _) _) hg1; have HC := Aside0.mk hg1a; have HCB := Aside0.mk (World.block_lt_of_cell? w4 _ hg1))
              | (go_at_call 38; (with_reducible refine (HREP95.out _).mono ?_); rintro e w9 ⟨rfl, hb9⟩; have HBn := Aside0.mk (below_step HB.out hb9); have HIn := Aside0.mk (IsBuilder_below HI.out hb9); have HSn := Aside0.mk (Nat.le_trans HSZ.out hb9.size); clear HB HI HSZ; have HB := HBn; have HI := HIn; have HSZ := HSn; have HCn := Aside0.mk (pw_cell_below hb9 HC.out); clear HC; have HC := HCn; have hc9 := HC.out; clear HBn HIn HSn HCn hb9)
              | (go_at_call 38; (with_reducible refine (HREP8.out _).mono ?_); rintro e w9 ⟨rfl, hb9⟩; have HBn := Aside0.mk (below_step HB.out hb9); have HIn := Aside0.mk (IsBuilder_below HI.out hb9); have HSn := Aside0.mk (Nat.le_trans HSZ.out hb9.size); clear HB HI HSZ; have HB := HBn; have HI := HIn; have HSZ := HSn; have HCn := Aside0.mk (pw_cell_below hb9 HC.out); clear HC; have HC := HCn; have hc9 := HC.out; clear HBn HIn HSn HCn hb9)
              | (go_at_call 37; refine (Tryd.Builder_WriteString w4.heap.size w4.heap.size _ _ _ HI.out (by have h1_ := HM.out; have h2_ := HSX.out; have h3_ := HR8.out.1; have h4_ := HR95.out.1; simp only [Lib.byteCells_length, List.length_append, List.length_nil, ByteArray.size_append, data_length, h3_, h4_]; omega) HSZ.out).mono ?_; rintro e w9 ⟨rfl, hi9, hb9⟩; have HBn := Aside0.mk (HB.out.trans (hb9.mono HLE4.out)); have HIn := Aside0.mk (IsBuilder_cells (Or.inr hi9)); have HSn := Aside0.mk (Nat.le_trans HSZ.out hb9.size); clear HB HI HSZ; have HB := HBn; have HI := HIn; have HSZ := HSn; have HCn := Aside0.mk ((hb9.cell (p := ⟨ad2.block, ad2.off + 1, none⟩) HCB.out).trans HC.out); clear HC; have HC := HCn; have hc9 := HC.out; clear HBn HIn HSn HCn hb9 hi9)
              | (go_at_call 39; refine (build_text w4.heap.size w4.heap.size _ _ HI.out HSZ.out).mono ?_; rintro e w9 ⟨sz, rfl, hsz, hb9⟩; have HSR := Aside0.mk hsz; clear hsz; have HBn := Aside0.mk (HB.out.trans (hb9.mono HLE4.out)); clear HB; have HB := HBn; clear HBn hb9)
              | ((with_reducible refine gate_convert (src := 9) (dst := 25) rfl ?_); refine convL_ _ rfl rfl sz rfl rfl ?_; refine (conv_bytes.calls sz (oneB sx m z1) _ (conv_some (HCV.out sz HSR.out) (HCS.out sz HSR.out))).mono ?_; rintro e w5 ⟨v5, rfl, ho5, hb5⟩; refine ⟨_, rfl, ?_⟩; have HB5 := Aside0.mk (below_step HB.out hb5); have HO5 := Aside0.mk (Kd.V_mono ho5 (fun k_ hk => Nat.le_trans HB.out.size hk)); clear ho5 hb5))
            go_ret
            exact ⟨_, rfl, Kd.V_lower HO5.out HB.out.size, HB5.out⟩
      · cases h
end Go.Proofs.YtmeinakeiefcdaaDoor.Hand
