/- HandW: several of this session's texts in one. -/
import Derived.Test.YtdjepocklmlnbaaDoorHandA
import Derived.Test.YtdjepocklmlnbaaDoorX0
import Derived.Laws.BitsLemmas
import Derived.WalkKit
import Derived.Test.YtdjepocklmlnbaaDoorX3
import Derived.Test.YtdjepocklmlnbaaDoorHandI
import Derived.Shelf.Abstract
import Derived.Test.YtdjepocklmlnbaaDoorX1
/- ansi.Sign and ansi.Signs, walked by hand: the package's array of signs. -/

namespace Go.Proofs.YtdjepocklmlnbaaDoor.Hand
open Go Go.RowKit Go.Proofs.YtdjepocklmlnbaaDoorW.PrintWords Go.Proofs.YtdjepocklmlnbaaDoorW.PrintLast Go.Proofs.YtdjepocklmlnbaaDoorW.PrintMore Go.Proofs.YtdjepocklmlnbaaDoor.X
set_option linter.unusedVariables false
set_option linter.unusedSimpArgs false
theorem u8_mask3 {x : Int} (h0 : 0 ≤ x) (h1 : x ≤ 255) : Go.bits .and .u8 x 3 = x % 4 := by
  have h : ∀ n : Nat, n < 256 → Go.bits .and .u8 (n : Int) 3 = (n : Int) % 4 := by decide +kernel
  obtain ⟨n, rfl⟩ := Int.eq_ofNat_of_zero_le h0
  exact h n (by omega)
def ansi_Sign.f (a0 : Int) : Option ByteArray := if 0 ≤ a0 ∧ a0 ≤ 255 then some (signS (a0 % 4).toNat) else none
set_option maxHeartbeats 4000000 in
theorem ansi_Sign.calls (a0 : Int) (r : ByteArray) (w : World) (hG : GOK [2] w) (h : ansi_Sign.f a0 = some r) :
    Calls Tryd.prog 11 #[.int .u8 a0] w fun e w' => e = .returned (.string r) ∧ Drawn0 w w' := by
  unfold ansi_Sign.f at h
  split at h
  · rename_i hr
    obtain rfl := Option.some.inj h
    have hm := u8_mask3 hr.1 hr.2
    obtain ⟨m, hm4, he⟩ : ∃ m : Nat, m < 4 ∧ a0 % 4 = (m : Int) := ⟨(a0 % 4).toNat, by omega, by omega⟩
    rw [he] at hm ⊢
    have hc := sign_at hG (by decide) m hm4
    have c1 : (0 : Int) ≤ (m : Int) := by omega
    have c2 : (m : Int) < 4 := by omega
    go_enter Tryd.func11, Tryd.ntmps11
    go_wp2
    go_ret
    exact ⟨rfl, Drawn0.refl _⟩
  · cases h
def ansi_Signs.l : Nat → Nat → List Int → Option (Int × Int × Bool)
  | 0, _, _ => some (0, 0, false)
  | d + 1, i, b => (strings_HasPrefix.f (strOfNums b) (signS i)).bind fun t => if t = true then some ((i : Int), ((signS i).size : Int), true) else ansi_Signs.l d (i + 1) b
def ansi_Signs.f (b : List Int) : Option (Int × Int × Bool) := ansi_Signs.l 4 0 b
set_option maxHeartbeats 8000000 in
set_option maxRecDepth 100000 in
theorem ansi_Signs.calls (A0 : Option Addr) (c0 : Nat) (l0 : List Int) (r1 r2 : Int) (r3 : Bool) (w : World) (hr0 : Kd.C (Kd.int .u8) w A0 l0.length l0) (hc0 : l0.length ≤ c0) (hG : GOK [2] w) (h : ansi_Signs.f l0 = some (r1, r2, r3)) :
    Calls Tryd.prog 12 #[.slice A0 l0.length c0] w fun e w' => e = .returned (.tuple #[.int .u8 r1, .int .i64 r2, .bool r3]) ∧ Drawn0 w w' := by
  have h0 := sign_at hG (by decide) 0 (by decide)
  have h1 := sign_at hG (by decide) 1 (by decide)
  have h2 := sign_at hG (by decide) 2 (by decide)
  have h3 := sign_at hG (by decide) 3 (by decide)
  have hidx : ∀ (i : Nat) (W : World), i < 4 → (Instr.index 56 (.agg #[.string (signS 0), .string (signS 1), .string (signS 2), .string (signS 3)]) (.int .i64 i)).run Tryd.prog W = .ok (.string (signS i)) W := by
    intro i W hi
    have hcases : i = 0 ∨ i = 1 ∨ i = 2 ∨ i = 3 := by omega
    rcases hcases with rfl | rfl | rfl | rfl <;> simp [Instr.index, go_sem]
  have x0 : ∀ W : World, (Instr.index 56 (.agg #[.string (signS 0), .string (signS 1), .string (signS 2), .string (signS 3)]) (.int .i64 0)).run Tryd.prog W = .ok (.string (signS 0)) W := fun W => hidx 0 W (by decide)
  have x1 : ∀ W : World, (Instr.index 56 (.agg #[.string (signS 0), .string (signS 1), .string (signS 2), .string (signS 3)]) (.int .i64 1)).run Tryd.prog W = .ok (.string (signS 1)) W := fun W => hidx 1 W (by decide)
  have x2 : ∀ W : World, (Instr.index 56 (.agg #[.string (signS 0), .string (signS 1), .string (signS 2), .string (signS 3)]) (.int .i64 2)).run Tryd.prog W = .ok (.string (signS 2)) W := fun W => hidx 2 W (by decide)
  have x3 : ∀ W : World, (Instr.index 56 (.agg #[.string (signS 0), .string (signS 1), .string (signS 2), .string (signS 3)]) (.int .i64 3)).run Tryd.prog W = .ok (.string (signS 3)) W := fun W => hidx 3 W (by decide)
  clear hidx
  have HR := Aside0.mk hr0
  have HE0 : Aside0 (ansi_Signs.l (4 - 0) 0 l0 = some (r1, r2, r3)) := ⟨h⟩
  clear hr0 hG h
  go_enter Tryd.func12, Tryd.ntmps12
  go_wp2
  go_loopg [8] 4 (fun kq v8 w' => ∃ i : Nat, v8 = .int .i64 i ∧ Aside0 (i ≤ 4 ∧ 4 - i ≤ kq) ∧ Aside0 (ansi_Signs.l (4 - i) i l0 = some (r1, r2, r3)) ∧ Aside0 (Drawn0 w w'))
  case atStart => exact ⟨0, rfl, ⟨by omega, by omega⟩, HE0, ⟨Drawn0.refl _⟩⟩
  case round =>
    obtain ⟨i, rfl, HI, HE, HD⟩ := hrel
    obtain ⟨nd0, rfl⟩ := HD.out
    have hcv := Kd.C_string (P := Tryd.prog) (A := A0) (c := c0) Tryd.underlying22 Tryd.underlying5 Tryd.underlying9 (Kd.C_drewN HR.out nd0)
    have hi4 := HI.out.1
    have hcases : i = 0 ∨ i = 1 ∨ i = 2 ∨ i = 3 ∨ i = 4 := by omega
    rcases hcases with rfl | rfl | rfl | rfl | rfl
    · have he := HE.out
      rw [show 4 - 0 = 3 + 1 from rfl, ansi_Signs.l] at he
      obtain ⟨t, ht, hrest⟩ := Option.bind_eq_some_iff.1 he
      clear he
      cases t with
      | true =>
        cases hrest
        go_wp2_with (go_at_call 33; refine (strings_HasPrefix.calls _ _ true _ ht).mono ?_; rintro e w1 ⟨rfl, ⟨nd, rfl⟩⟩)
        go_ret3
        exact ⟨rfl, ⟨⟨_, rfl⟩⟩⟩
      | false =>
        rw [if_neg (by simp)] at hrest
        go_wp2_with (go_at_call 33; refine (strings_HasPrefix.calls _ _ false _ ht).mono ?_; rintro e w1 ⟨rfl, ⟨nd, rfl⟩⟩)
        obtain ⟨k1, rfl⟩ : ∃ k1, gk = k1 + 1 := ⟨gk - 1, by have := HI.out.2; omega⟩
        go_roundg k1
        case measure => omega
        case rel => exact ⟨1, by first | rfl | (simp; done), ⟨by omega, by have := HI.out.2; omega⟩, ⟨hrest⟩, ⟨⟨⟨_, rfl⟩⟩⟩⟩
    · have he := HE.out
      rw [show 4 - 1 = 2 + 1 from rfl, ansi_Signs.l] at he
      obtain ⟨t, ht, hrest⟩ := Option.bind_eq_some_iff.1 he
      clear he
      cases t with
      | true =>
        cases hrest
        go_wp2_with (go_at_call 33; refine (strings_HasPrefix.calls _ _ true _ ht).mono ?_; rintro e w1 ⟨rfl, ⟨nd, rfl⟩⟩)
        go_ret3
        exact ⟨rfl, ⟨⟨_, rfl⟩⟩⟩
      | false =>
        rw [if_neg (by simp)] at hrest
        go_wp2_with (go_at_call 33; refine (strings_HasPrefix.calls _ _ false _ ht).mono ?_; rintro e w1 ⟨rfl, ⟨nd, rfl⟩⟩)
        obtain ⟨k1, rfl⟩ : ∃ k1, gk = k1 + 1 := ⟨gk - 1, by have := HI.out.2; omega⟩
        go_roundg k1
        case measure => omega
        case rel => exact ⟨2, by first | rfl | (simp; done), ⟨by omega, by have := HI.out.2; omega⟩, ⟨hrest⟩, ⟨⟨⟨_, rfl⟩⟩⟩⟩
    · have he := HE.out
      rw [show 4 - 2 = 1 + 1 from rfl, ansi_Signs.l] at he
      obtain ⟨t, ht, hrest⟩ := Option.bind_eq_some_iff.1 he
      clear he
      cases t with
      | true =>
        cases hrest
        go_wp2_with (go_at_call 33; refine (strings_HasPrefix.calls _ _ true _ ht).mono ?_; rintro e w1 ⟨rfl, ⟨nd, rfl⟩⟩)
        go_ret3
        exact ⟨rfl, ⟨⟨_, rfl⟩⟩⟩
      | false =>
        rw [if_neg (by simp)] at hrest
        go_wp2_with (go_at_call 33; refine (strings_HasPrefix.calls _ _ false _ ht).mono ?_; rintro e w1 ⟨rfl, ⟨nd, rfl⟩⟩)
        obtain ⟨k1, rfl⟩ : ∃ k1, gk = k1 + 1 := ⟨gk - 1, by have := HI.out.2; omega⟩
        go_roundg k1
        case measure => omega
        case rel => exact ⟨3, by first | rfl | (simp; done), ⟨by omega, by have := HI.out.2; omega⟩, ⟨hrest⟩, ⟨⟨⟨_, rfl⟩⟩⟩⟩
    · have he := HE.out
      rw [show 4 - 3 = 0 + 1 from rfl, ansi_Signs.l] at he
      obtain ⟨t, ht, hrest⟩ := Option.bind_eq_some_iff.1 he
      clear he
      cases t with
      | true =>
        cases hrest
        go_wp2_with (go_at_call 33; refine (strings_HasPrefix.calls _ _ true _ ht).mono ?_; rintro e w1 ⟨rfl, ⟨nd, rfl⟩⟩)
        go_ret3
        exact ⟨rfl, ⟨⟨_, rfl⟩⟩⟩
      | false =>
        rw [if_neg (by simp)] at hrest
        go_wp2_with (go_at_call 33; refine (strings_HasPrefix.calls _ _ false _ ht).mono ?_; rintro e w1 ⟨rfl, ⟨nd, rfl⟩⟩)
        obtain ⟨k1, rfl⟩ : ∃ k1, gk = k1 + 1 := ⟨gk - 1, by have := HI.out.2; omega⟩
        go_roundg k1
        case measure => omega
        case rel => exact ⟨4, by first | rfl | (simp; done), ⟨by omega, by have := HI.out.2; omega⟩, ⟨hrest⟩, ⟨⟨⟨_, rfl⟩⟩⟩⟩
    · have he := HE.out
      rw [show 4 - 4 = 0 from rfl, ansi_Signs.l] at he
      cases he
      go_wp2
      go_ret3
      exact ⟨rfl, HD.out⟩
end Go.Proofs.YtdjepocklmlnbaaDoor.Hand
/- ansi.Row, walked by hand: its closure puts texts behind the bytes that it holds in a box. -/
namespace Go.Proofs.YtdjepocklmlnbaaDoor.Hand
open Go Go.RowKit Go.Proofs.YtdjepocklmlnbaaDoorW.PrintWords Go.Proofs.YtdjepocklmlnbaaDoorW.PrintLast Go.Proofs.YtdjepocklmlnbaaDoorW.PrintMore Go.Proofs.YtdjepocklmlnbaaDoor.X
set_option linter.unusedVariables false
set_option linter.unusedSimpArgs false
/-- The box, and the bytes that it holds. -/
def OutAt (base G : Nat) (v : Value) (xs : List Int) (W : World) : Prop := W.heap[G]? = some (.cells #[v] 22 (0, 0)) ∧ W.ownsRow base 5 1 v xs.length (nums .u8 xs)
theorem OutAt.below {base G : Nat} {v : Value} {xs : List Int} {W W1 : World} (h : OutAt base G v xs W) (hb : Below W.heap.size W W1) : OutAt base G v xs W1 := ⟨blk_below h.1 hb, h.2.kept (grown_of_below hb none) (by cases v.ownBlock <;> simp)⟩
theorem own_slice {w : World} {base : Nat} {e : TypeId} {size n : Nat} {v : Value} {xs : List Value} (h : w.ownsRow base e size v n xs) : ∃ A c, v = .slice A n c := by
  rcases h.2 with ⟨e1, e2⟩ | ⟨g, cap, cur, e1, _⟩
  · exact ⟨none, 0, by rw [e1, e2]⟩
  · exact ⟨_, _, e1⟩
/-- What lies in cells of other kinds lies on. -/
def Others (W W1 : World) : Prop := ∀ (k : Nat) (cs : Array Value) (q : TypeId), q ≠ 5 → q ≠ 22 → W.heap[k]? = some (.cells cs q (0, 0)) → W1.heap[k]? = some (.cells cs q (0, 0))
theorem Others.below {W W1 : World} (hb : Below W.heap.size W W1) : Others W W1 := fun k cs q _ _ h => blk_below h hb
theorem Others.trans {A B C : World} (h : Others A B) (g : Others B C) : Others A C := fun k cs q h1 h2 h3 => g k cs q h1 h2 (h k cs q h1 h2 h3)
theorem R_others {α : Type} {d : Kd α} {e base : Nat} {W W1 : World} {ok : Nat → Prop} {v : Value} {xs : List α} (h : d.R e W base ok v xs) (hE : ∀ q, q ∈ e :: d.E → q ≠ 5 ∧ q ≠ 22) (ho : Others W W1) : d.R e W1 base ok v xs :=
  Kd.R_mono (Kd.R_move (Kd.R_bound h) (fun k hk => by
    obtain ⟨_, _, _, q, hq, cells, hc⟩ := hk
    exact (ho k cells q (hE q hq).1 (hE q hq).2 hc).trans hc.symm)) (fun _ hk => hk.1)
theorem S_others {α : Type} {d : Kd α} {e base : Nat} {W W1 : World} {ok : Nat → Prop} {v : Value} {xs : List α} (h : Kd.S d e W base ok v xs) (hE : ∀ q, q ∈ e :: d.E → q ≠ 5 ∧ q ≠ 22) (ho : Others W W1) : Kd.S d e W1 base ok v xs :=
  Kd.S_mono (Kd.S_move (Kd.S_bound h) (fun k hk => by
    obtain ⟨_, _, _, q, hq, cells, hc⟩ := hk
    exact (ho k cells q (hE q hq).1 (hE q hq).2 hc).trans hc.symm)) (fun _ hk => hk.1)
set_option maxHeartbeats 4000000 in
theorem row_put (w0 W : World) (G : Nat) (v : Value) (xs : List Int) (s : ByteArray) (hX : OutAt w0.heap.size G v xs W) (hB : Below w0.heap.size w0 W) (hbase : w0.heap.size ≤ G) (hl : xs.length + s.size ≤ 140737488355328) :
    Calls Tryd.prog 34 #[.string s, .pointer (some ⟨G, 0, none⟩)] W fun e w' => e = .returned (.tuple #[]) ∧ ∃ v', OutAt w0.heap.size G v' (xs ++ bytesOf s) w' ∧ Below w0.heap.size w0 w' ∧ Others W w' := by
  obtain ⟨hb0, hO⟩ := hX
  have hG := blk_lt hb0
  have hc : W.cell? ⟨G, 0, none⟩ = some v := (blk_cell hb0 0).trans rfl
  go_enter Tryd.func34, Tryd.ntmps34
  go_wp2_with (at_builtin; refine print_append_str (w0 := w0) w0.heap.size rfl (.tmp 3) (.tmp 4) 22 9 5 rfl Tryd.underlying22 Tryd.underlying9 info5 v xs s rfl rfl hO hB (by omega) hl ?_; intro v1 w1 ho1 hb1 hg1; have hbx : w1.heap[G]? = some (.cells #[v] 22 (0, 0)) := blk_grown hb0 hg1 (own_ne hO hb0 (by decide)); have hc1 : w1.cell? ⟨G, 0, none⟩ = some v := (blk_cell hbx 0).trans rfl; have hf1 := blk_frozen hbx 0; obtain ⟨A1, c1, rfl⟩ : ∃ A c, v1 = .slice A (xs ++ bytesOf s).length c := own_slice ho1)
  rw [← List.length_append]
  go_end0
  refine ⟨rfl, _, ⟨blk_put hbx 0 _ rfl, own_setCell ho1 (own_ne ho1 hbx (by decide)) _⟩, below_set hb1 hbase, fun k cs q h1 h2 h3 => ?_⟩
  have hk : some k ≠ v.ownBlock := fun e => by
    obtain ⟨cells, hcl⟩ := own_typed hO k e.symm
    rw [h3] at hcl
    injection hcl with hcl
    injection hcl with _ hq _
    exact h1 hq
  exact blk_far (blk_grown h3 hg1 hk) (fun e => by
    subst e
    rw [hb0] at h3
    injection h3 with h3
    injection h3 with _ hq _
    exact h2 hq.symm) _
/-- Runs as bytes, behind o. -/
def rowB (k : Nat) : List (List S44) → List Int → Option (List Int)
  | [], o => some o
  | y :: t, o => if y.length = 0 then none else if (rd_T44 y 0).f1 = 0 then (cells_Text.f k y).bind fun s => if o.length + s.size ≤ 100000000000 then rowB k t (o ++ bytesOf s) else none
    else (ansi_Sign.f (rd_T44 y 0).f1).bind fun a => (cells_Text.f k y).bind fun s => (ansi_Sign.f 0).bind fun z => if o.length + a.size + s.size + z.size ≤ 100000000000 then rowB k t (((o ++ bytesOf a) ++ bytesOf s) ++ bytesOf z) else none
theorem rowB_mono (k : Nat) : ∀ (l : List (List S44)) (o : List Int), LeO (rowB k l o) (rowB (k + 1) l o)
  | [], o => fun r h => h
  | y :: t, o => by
    unfold rowB
    refine LeO.ite (LeO.none _) (LeO.ite (LeO.bind (cells_Text.mono _ _) fun s => LeO.ite (rowB_mono k t _) (LeO.none _)) (LeO.bind (LeO.refl _) fun a => LeO.bind (cells_Text.mono _ _) fun s => LeO.bind (LeO.refl _) fun z => LeO.ite (rowB_mono k t _) (LeO.none _)))
def ansi_Row.f (k : Nat) (l : List S44) : Option (List Int) := (plain_Normal.f k l).bind fun c => (cells_Runs.f c).bind fun rs => if rs.length ≤ 1000000000000 then rowB k rs [] else none
theorem ansi_Row.mono : ∀ a0 k, LeO (ansi_Row.f k a0) (ansi_Row.f (k + 1) a0) := by
  intro a0 k
  unfold ansi_Row.f
  exact LeO.bind (plain_Normal.mono _ _) fun c => LeO.bind (LeO.refl _) fun rs => LeO.ite (rowB_mono k rs []) (LeO.none _)
set_option maxHeartbeats 8000000 in
set_option maxRecDepth 100000 in
theorem ansi_Row.calls (k : Nat) (A0 : Option Addr) (c0 : Nat) (l0 : List S44) (r : List Int) (w : World) (hr0 : Kd.C k44 w A0 l0.length l0) (hc0 : l0.length ≤ c0) (hG : GOK [0, 1, 2] w) (h : ansi_Row.f k l0 = some r) :
    Calls Tryd.prog 16 #[.slice A0 l0.length c0] w fun e w' => ∃ v0_ : Value, e = .returned (v0_) ∧ Kd.R (Kd.int .u8) 5 w' w.heap.size (fun _ => True) v0_ r ∧ Below w.heap.size w w' := by
  have hmf : ∀ (fn : Fn) (first cap : Array Value) (w : World), (Instr.makeFunc fn first cap).run Tryd.prog w = .ok (.func fn first cap) w := fun _ _ _ _ => rfl
  unfold ansi_Row.f at h
  obtain ⟨c, hN, h2⟩ := Option.bind_eq_some_iff.1 h
  obtain ⟨rs, hRn, h3⟩ := Option.bind_eq_some_iff.1 h2
  clear h h2
  split at h3
  · rename_i hrl
    have HR := Aside0.mk hr0
    have HC := Aside0.mk hc0
    have HG := Aside0.mk hG
    have HN := Aside0.mk hN
    have HRN := Aside0.mk hRn
    have HE0 := Aside0.mk h3
    clear hr0 hc0 hG hN hRn h3
    have hX0 : OutAt w.heap.size w.heap.size (.slice none 0 0) [] (w.alloc (.cells #[.slice none 0 0] 22)) := ⟨blk_new w _, ⟨rfl, .inl ⟨rfl, rfl⟩⟩⟩
    have HX0 := Aside0.mk hX0
    clear hX0
    have HB0 : Aside0 (Below w.heap.size w (w.alloc (.cells #[.slice none 0 0] 22))) := ⟨below_alloc (Below.refl _ _) _⟩
    go_enter Tryd.func16, Tryd.ntmps16
    go_wp2_with (first | (go_at_call 36; refine (plain_Normal.calls k A0 c0 l0 c _ (Kd.C_below HR.out HB0.out) HC.out (GOK.of_below (GOK.sub HG.out rfl) HB0.out) HN.out).mono ?_; rintro e w1 ⟨v1, rfl, hR1, hb1⟩; have HX1 := Aside0.mk (HX0.out.below hb1); have HB1 := Aside0.mk (below_step HB0.out hb1); clear hb1; obtain ⟨Ac, cc, rfl⟩ := Kd.R_slice hR1; have HC1 := Aside0.mk (Kd.R_reads' hR1).2; clear hR1) | (go_at_call 35; refine (cells_Runs.calls Ac cc c rs _ HC1.out.2 HC1.out.1 HRN.out).mono ?_; rintro e w2 ⟨v2, rfl, hS2, hb2⟩; have HX2 := Aside0.mk (HX1.out.below hb2); have HB2 := Aside0.mk (below_step HB1.out hb2); clear HX1; obtain ⟨Ar, cr, rfl⟩ := Kd.S_slice hS2; have HS2 := Aside0.mk (Kd.S_lower hS2 (HB1.out.size)); clear hS2 hb2))
    go_loopg [12] rs.length (fun kq v12 w' => ∃ (i : Nat) (v : Value) (o : List Int), v12 = .int .i64 i ∧ Aside0 (i ≤ rs.length ∧ rs.length - i ≤ kq) ∧ Aside0 (OutAt w.heap.size w.heap.size v o w') ∧ Aside0 (Below w.heap.size w w') ∧ Aside0 (Kd.S (Kd.slice 44 k44) 33 w' w.heap.size (fun _ => True) (.slice Ar rs.length cr) rs) ∧ Aside0 (rowB k (rs.drop i) o = some r))
    case atStart => exact ⟨0, _, [], rfl, ⟨by omega, by omega⟩, HX2, HB2, HS2, ⟨by rw [List.drop_zero]; exact HE0.out⟩⟩
    case round =>
      clear HX0 HX2 HB0 HB1 HB2 HS2 HE0 HC1
      obtain ⟨i, v, o, rfl, HI, HX, HB, HS, HE⟩ := hrel
      have hE1 : ∀ q, q ∈ 33 :: (Kd.slice 44 k44).E → q ≠ 5 ∧ q ≠ 22 := by decide
      have hE2 : ∀ q, q ∈ 44 :: (k44).E → q ≠ 5 ∧ q ≠ 22 := by decide
      by_cases hlt : i < rs.length
      · have c1 : decide ((i : Int) < (rs.length : Int)) = true := decide_eq_true (by omega)
        have c2 : (0 : Int) ≤ (i : Int) := by omega
        have c3 : (i : Int) < (rs.length : Int) := by omega
        have wi : IntKind.i64.wrap ((i : Int) + 1) = ((i + 1 : Nat) : Int) := by rw [IntKind.wrap_i64]; omega
        obtain ⟨g, cap, hv, hgb, hgl, hgc⟩ := Kd.S_form HS.out (by omega)
        injection hv with hv1 hv2 hv3
        subst hv1
        subst hv3
        clear hv2 hgc
        obtain ⟨oki, ce, hcl, hM, hcc, hfr, hoki, hH⟩ := Kd.S_elem HS.out ([] : List S44) (i : Int) (by omega) (by omega)
        obtain ⟨ve, rfl, hRy⟩ := hM
        rw [Int.toNat_natCast] at hRy hcc
        have hgd : rs.getD i [] = rs[i] := by rw [List.getD_eq_getElem?_getD, List.getElem?_eq_getElem hlt]; rfl
        rw [hgd] at hRy
        have hd : rs.drop i = rs[i] :: rs.drop (i + 1) := List.drop_eq_getElem_cons hlt
        obtain ⟨y, hy⟩ : ∃ y, y = rs[i] := ⟨_, rfl⟩
        rw [← hy] at hRy hd
        have he := HE.out
        rw [hd, rowB] at he
        clear hgd hy hd hcl hfr hoki hH
        obtain ⟨Ay, cy, rfl⟩ := Kd.R_slice hRy
        have hx := hcc 0 _ rfl
        rw [show (Kd.slice 44 k44).sz = 1 from rfl, Nat.mul_one, Nat.add_zero] at hx
        clear hcc
        split at he
        · cases he
        · rename_i hy0
          obtain ⟨_, hly, hCy⟩ := Kd.R_reads' hRy
          obtain ⟨ad2, e2, hg0, hg1⟩ := at_T44 hCy 0 (by omega) (by omega)
          subst e2
          simp only [Int.toNat_zero, Nat.zero_mul, Addr.add_zero'] at hg0 hg1
          have c4 : (0 : Int) < (y.length : Int) := by omega
          obtain ⟨z1, hz1⟩ : ∃ z1, z1 = (rd_T44 y 0).f1 := ⟨_, rfl⟩
          rw [← hz1] at he hg1
          have HRY := Aside0.mk hRy
          clear hRy hCy hg0 hz1
          split at he
          · rename_i hz0
            subst hz0
            obtain ⟨sx, hT, he⟩ := Option.bind_eq_some_iff.1 he
            split at he
            · rename_i hlen
              have HT := Aside0.mk hT
              clear hT
              go_wp2_with (go_at_call 37; refine (cells_Text.calls k (some ad2) cy y sx wr (Kd.R_reads' HRY.out).2.2 (Kd.R_reads' HRY.out).2.1 HT.out).mono ?_; rintro e w1 ⟨rfl, hb1⟩; have HX1 := Aside0.mk (HX.out.below hb1); have HB1 := Aside0.mk (below_step HB.out hb1); have HS1 := Aside0.mk (Kd.S_below HS.out hb1); clear hb1)
              refine (row_put w w1 w.heap.size v o sx HX1.out HB1.out (Nat.le_refl _) (by omega)).mono ?_
              rintro e w3 ⟨rfl, v3, hx3, hb3, ho3⟩
              have HS3 := Aside0.mk (S_others HS1.out hE1 ho3)
              clear HX1 HB1 HS1
              go_wp2
              obtain ⟨k1, rfl⟩ : ∃ k1, gk = k1 + 1 := ⟨gk - 1, by have := HI.out.2; omega⟩
              go_roundg k1
              case measure => omega
              case rel => exact ⟨i + 1, v3, o ++ bytesOf sx, by first | rfl | (simp; done), ⟨by omega, by have := HI.out.2; omega⟩, ⟨hx3⟩, ⟨hb3⟩, ⟨HS3.out⟩, ⟨he⟩⟩
            · cases he
          · rename_i hz0
            obtain ⟨sa, hA, he⟩ := Option.bind_eq_some_iff.1 he
            obtain ⟨sx, hT, he⟩ := Option.bind_eq_some_iff.1 he
            obtain ⟨sz, hZ, he⟩ := Option.bind_eq_some_iff.1 he
            split at he
            · rename_i hlen
              have HT := Aside0.mk hT
              have HA := Aside0.mk hA
              have HZ := Aside0.mk hZ
              have HL := Aside0.mk hlen
              clear hT hA hZ hlen
              have c5 : (z1 == 0) = false := by simpa using hz0
              go_wp2_with (go_at_call 11; refine (ansi_Sign.calls z1 sa wr (GOK.of_below (GOK.sub HG.out rfl) HB.out) HA.out).mono ?_; rintro e w1 ⟨rfl, hd1⟩; have HX1 := Aside0.mk (HX.out.below hd1.below); have HB1 := Aside0.mk (below_step HB.out hd1.below); have HS1 := Aside0.mk (Kd.S_below HS.out hd1.below); have HY1 := Aside0.mk (Kd.R_below HRY.out hd1.below); clear hd1)
              refine (row_put w w1 w.heap.size v o sa HX1.out HB1.out (Nat.le_refl _) (by have := HL.out; omega)).mono ?_
              rintro e w3 ⟨rfl, v3, hx3, hb3, ho3⟩
              have HX3 := Aside0.mk hx3
              have HB3 := Aside0.mk hb3
              have HS3 := Aside0.mk (S_others HS1.out hE1 ho3)
              have HY3 := Aside0.mk (R_others HY1.out hE2 ho3)
              clear hx3 hb3 ho3 HX1 HB1 HS1 HY1
              go_wp2_with (go_at_call 37; refine (cells_Text.calls k (some ad2) cy y sx w3 (Kd.R_reads' HY3.out).2.2 (Kd.R_reads' HY3.out).2.1 HT.out).mono ?_; rintro e w4 ⟨rfl, hb4⟩; have HX4 := Aside0.mk (HX3.out.below hb4); have HB4 := Aside0.mk (below_step HB3.out hb4); have HS4 := Aside0.mk (Kd.S_below HS3.out hb4); clear hb4)
              refine (row_put w w4 w.heap.size v3 (o ++ bytesOf sa) sx HX4.out HB4.out (Nat.le_refl _) (by have := HL.out; rw [List.length_append, bytesOf_length]; omega)).mono ?_
              rintro e w5 ⟨rfl, v5, hx5, hb5, ho5⟩
              have HX5 := Aside0.mk hx5
              have HB5 := Aside0.mk hb5
              have HS5 := Aside0.mk (S_others HS4.out hE1 ho5)
              clear hx5 hb5 ho5 HX4 HB4 HS4 HX3 HB3 HS3 HY3
              go_wp2_with (go_at_call 11; refine (ansi_Sign.calls 0 sz w5 (GOK.of_below (GOK.sub HG.out rfl) HB5.out) HZ.out).mono ?_; rintro e w6 ⟨rfl, hd6⟩; have HX6 := Aside0.mk (HX5.out.below hd6.below); have HB6 := Aside0.mk (below_step HB5.out hd6.below); have HS6 := Aside0.mk (Kd.S_below HS5.out hd6.below); clear hd6)
              refine (row_put w w6 w.heap.size v5 ((o ++ bytesOf sa) ++ bytesOf sx) sz HX6.out HB6.out (Nat.le_refl _) (by have := HL.out; rw [List.length_append, List.length_append, bytesOf_length, bytesOf_length]; omega)).mono ?_
              rintro e w7 ⟨rfl, v7, hx7, hb7, ho7⟩
              have HS7 := Aside0.mk (S_others HS6.out hE1 ho7)
              clear HX6 HB6 HS6 HX5 HB5 HS5
              go_wp2
              obtain ⟨k1, rfl⟩ : ∃ k1, gk = k1 + 1 := ⟨gk - 1, by have := HI.out.2; omega⟩
              go_roundg k1
              case measure => omega
              case rel => exact ⟨i + 1, v7, ((o ++ bytesOf sa) ++ bytesOf sx) ++ bytesOf sz, by first | rfl | (simp; done), ⟨by omega, by have := HI.out.2; omega⟩, ⟨hx7⟩, ⟨hb7⟩, ⟨HS7.out⟩, ⟨he⟩⟩
            · cases he
      · have c1 : decide ((i : Int) < (rs.length : Int)) = false := decide_eq_false (by omega)
        have c3 : ¬ ((i : Int) < (rs.length : Int)) := by omega
        have ho := (blk_cell HX.out.1 0).trans rfl
        have he := HE.out
        rw [List.drop_eq_nil_of_le (by omega), rowB] at he
        obtain rfl := Option.some.inj he
        obtain ⟨Av, cv, rfl⟩ := own_slice HX.out.2
        go_wp2
        go_ret
        exact ⟨_, rfl, Kd.R_of_own HX.out.2 (fun _ _ => trivial), HB.out⟩
  · cases h3
end Go.Proofs.YtdjepocklmlnbaaDoor.Hand