/- AnsiSigns: a sign is told for how it sets, with whatever behind; it is stripped, and nothing else; bytes without a sign's begin stay. The plain law. -/
import Derived.Test.YtdjepocklmlnbaaDoorSpecQ
import Derived.Test.YtdjepocklmlnbaaDoorHandL
import Derived.Test.YtdjepocklmlnbaaDoorSaidAnsiSigns
namespace Go.Proofs.YtdjepocklmlnbaaDoor.Pure
open Go Go.RowKit Go.Proofs.YtdjepocklmlnbaaDoorW.PrintWords Go.Proofs.YtdjepocklmlnbaaDoorW.PrintLast Go.Proofs.YtdjepocklmlnbaaDoorW.PrintMore Go.Proofs.YtdjepocklmlnbaaDoor.X Go.Proofs.YtdjepocklmlnbaaDoor.Hand
set_option linter.unusedVariables false
theorem stripN_mem : ∀ (n : Nat) (b : List Int) (x : Int), x ∈ stripN n b → x ∈ b
  | 0, b, x, h => by simp [stripN] at h
  | n + 1, b, x, h => by
    rw [stripN] at h
    split at h
    · simp at h
    · split at h
      · exact List.mem_of_mem_drop (stripN_mem n _ x h)
      · rcases List.mem_append.1 h with h | h
        · exact List.mem_of_mem_take h
        · exact List.mem_of_mem_drop (stripN_mem n _ x h)
theorem AnsiSigns : flonglaw19_AnsiSigns.PureSaid := by
  intro a0 l1 ha hl hx
  have h0 := wf_u8 ha
  have hb : Bytes l1 := fun x hx' => wf_u8 (hx x hx')
  refine Ev.rounds (g := fun k => flonglaw19_AnsiSigns.f k a0 l1) ?_
  unfold flonglaw19_AnsiSigns.f
  refine ev_ite (fun _ => known_ev) (fun hlen => ?_)
  have hm0 : 0 ≤ a0 % 4 := by omega
  have hm3 : a0 % 4 ≤ 3 := by omega
  have es : ansi_Sign.f a0 = some (strOfNums (sgL (a0 % 4))) := by
    rw [sign_eq h0]
    congr 2
    unfold sgL
    congr 3
    omega
  have ht : Int.tmod a0 4 = a0 % 4 := Int.tmod_eq_emod_of_nonneg h0.1
  have hsl : (sgL (a0 % 4)).length ≤ 10 := by
    have hc : a0 % 4 = 0 ∨ a0 % 4 = 1 ∨ a0 % 4 = 2 ∨ a0 % 4 = 3 := by omega
    rcases hc with h | h | h | h <;> rw [h] <;> decide +kernel
  rw [es, ht]
  generalize a0 % 4 = m at hm0 hm3 hsl ⊢
  have hsb := sgL_Bytes m
  refine Ev.bind (Ev.now _) ?_
  rw [numsStr_back hsb, signs_eq (bytes_append hsb hb)]
  have hv : sgnV (sgL m ++ l1) = (m, ((sgL m).length : Int), true) := by
    unfold sgnV
    rw [sgn_sgL hm0 hm3]
  rw [hv]
  refine Ev.bind (Ev.now _) (ev_pos ⟨rfl, by rw [numsStr_size], rfl, by rw [numsStr_size]; omega⟩ ?_)
  have s1 := strip_ev (bytes_append hsb hb) (by rw [List.length_append]; omega)
  have s2 := strip_ev hb (by omega)
  rw [stripL_sgL hm0 hm3] at s1
  refine Ev.bind s1 (Ev.bind s2 ?_)
  have hsame : ∀ b : List Int, Bytes b → flongref00_Same.f b b = some true := fun b _ => by unfold flongref00_Same.f; rw [beq_self_eq_true]
  have hstb : Bytes (stripL l1) := fun x hx' => hb x (stripN_mem _ _ x hx')
  rw [hsame _ hstb]
  refine Ev.bind (Ev.now _) (ev_pos rfl (ev_ite (fun _ => known_ev) (fun h27 => ?_)))
  have hs : stripL l1 = l1 := by
    have := stripL_plain l1 [] (fun x hx e => h27 (e ▸ hx))
    rwa [List.append_nil, stripL_nil, List.append_nil] at this
  rw [hs] at s2
  refine Ev.bind s2 ?_
  rw [hsame _ hb]
  exact Ev.bind (Ev.now _) (ev_pos rfl known_ev)
end Go.Proofs.YtdjepocklmlnbaaDoor.Pure
