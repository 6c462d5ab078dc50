/- AnsiJoins: lines of two rows are written as one behind the other; a row that is set plain is written plain; a row written has its text, without signs. The plain law. -/
import Derived.Test.YtdjepocklmlnbaaDoorSpecQ
import Derived.Test.YtdjepocklmlnbaaDoorSaidAnsiJoins
namespace Go.Proofs.YtdjepocklmlnbaaDoor.Pure
open Go Go.RowKit Go.Proofs.YtdjepocklmlnbaaDoorW.PrintWords Go.Proofs.YtdjepocklmlnbaaDoorW.PrintLast Go.Proofs.YtdjepocklmlnbaaDoorW.PrintMore Go.Proofs.YtdjepocklmlnbaaDoor.X Go.Proofs.YtdjepocklmlnbaaDoor.Hand
set_option linter.unusedVariables false
set_option linter.unusedSimpArgs false
theorem prows_app (a b : List Ln) : prows (a ++ b) = prows a ++ prows b := by simp [prows]
theorem wB_app (a b : List (List Gl)) : wB (a ++ b) = wB a ++ wB b := by simp [wB]
theorem refGo_zero : ∀ c : List Gl, (∀ g ∈ c, g.f1 = 0) → refGo c 0 = encode (runesOf c)
  | [], _ => rfl
  | g :: t, h => by
    have h0 := h g (by simp)
    rw [refGo, if_pos h0, h0, refGo_zero t (fun x hx => h x (by simp [hx])), List.nil_append, ← encode_append]
    rfl
theorem AnsiJoins : flonglaw19_AnsiJoins.PureSaid := by
  intro a b l _ hfa _ hfb _ hfl hsa hsb
  have h8 : ∀ g ∈ l, 0 ≤ g.f1 ∧ g.f1 ≤ 255 := fun g hg => wf_u8 (hfl g hg).2
  have same : ∀ x : List Int, flongref00_Same.f x x = some true := fun x => by unfold flongref00_Same.f; simp
  refine Ev.rounds (g := fun k => flonglaw19_AnsiJoins.f k a b l) ?_
  have ht : Ev (fun k => flonglaw19_AnsiJoins.j0 k a b l true) true := Ev.step (f := fun k => (flonglaw19_known.f k).bind fun t => some t) (fun k => by simp only [flonglaw19_AnsiJoins.j0]; rw [if_pos trivial]) (Ev.bind known_ev (Ev.now _))
  unfold flonglaw19_AnsiJoins.f
  refine Ev.bind (long_ev (l := a) hsa) (ev_ite (fun _ => ht) (fun hna => Ev.bind (long_ev (l := b) hsb) (ev_ite (fun _ => ht) (fun hnb => ?_))))
  by_cases hll : (l.length : Int) > 200
  · rw [decide_eq_true hll]
    exact ht
  rw [decide_eq_false hll]
  obtain ⟨h1, h2⟩ := longB_false a 0 (by omega) (by simpa using hna)
  obtain ⟨h3, h4⟩ := longB_false b 0 (by omega) (by simpa using hnb)
  have hla := lsum_length a
  have hlb := lsum_length b
  have hsma : ∀ x ∈ a, Small x := fun x hx => ⟨(h2 x hx).1, by have := (h2 x hx).2; omega, fun g hg => wf_u8 ((hfa x hx).2 g hg).2⟩
  have hsmb : ∀ x ∈ b, Small x := fun x hx => ⟨(h4 x hx).1, by have := (h4 x hx).2; omega, fun g hg => wf_u8 ((hfb x hx).2 g hg).2⟩
  have hsm : ∀ x ∈ a ++ b, Small x := fun x hx => (List.mem_append.1 hx).elim (hsma x) (hsmb x)
  have hra := wB_length _ (prows_small hsma)
  have hrb := wB_length _ (prows_small hsmb)
  rw [prows_length] at hra hrb
  have hab : (a ++ b).length ≤ 1000 := by rw [List.length_append]; omega
  have hwab := awrite_ev hab hsm
  rw [prows_app, wB_app] at hwab
  -- the row
  have hnl := rnormal_ev l (exists_trim (clean l)).choose_spec (by omega) h8
  change Ev _ (nrm l) at hnl
  have hle := nrm_length l
  have hset := nrm_set h8
  have hrow := row_ev (l := l) (by omega) h8
  have hg := nrm_good l
  have hstr := strip_row hg hset []
  rw [List.append_nil, stripL_nil, List.append_nil] at hstr
  have hgl := refGo_length (nrm l) 0
  have hst := strip_ev (refGo_Bytes (nrm l) 0) (by omega)
  rw [hstr] at hst
  -- the row, erased
  have hel := erase_length l
  have hz := erase_zero l
  have he8 : ∀ g ∈ erase l, 0 ≤ g.f1 ∧ g.f1 ≤ 255 := fun g hg => by rw [hz g hg]; decide
  have hnz := nrm_zero hz
  have hele := nrm_length (erase l)
  have herow := row_ev (l := erase l) (by omega) he8
  rw [refGo_zero _ hnz] at herow
  have henl := rnormal_ev (erase l) (exists_trim (clean (erase l))).choose_spec (by omega) he8
  change Ev _ (nrm (erase l)) at henl
  refine Ev.step (f := fun k => (if ([] : List Ln).length + a.length < 3518437208883 then ((some (([] : List Ln) ++ a : List Ln)).bind fun y326 => (if y326.length + b.length < 3518437208883 then ((ansi_Write.f k a).bind fun t332 => ((ansi_Write.f k b).bind fun t335 => (if t332.length + t335.length < 140737488355328 then ((flongref17_Erase.f k l).bind fun t341 => ((flongref17_Normal.f k l).bind fun t344 => ((flongref03_Text.f k t344).bind fun t347 => ((ansi_Write.f k (y326 ++ b)).bind fun t348 => ((flongref00_Same.f t348 (t332 ++ t335)).bind fun t351 => (if t351 = true then ((ansi_Row.f k t341).bind fun t352 => ((flongref17_Normal.f k t341).bind fun t355 => ((flongref03_Text.f k t355).bind fun t358 => (if (strOfNums t352).toList = t358.toList then ((ansi_Row.f k l).bind fun t359 => ((ansi_Strip.f k t359).bind fun t362 => (if (strOfNums t362).toList = t347.toList then ((flonglaw19_known.f k).bind fun t365 => (some t365)) else (some false)))) else (some false))))) else (some false))))))) else (none)))) else (none))) else (none))) (fun k => by simp only [flonglaw19_AnsiJoins.j0]; rw [if_neg (by simp)]) ?_
  refine ev_pos (by simp only [List.length_nil]; omega) (ev_bind1 rfl (ev_pos (by simp only [List.nil_append]; omega) ?_))
  simp only [List.nil_append]
  refine Ev.bind (awrite_ev (by omega) hsma) (Ev.bind (awrite_ev (by omega) hsmb) (ev_pos (by omega) ?_))
  refine Ev.bind (rerase_ev l (by omega)) (Ev.bind hnl (Ev.bind (rgtext_ev _ (by omega)) (Ev.bind hwab (ev_bind1 (same _) (ev_pos rfl ?_)))))
  refine Ev.bind herow (Ev.bind henl (Ev.bind (rgtext_ev _ (by omega)) (ev_pos rfl ?_)))
  exact Ev.bind hrow (Ev.bind hst (ev_pos rfl (Ev.bind known_ev (Ev.now _))))
end Go.Proofs.YtdjepocklmlnbaaDoor.Pure
