/- OverErase: what is struck over, read, and told as text, is what is written plain. The plain law. -/
import Derived.Test.YtmeinakeiefcdaaDoorSpecQ
import Derived.Test.YtmeinakeiefcdaaDoorSaidOverErase
namespace Go.Proofs.YtmeinakeiefcdaaDoor.Pure
open Go Go.RowKit Go.Proofs.YtmeinakeiefcdaaDoorW.PrintWords Go.Proofs.YtmeinakeiefcdaaDoorW.PrintLast Go.Proofs.YtmeinakeiefcdaaDoorW.PrintMore Go.Proofs.YtmeinakeiefcdaaDoor.X Go.Proofs.YtmeinakeiefcdaaDoor.Hand
set_option linter.unusedVariables false
theorem OverErase : flonglaw18_OverErase.PureSaid := by
  intro l _ hf hs
  refine Ev.rounds (g := fun k => flonglaw18_OverErase.f k l) ?_
  have ht : Ev (fun k => flonglaw18_OverErase.j0 k l true) true := Ev.step (f := fun k => (flonglaw18_known.f k).bind fun t => some t) (fun k => by simp only [flonglaw18_OverErase.j0]; rw [if_pos trivial]) (Ev.bind known_ev (Ev.now _))
  unfold flonglaw18_OverErase.f
  refine Ev.bind (long_ev (l := l) hs) (ev_ite (fun _ => ht) (fun h => ?_))
  obtain ⟨h1, h2⟩ := longB_false l 0 (by omega) (by simpa using h)
  have hll := lsum_length l
  have hsm : ∀ x ∈ l, Small x := fun x hx => ⟨(h2 x hx).1, by have := (h2 x hx).2; omega, fun g hg => wf_u8 ((hf x hx).2 g hg).2⟩
  refine Ev.bind (strikes_ev (by omega) (fun x hx => by have := (h2 x hx).2; omega)) ?_
  cases hst : strB l with
  | true => exact ht
  | false =>
    have hrl := prows_length l
    have hr3 := prows_small hsm
    have hpw := rwrite_ev (by omega) hsm
    have hback := oback_ev (by omega) hsm hst
    refine Ev.step (f := fun k => (over_Write.f k l).bind fun t624 => ((over_Read.f k t624).bind fun bt627 => (if bt627.2 = 0 then (flonglaw18_OverErase.l0 k l bt627.1 (⟨#[]⟩ : ByteArray) 0) else (some false)))) (fun k => by simp only [flonglaw18_OverErase.j0]; rw [if_neg (by simp)]) ?_
    refine Ev.bind (owrite_ev (by omega) hsm) (Ev.bind hback (ev_pos rfl ?_))
    revert hrl hr3 hpw
    clear hback
    show _ → _ → _ → Ev (fun k => flonglaw18_OverErase.l0 k l (prows l) (⟨#[]⟩ : ByteArray) 0) true
    generalize prows l = rs
    intro hrl hr3 hpw
    refine loop_up (σ := List Int) (fun k o i => flonglaw18_OverErase.l0 k l rs (strOfNums o) i) rs.length (fun o i => true) (fun o i => o = rowBytes (rs.take i) ∧ o.length ≤ 12001 * i) ?_ ?_ [] 0 (by omega) ⟨rfl, by simp⟩
    · rintro o ⟨ho, _⟩
      rw [List.take_length] at ho
      subst ho
      refine Ev.step (f := fun k => (flongref17_Write.f k l).bind fun t633 => (if (strOfNums (rowBytes rs)).toList = (strOfNums t633).toList then ((flonglaw18_known.f k).bind fun t636 => (some t636)) else (some false))) (fun k => by simp only [flonglaw18_OverErase.l0]; rw [if_neg (by omega)]) ?_
      exact Ev.bind hpw (ev_pos rfl (Ev.bind known_ev (Ev.now _)))
    · rintro o i hi ⟨ho, hol⟩ ih
      have hr := hr3 rs[i] (List.getElem_mem hi)
      have he := encode_length (runesOf rs[i])
      rw [runesOf_length] at he
      have hlb := lineBytes_length rs[i]
      refine Ev.step (f := fun k => (flongref03_Text.f k rs[i]).bind fun t => if (strOfNums o).size + t.size ≤ 9223372036854775807 then (if (strOfNums o ++ t).size + 1 ≤ 9223372036854775807 then flonglaw18_OverErase.l0 k l rs ((strOfNums o ++ t) ++ (⟨#[10]⟩ : ByteArray)) ((i + 1 : Nat) : Int) else none) else none) (fun k => ?_) ?_
      · simp only [flonglaw18_OverErase.l0]
        rw [if_pos (by omega), if_pos (by omega), rdL rs i hi, wrap_up hi (by omega)]
      · have e : (strOfNums o ++ strOfNums (encode (runesOf rs[i]))) ++ (⟨#[10]⟩ : ByteArray) = strOfNums (o ++ lineBytes rs[i]) := by
          unfold lineBytes
          rw [numsStr_append, numsStr_append, ByteArray.append_assoc]
          rfl
        refine Ev.bind (rgtext_ev _ (by omega)) (ev_pos (by rw [numsStr_size, numsStr_size]; omega) (ev_pos (by rw [← numsStr_append, numsStr_size, List.length_append]; omega) ?_))
        rw [e]
        refine ih _ ⟨?_, by rw [List.length_append]; omega⟩
        rw [ho, List.take_succ_eq_append_getElem hi]
        unfold rowBytes
        rw [List.map_append, List.flatten_append, List.map_singleton, List.flatten_singleton]
end Go.Proofs.YtmeinakeiefcdaaDoor.Pure
