/- What a row of this seat lists gives all that the walks ask of the package variables. -/
import Derived.Test.YtaoiogpgncjolaaDoorLaidA
namespace Go.Proofs.YtaoiogpgncjolaaDoor.Open
open Go.Proofs.YtaoiogpgncjolaaDoor.Hand
theorem gok_of_laid {W : World} {r : List (String × DataW Unit)} (h : laidMet Tryd.prog r W) (h1 : ("flong/runes.none", Rows.laid_flong_runes_none) ∈ r) (h2 : ("flong/runes.wide", Rows.laid_flong_runes_wide) ∈ r) : GOK W :=
  have t := tables_of_laid h h1 h2
  ⟨t.1, t.2⟩
end Go.Proofs.YtaoiogpgncjolaaDoor.Open
