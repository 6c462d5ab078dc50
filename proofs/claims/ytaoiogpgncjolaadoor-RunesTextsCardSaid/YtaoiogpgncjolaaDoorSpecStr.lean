/- Numbers as a text, and back. -/
import Derived.Test.YtaoiogpgncjolaaDoorSpecU
namespace Go.Proofs.YtaoiogpgncjolaaDoor.Pure
open Go Go.RowKit Go.Proofs.YtaoiogpgncjolaaDoorW.PrintWords Go.Proofs.YtaoiogpgncjolaaDoorW.PrintLast Go.Proofs.YtaoiogpgncjolaaDoorW.PrintMore Go.Proofs.YtaoiogpgncjolaaDoor.X Go.Proofs.YtaoiogpgncjolaaDoor.Hand
set_option linter.unusedSimpArgs false
set_option linter.unusedVariables false
theorem numsStr_append (a b : List Int) : strOfNums (a ++ b) = strOfNums a ++ strOfNums b := by
  apply ByteArray.ext
  apply Array.ext'
  rw [ByteArray.data_append, Array.toList_append, strOfNums_data, strOfNums_data, strOfNums_data, List.map_append]
theorem numsStr_size (a : List Int) : (strOfNums a).size = a.length := by
  rw [← data_length, strOfNums_data, List.length_map]
theorem numsStr_back {b : List Int} (hb : Bytes b) : bytesOf (strOfNums b) = b := by
  unfold bytesOf
  rw [strOfNums_data, List.map_map]
  conv => rhs; rw [← List.map_id b]
  apply List.map_congr_left
  intro x hx
  have := hb x hx
  simp
  omega
end Go.Proofs.YtaoiogpgncjolaaDoor.Pure
