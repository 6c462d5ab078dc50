/- HandS: several of this session's texts in one. -/
import Derived.Shelf.Strings.Builder1
import Derived.Shelf.Strings.Builder2
import Derived.Shelf.Strings.Trim
import Derived.Shelf.Strings.Replace
import Derived.Shelf.Strings.IndexAny
import Derived.Shelf.Strings.AsciiSet
import Derived.Shelf.Strings.IndexAnyAll
import Derived.Test.YtmfkokjbjmahkaaDoorProg
import Derived.Shelf.Strings.SlTrimAscii
import Derived.Test.YtmfkokjbjmahkaaDoorRangeIter
import Derived.Shelf.RegionOpen
import Derived.OwnWalkIn
import Derived.TacticsInMore
import Derived.LoopNIn
import Derived.LoopIn
import Derived.WalkKit
import Derived.Lib.Strings
import Derived.Lib.Slices
import Derived.Lib.Walk
import Derived.Lib.Bytealg
import Derived.Shelf.Abstract
import Derived.Test.YtmfkokjbjmahkaaDoorX0
import Derived.Laws.RangeAny
import Derived.Lib.IndexAny
import Derived.Lib.OthersKept
import Derived.Lib.Builder
import Derived.Test.YtmfkokjbjmahkaaDoorHandA
import Derived.Lib.SplitLaws
/- Contracts of the library (strings.TrimRight, TrimLeft, IndexAny, ReplaceAll, strings.Builder) at this dump, in plain words: written by the kit's lay-shelf and lay-plain for this seat. -/
namespace Go.Proofs
open Go.Shelf
def Tryd.lays169_ren : Go.Shelf.Ren := ⟨fun | 169 => 41 | n => n, fun | 70 => 64 | 9 => 9 | 0 => 0 | 72 => 67 | 37 => 65 | 127 => 81 | 3 => 3 | 5 => 5 | n => n, fun | n => n⟩
theorem Tryd.lays169 : Go.Proofs.Lays.n169 Tryd.prog Tryd.lays169_ren := {
  mixed := by kernel_rfl
  f169 := Tryd.func41.trans (congrArg some (by kernel_rfl))
  t0 := Tryd.underlying0
  a0 := Tryd.isAgg0
  z0 := Tryd.sizeOf0
  v0 := Tryd.zeroValue0
  t3 := Tryd.underlying3
  a3 := Tryd.isAgg3
  z3 := Tryd.sizeOf3
  v3 := Tryd.zeroValue3
  t9 := Tryd.underlying9
  a9 := Tryd.isAgg9
  z9 := Tryd.sizeOf9
  v9 := Tryd.zeroValue9
  t37 := Tryd.underlying65
  a37 := Tryd.isAgg65
  z37 := Tryd.sizeOf65
  v37 := Tryd.zeroValue65
  t70 := Tryd.underlying64
  a70 := Tryd.isAgg64
  z70 := Tryd.sizeOf64
  v70 := Tryd.zeroValue64
  t72 := Tryd.underlying67
  a72 := Tryd.isAgg67
  z72 := Tryd.sizeOf67
  v72 := Tryd.zeroValue67
  t127 := Tryd.underlying81
  a127 := Tryd.isAgg81
  z127 := Tryd.sizeOf81
  v127 := Tryd.zeroValue81 }
theorem Tryd.Builder_Extra_169 : Builder.Extra Tryd.prog Tryd.lays169_ren := {
  sizeBuilder := by kernel_rfl
  liesBuilder := by kernel_rfl
  t5 := Tryd.underlying5
  a5 := Tryd.isAgg5
  z5 := Tryd.sizeOf5
  v5 := Tryd.zeroValue5
  infoByte := by kernel_rfl
  cellsByte := by kernel_rfl
  sizeByte := by kernel_rfl
  neB5 := by decide }
def Tryd.lays161_ren : Go.Shelf.Ren := ⟨fun | 161 => 65 | 231 => 79 | 227 => 68 | 233 => 80 | 235 => 81 | 228 => 69 | 197 => 63 | 151 => 87 | 260 => 78 | 152 => 66 | 137 => 82 | 119 => 83 | 224 => 84 | 225 => 85 | 217 => 89 | 266 => 92 | n => n, fun | 9 => 9 | 4 => 4 | 3 => 3 | 5 => 5 | 117 => 89 | 116 => 88 | 0 => 0 | 124 => 95 | 105 => 83 | 21 => 21 | 119 => 102 | 46 => 99 | 139 => 105 | 138 => 104 | n => n, fun | 3 => 1 | 4 => 2 | n => n⟩
theorem Tryd.lays161 : Go.Proofs.Lays.n161 Tryd.prog Tryd.lays161_ren := {
  mixed := by kernel_rfl
  f119 := Tryd.func83.trans (congrArg some (by kernel_rfl))
  f137 := Tryd.func82.trans (congrArg some (by kernel_rfl))
  f151 := Tryd.func87.trans (congrArg some (by kernel_rfl))
  f152 := Tryd.func66.trans (congrArg some (by kernel_rfl))
  f161 := Tryd.func65.trans (congrArg some (by kernel_rfl))
  f197 := Tryd.func63.trans (congrArg some (by kernel_rfl))
  f217 := Tryd.func89.trans (congrArg some (by kernel_rfl))
  f224 := Tryd.func84.trans (congrArg some (by kernel_rfl))
  f225 := Tryd.func85.trans (congrArg some (by kernel_rfl))
  f227 := Tryd.func68.trans (congrArg some (by kernel_rfl))
  f228 := Tryd.func69.trans (congrArg some (by kernel_rfl))
  f231 := Tryd.func79.trans (congrArg some (by kernel_rfl))
  f233 := Tryd.func80.trans (congrArg some (by kernel_rfl))
  f235 := Tryd.func81.trans (congrArg some (by kernel_rfl))
  f260 := Tryd.func78.trans (congrArg some (by kernel_rfl))
  f266 := Tryd.func92.trans (congrArg some (by kernel_rfl))
  t0 := Tryd.underlying0
  a0 := Tryd.isAgg0
  z0 := Tryd.sizeOf0
  v0 := Tryd.zeroValue0
  t3 := Tryd.underlying3
  a3 := Tryd.isAgg3
  z3 := Tryd.sizeOf3
  v3 := Tryd.zeroValue3
  t4 := Tryd.underlying4
  a4 := Tryd.isAgg4
  z4 := Tryd.sizeOf4
  v4 := Tryd.zeroValue4
  t5 := Tryd.underlying5
  a5 := Tryd.isAgg5
  z5 := Tryd.sizeOf5
  v5 := Tryd.zeroValue5
  t9 := Tryd.underlying9
  a9 := Tryd.isAgg9
  z9 := Tryd.sizeOf9
  v9 := Tryd.zeroValue9
  t21 := Tryd.underlying21
  a21 := Tryd.isAgg21
  z21 := Tryd.sizeOf21
  v21 := Tryd.zeroValue21
  t46 := Tryd.underlying99
  a46 := Tryd.isAgg99
  z46 := Tryd.sizeOf99
  v46 := Tryd.zeroValue99
  t105 := Tryd.underlying83
  a105 := Tryd.isAgg83
  z105 := Tryd.sizeOf83
  v105 := Tryd.zeroValue83
  t116 := Tryd.underlying88
  a116 := Tryd.isAgg88
  z116 := Tryd.sizeOf88
  t117 := Tryd.underlying89
  a117 := Tryd.isAgg89
  z117 := Tryd.sizeOf89
  v117 := Tryd.zeroValue89
  t119 := Tryd.underlying102
  a119 := Tryd.isAgg102
  z119 := Tryd.sizeOf102
  t124 := Tryd.underlying95
  a124 := Tryd.isAgg95
  z124 := Tryd.sizeOf95
  v124 := Tryd.zeroValue95
  t138 := Tryd.underlying104
  a138 := Tryd.isAgg104
  z138 := Tryd.sizeOf104
  v138 := Tryd.zeroValue104
  t139 := Tryd.underlying105
  a139 := Tryd.isAgg105
  z139 := Tryd.sizeOf105
  v139 := Tryd.zeroValue105
  g3 := by kernel_rfl
  g4 := by kernel_rfl }
def Tryd.lays162_ren : Go.Shelf.Ren := ⟨fun | 162 => 59 | 232 => 71 | 227 => 68 | 234 => 72 | 236 => 73 | 228 => 69 | 271 => 86 | 151 => 87 | 120 => 91 | 197 => 63 | 152 => 66 | 260 => 78 | 137 => 82 | 119 => 83 | 224 => 84 | 225 => 85 | 217 => 89 | 266 => 92 | n => n, fun | 9 => 9 | 4 => 4 | 3 => 3 | 5 => 5 | 117 => 89 | 116 => 88 | 0 => 0 | 124 => 95 | 21 => 21 | 105 => 83 | 46 => 99 | 119 => 102 | 139 => 105 | 138 => 104 | n => n, fun | 3 => 1 | 4 => 2 | n => n⟩
theorem Tryd.lays162 : Go.Proofs.Lays.n162 Tryd.prog Tryd.lays162_ren := {
  mixed := by kernel_rfl
  f119 := Tryd.func83.trans (congrArg some (by kernel_rfl))
  f120 := Tryd.func91.trans (congrArg some (by kernel_rfl))
  f137 := Tryd.func82.trans (congrArg some (by kernel_rfl))
  f151 := Tryd.func87.trans (congrArg some (by kernel_rfl))
  f152 := Tryd.func66.trans (congrArg some (by kernel_rfl))
  f162 := Tryd.func59.trans (congrArg some (by kernel_rfl))
  f197 := Tryd.func63.trans (congrArg some (by kernel_rfl))
  f217 := Tryd.func89.trans (congrArg some (by kernel_rfl))
  f224 := Tryd.func84.trans (congrArg some (by kernel_rfl))
  f225 := Tryd.func85.trans (congrArg some (by kernel_rfl))
  f227 := Tryd.func68.trans (congrArg some (by kernel_rfl))
  f228 := Tryd.func69.trans (congrArg some (by kernel_rfl))
  f232 := Tryd.func71.trans (congrArg some (by kernel_rfl))
  f234 := Tryd.func72.trans (congrArg some (by kernel_rfl))
  f236 := Tryd.func73.trans (congrArg some (by kernel_rfl))
  f260 := Tryd.func78.trans (congrArg some (by kernel_rfl))
  f266 := Tryd.func92.trans (congrArg some (by kernel_rfl))
  f271 := Tryd.func86.trans (congrArg some (by kernel_rfl))
  t0 := Tryd.underlying0
  a0 := Tryd.isAgg0
  z0 := Tryd.sizeOf0
  v0 := Tryd.zeroValue0
  t3 := Tryd.underlying3
  a3 := Tryd.isAgg3
  z3 := Tryd.sizeOf3
  v3 := Tryd.zeroValue3
  t4 := Tryd.underlying4
  a4 := Tryd.isAgg4
  z4 := Tryd.sizeOf4
  v4 := Tryd.zeroValue4
  t5 := Tryd.underlying5
  a5 := Tryd.isAgg5
  z5 := Tryd.sizeOf5
  v5 := Tryd.zeroValue5
  t9 := Tryd.underlying9
  a9 := Tryd.isAgg9
  z9 := Tryd.sizeOf9
  v9 := Tryd.zeroValue9
  t21 := Tryd.underlying21
  a21 := Tryd.isAgg21
  z21 := Tryd.sizeOf21
  v21 := Tryd.zeroValue21
  t46 := Tryd.underlying99
  a46 := Tryd.isAgg99
  z46 := Tryd.sizeOf99
  v46 := Tryd.zeroValue99
  t105 := Tryd.underlying83
  a105 := Tryd.isAgg83
  z105 := Tryd.sizeOf83
  v105 := Tryd.zeroValue83
  t116 := Tryd.underlying88
  a116 := Tryd.isAgg88
  z116 := Tryd.sizeOf88
  t117 := Tryd.underlying89
  a117 := Tryd.isAgg89
  z117 := Tryd.sizeOf89
  v117 := Tryd.zeroValue89
  t119 := Tryd.underlying102
  a119 := Tryd.isAgg102
  z119 := Tryd.sizeOf102
  t124 := Tryd.underlying95
  a124 := Tryd.isAgg95
  z124 := Tryd.sizeOf95
  v124 := Tryd.zeroValue95
  t138 := Tryd.underlying104
  a138 := Tryd.isAgg104
  z138 := Tryd.sizeOf104
  v138 := Tryd.zeroValue104
  t139 := Tryd.underlying105
  a139 := Tryd.isAgg105
  z139 := Tryd.sizeOf105
  v139 := Tryd.zeroValue105
  g3 := by kernel_rfl
  g4 := by kernel_rfl }
def Tryd.lays155_ren : Go.Shelf.Ren := ⟨fun | 155 => 29 | 154 => 48 | 138 => 60 | 165 => 61 | 143 => 62 | 166 => 40 | 197 => 63 | 169 => 41 | 195 => 74 | 218 => 75 | 240 => 58 | 241 => 76 | 219 => 77 | 260 => 78 | 276 => 70 | 277 => 88 | 217 => 89 | 225 => 85 | 224 => 84 | 267 => 90 | 266 => 92 | 314 => 93 | n => n, fun | 9 => 9 | 3 => 3 | 4 => 4 | 72 => 67 | 0 => 0 | 76 => 70 | 105 => 83 | 21 => 21 | 5 => 5 | 70 => 64 | 20 => 20 | 37 => 65 | 75 => 69 | 127 => 81 | 164 => 91 | 46 => 99 | 119 => 102 | 139 => 105 | 138 => 104 | 146 => 107 | 51 => 106 | 80 => 72 | n => n, fun | 1 => 0 | 3 => 1 | 4 => 2 | n => n⟩
theorem Tryd.lays155 : Go.Proofs.Lays.n155 Tryd.prog Tryd.lays155_ren := {
  mixed := by kernel_rfl
  f138 := Tryd.func60.trans (congrArg some (by kernel_rfl))
  f143 := Tryd.func62.trans (congrArg some (by kernel_rfl))
  f154 := Tryd.func48.trans (congrArg some (by kernel_rfl))
  f155 := Tryd.func29.trans (congrArg some (by kernel_rfl))
  f165 := Tryd.func61.trans (congrArg some (by kernel_rfl))
  f166 := Tryd.func40.trans (congrArg some (by kernel_rfl))
  f169 := Tryd.func41.trans (congrArg some (by kernel_rfl))
  f195 := Tryd.func74.trans (congrArg some (by kernel_rfl))
  f197 := Tryd.func63.trans (congrArg some (by kernel_rfl))
  f217 := Tryd.func89.trans (congrArg some (by kernel_rfl))
  f218 := Tryd.func75.trans (congrArg some (by kernel_rfl))
  f219 := Tryd.func77.trans (congrArg some (by kernel_rfl))
  f224 := Tryd.func84.trans (congrArg some (by kernel_rfl))
  f225 := Tryd.func85.trans (congrArg some (by kernel_rfl))
  f240 := Tryd.func58.trans (congrArg some (by kernel_rfl))
  f241 := Tryd.func76.trans (congrArg some (by kernel_rfl))
  f260 := Tryd.func78.trans (congrArg some (by kernel_rfl))
  f266 := Tryd.func92.trans (congrArg some (by kernel_rfl))
  f267 := Tryd.func90.trans (congrArg some (by kernel_rfl))
  f276 := Tryd.func70.trans (congrArg some (by kernel_rfl))
  f277 := Tryd.func88.trans (congrArg some (by kernel_rfl))
  f314 := Tryd.func93.trans (congrArg some (by kernel_rfl))
  t0 := Tryd.underlying0
  a0 := Tryd.isAgg0
  z0 := Tryd.sizeOf0
  v0 := Tryd.zeroValue0
  t3 := Tryd.underlying3
  a3 := Tryd.isAgg3
  z3 := Tryd.sizeOf3
  v3 := Tryd.zeroValue3
  t4 := Tryd.underlying4
  a4 := Tryd.isAgg4
  z4 := Tryd.sizeOf4
  v4 := Tryd.zeroValue4
  t5 := Tryd.underlying5
  a5 := Tryd.isAgg5
  z5 := Tryd.sizeOf5
  v5 := Tryd.zeroValue5
  t9 := Tryd.underlying9
  a9 := Tryd.isAgg9
  z9 := Tryd.sizeOf9
  v9 := Tryd.zeroValue9
  t20 := Tryd.underlying20
  a20 := Tryd.isAgg20
  z20 := Tryd.sizeOf20
  v20 := Tryd.zeroValue20
  t21 := Tryd.underlying21
  a21 := Tryd.isAgg21
  z21 := Tryd.sizeOf21
  v21 := Tryd.zeroValue21
  t37 := Tryd.underlying65
  a37 := Tryd.isAgg65
  z37 := Tryd.sizeOf65
  v37 := Tryd.zeroValue65
  t46 := Tryd.underlying99
  a46 := Tryd.isAgg99
  z46 := Tryd.sizeOf99
  v46 := Tryd.zeroValue99
  t51 := Tryd.underlying106
  a51 := Tryd.isAgg106
  z51 := Tryd.sizeOf106
  v51 := Tryd.zeroValue106
  t70 := Tryd.underlying64
  a70 := Tryd.isAgg64
  z70 := Tryd.sizeOf64
  v70 := Tryd.zeroValue64
  t72 := Tryd.underlying67
  a72 := Tryd.isAgg67
  z72 := Tryd.sizeOf67
  v72 := Tryd.zeroValue67
  t75 := Tryd.underlying69
  a75 := Tryd.isAgg69
  z75 := Tryd.sizeOf69
  v75 := Tryd.zeroValue69
  t76 := Tryd.underlying70
  a76 := Tryd.isAgg70
  z76 := Tryd.sizeOf70
  v76 := Tryd.zeroValue70
  t105 := Tryd.underlying83
  a105 := Tryd.isAgg83
  z105 := Tryd.sizeOf83
  v105 := Tryd.zeroValue83
  t119 := Tryd.underlying102
  a119 := Tryd.isAgg102
  z119 := Tryd.sizeOf102
  t127 := Tryd.underlying81
  a127 := Tryd.isAgg81
  z127 := Tryd.sizeOf81
  v127 := Tryd.zeroValue81
  t138 := Tryd.underlying104
  a138 := Tryd.isAgg104
  z138 := Tryd.sizeOf104
  v138 := Tryd.zeroValue104
  t139 := Tryd.underlying105
  a139 := Tryd.isAgg105
  z139 := Tryd.sizeOf105
  v139 := Tryd.zeroValue105
  t146 := Tryd.underlying107
  a146 := Tryd.isAgg107
  z146 := Tryd.sizeOf107
  v146 := Tryd.zeroValue107
  t164 := Tryd.underlying91
  a164 := Tryd.isAgg91
  z164 := Tryd.sizeOf91
  v164 := Tryd.zeroValue91
  g1 := by kernel_rfl
  g3 := by kernel_rfl
  g4 := by kernel_rfl }
theorem Tryd.Builder_Extra_155 : Builder.Extra Tryd.prog Tryd.lays155_ren := {
  sizeBuilder := by kernel_rfl
  liesBuilder := by kernel_rfl
  t5 := Tryd.underlying5
  a5 := Tryd.isAgg5
  z5 := Tryd.sizeOf5
  v5 := Tryd.zeroValue5
  infoByte := by kernel_rfl
  cellsByte := by kernel_rfl
  sizeByte := by kernel_rfl
  neB5 := by decide }
open Go.RowKit Go.Lib in
/-- strings.ReplaceAll: "ReplaceAll returns a copy of the string s with all non-overlapping instances of old replaced by new.": AT AN old THAT IS NOT EMPTY: 'Lib.replaceAll s old new'. (LAID: no walk: one application.) -/
theorem Tryd.strings_ReplaceAll (s old new : ByteArray) (m : Int) (w : World) (hs : s.size < 4294967281) (hm : w.cell? ⟨0, 0, none⟩ = some (.int .i64 m)) (h1 : 1 ≤ old.size) (hlen : s.size + Lib.countB s old * new.size ≤ 140737488355328) :
    Calls Tryd.prog 29 #[.string s, .string old, .string new] w fun e w' =>
      e = .returned (.string ⟨(Lib.replaceAll s.data.toList old.data.toList new.data.toList).toArray⟩) ∧ Below w.heap.size w w' := Any.strings_ReplaceAll Tryd.lays155 Tryd.Builder_Extra_155 s old new m w hs hm h1 hlen
def Tryd.lays153_ren : Go.Shelf.Ren := ⟨fun | 153 => 54 | 152 => 66 | 226 => 67 | 227 => 68 | 228 => 69 | 137 => 82 | 119 => 83 | 224 => 84 | 225 => 85 | 217 => 89 | 266 => 92 | n => n, fun | 9 => 9 | 3 => 3 | 4 => 4 | 5 => 5 | 21 => 21 | 117 => 89 | 116 => 88 | 0 => 0 | 46 => 99 | 124 => 95 | n => n, fun | n => n⟩
theorem Tryd.lays153 : Go.Proofs.Lays.n153 Tryd.prog Tryd.lays153_ren := {
  mixed := by kernel_rfl
  f119 := Tryd.func83.trans (congrArg some (by kernel_rfl))
  f137 := Tryd.func82.trans (congrArg some (by kernel_rfl))
  f152 := Tryd.func66.trans (congrArg some (by kernel_rfl))
  f153 := Tryd.func54.trans (congrArg some (by kernel_rfl))
  f217 := Tryd.func89.trans (congrArg some (by kernel_rfl))
  f224 := Tryd.func84.trans (congrArg some (by kernel_rfl))
  f225 := Tryd.func85.trans (congrArg some (by kernel_rfl))
  f226 := Tryd.func67.trans (congrArg some (by kernel_rfl))
  f227 := Tryd.func68.trans (congrArg some (by kernel_rfl))
  f228 := Tryd.func69.trans (congrArg some (by kernel_rfl))
  f266 := Tryd.func92.trans (congrArg some (by kernel_rfl))
  t0 := Tryd.underlying0
  a0 := Tryd.isAgg0
  z0 := Tryd.sizeOf0
  v0 := Tryd.zeroValue0
  t3 := Tryd.underlying3
  a3 := Tryd.isAgg3
  z3 := Tryd.sizeOf3
  v3 := Tryd.zeroValue3
  t4 := Tryd.underlying4
  a4 := Tryd.isAgg4
  z4 := Tryd.sizeOf4
  v4 := Tryd.zeroValue4
  t5 := Tryd.underlying5
  a5 := Tryd.isAgg5
  z5 := Tryd.sizeOf5
  v5 := Tryd.zeroValue5
  t9 := Tryd.underlying9
  a9 := Tryd.isAgg9
  z9 := Tryd.sizeOf9
  v9 := Tryd.zeroValue9
  t21 := Tryd.underlying21
  a21 := Tryd.isAgg21
  z21 := Tryd.sizeOf21
  v21 := Tryd.zeroValue21
  t46 := Tryd.underlying99
  a46 := Tryd.isAgg99
  z46 := Tryd.sizeOf99
  v46 := Tryd.zeroValue99
  t116 := Tryd.underlying88
  a116 := Tryd.isAgg88
  z116 := Tryd.sizeOf88
  t117 := Tryd.underlying89
  a117 := Tryd.isAgg89
  z117 := Tryd.sizeOf89
  v117 := Tryd.zeroValue89
  t124 := Tryd.underlying95
  a124 := Tryd.isAgg95
  z124 := Tryd.sizeOf95
  v124 := Tryd.zeroValue95 }
open Go.RowKit in
/-- strings.TrimRight: "TrimRight returns a slice of the string s, with all trailing Unicode code points contained in cutset removed.": AT A cutset OF ONE ASCII BYTE. The world is as it was. (LAID: no walk: one application.) -/
theorem Tryd.strings_TrimRight_one (s : ByteArray) (c : UInt8) (hc : c.toNat < 128) (w : World) (hs : s.size ≤ 9223372036854775807) :
    Calls Tryd.prog 59 #[.string s, .string ⟨#[c]⟩] w fun e w' => e = .returned (.string ⟨(Lib.trimRightB s.data.toList c).toArray⟩) ∧ w' = w := Any.strings_TrimRight_one Tryd.lays162 s c hc w hs
theorem Tryd.lays166 : Go.Proofs.Lays.n166 Tryd.prog Tryd.lays155_ren := { Tryd.lays155 with }
open Go.RowKit in
theorem Tryd.strings_TrimLeft_set (s cutset : ByteArray) (w : World) (hcs : cutset.size < 4294967281) (hascii : ∀ (j : Nat) b, cutset.data.toList[j]? = some b → b.toNat < 128) :
    Calls Tryd.prog 65 #[.string s, .string cutset] w fun e w' => e = .returned (.string ⟨(Lib.trimLeftS s.data.toList cutset.data.toList).toArray⟩) ∧ Below w.heap.size w w' := Any.strings_TrimLeft_laid Tryd.lays161 (by kernel_rfl) s cutset w hcs hascii
end Go.Proofs

/- strings.SplitSeq at one line feed, walked by hand: the library's own text. -/
namespace Go.Proofs.YtmfkokjbjmahkaaDoor.Hand
open Go Go.RowKit Go.Shelf Go.Proofs.YtmfkokjbjmahkaaDoorW.PrintWords Go.Proofs.YtmfkokjbjmahkaaDoorW.PrintLast Go.Proofs.YtmfkokjbjmahkaaDoorW.PrintMore Go.Proofs.YtmfkokjbjmahkaaDoor.X
set_option linter.unusedVariables false
set_option linter.unusedSimpArgs false

set_option maxHeartbeats 4000000 in
set_option maxRecDepth 100000 in
theorem lite_IndexByte (s : ByteArray) (c : Int) (w : World) :
    Calls Tryd.prog 89 #[.string s, .int .u8 c] w fun e w' => e = .returned (.int .i64 (Lib.indexByte s.data.toList c.toNat.toUInt8)) ∧ w' = w := by
  go_enter Tryd.func89, Tryd.ntmps89
  go_wp2
  rw [run_callFunc_extern (show Tryd.prog.funcs[92]? = some Tryd.f92 from Tryd.func92) (by kernel_rfl) (by kernel_rfl) (by kernel_rfl) (e := Extern.BytealgIndexByte.indexByte) (by kernel_rfl), Lib.run_indexByteString]
  simp only [Result.andThen]
  rw [Oper.upon_value]
  go_wp2
  go_ret
  exact ⟨rfl, rfl⟩
set_option maxHeartbeats 4000000 in
set_option maxRecDepth 100000 in
theorem lite_Index (s : ByteArray) (w : World) :
    Calls Tryd.prog 77 #[.string s, .string ⟨#[10]⟩] w fun e w' => e = .returned (.int .i64 (Lib.indexByte s.data.toList 10)) ∧ w' = w := by
  have h1 : (⟨#[10]⟩ : ByteArray).size = 1 := rfl
  go_enter Tryd.func77, Tryd.ntmps77
  go_wp2_with (go_at_call 89; refine (lite_IndexByte _ _ _).mono ?_; rintro e w' ⟨rfl, rfl⟩)
  all_goals go_ret
  · have h2 : ([10] == s.toList) = true := by assumption
    have h3 : s.data.toList = [10] := by rw [← ByteArray.toList_eq]; exact (eq_of_beq h2).symm
    exact ⟨by rw [h3]; rfl, rfl⟩
  · exact ⟨rfl, rfl⟩
set_option maxHeartbeats 4000000 in
set_option maxRecDepth 100000 in
theorem str_Index (s : ByteArray) (w : World) :
    Calls Tryd.prog 62 #[.string s, .string ⟨#[10]⟩] w fun e w' => e = .returned (.int .i64 (Lib.indexByte s.data.toList 10)) ∧ w' = w := by
  go_enter Tryd.func62, Tryd.ntmps62
  go_wp2_with (go_at_call 77; refine (lite_Index _ _).mono ?_; rintro e w' ⟨rfl, rfl⟩)
  go_ret
  exact ⟨rfl, rfl⟩
/-- The world behind strings.SplitSeq: three variables. -/
def splitW (s : ByteArray) (w : World) : World := ((w.alloc (.cells #[.string s] 9)).alloc (.cells #[.string ⟨#[10]⟩] 9)).alloc (.cells #[.int .i64 0] 3)
def splitV (g : Nat) : Value := .func (.func 64) #[] #[.pointer (some ⟨g + 1, 0, none⟩), .pointer (some ⟨g, 0, none⟩), .pointer (some ⟨g + 1 + 1, 0, none⟩)]
set_option maxHeartbeats 4000000 in
set_option maxRecDepth 100000 in
theorem split_seq (s : ByteArray) (w : World) :
    Calls Tryd.prog 50 #[.string s, .string ⟨#[10]⟩, .int .i64 0] w fun e w' => e = .returned (splitV w.heap.size) ∧ w' = splitW s w := by
  have hmf : ∀ (fn : Fn) (first cap : Array Value) (w : World), (Instr.makeFunc fn first cap).run Tryd.prog w = .ok (.func fn first cap) w := fun _ _ _ _ => rfl
  go_enter Tryd.func50, Tryd.ntmps50
  go_wp2
  go_ret
  exact ⟨rfl, rfl⟩
set_option maxHeartbeats 4000000 in
set_option maxRecDepth 100000 in
theorem Split_Seq (s : ByteArray) (w : World) :
    Calls Tryd.prog 31 #[.string s, .string ⟨#[10]⟩] w fun e w' => e = .returned (splitV w.heap.size) ∧ w' = splitW s w := by
  go_enter Tryd.func31, Tryd.ntmps31
  go_wp2_with (go_at_call 50; refine (split_seq _ _).mono ?_; rintro e w' ⟨rfl, rfl⟩)
  go_ret
  exact ⟨rfl, rfl⟩
/-- The variables of the iterator, as they stand when r is left. -/
def SplitAt (g : Nat) (r : ByteArray) (W : World) : Prop :=
  W.heap[g]? = some (.cells #[.string r] 9 (0, 0)) ∧ W.heap[g + 1]? = some (.cells #[.string ⟨#[10]⟩] 9 (0, 0)) ∧ W.heap[g + 1 + 1]? = some (.cells #[.int .i64 0] 3 (0, 0))
/-- A text's pieces, at line feeds. -/
def nextLf (s : ByteArray) : Int := Lib.indexByte s.data.toList 10
def piecesN : Nat → ByteArray → List ByteArray
  | 0, s => [s]
  | n + 1, s => if nextLf s < 0 then [s] else s.extract 0 (nextLf s).toNat :: piecesN n (s.extract ((nextLf s).toNat + 1) s.size)
def pieces (s : ByteArray) : List ByteArray := piecesN s.size s
theorem nextLf_lt (s : ByteArray) : nextLf s < s.size ∨ nextLf s < 0 := by
  unfold nextLf
  have h : ∀ l : List UInt8, Lib.indexByte l 10 < l.length ∨ Lib.indexByte l 10 < 0 := by
    intro l
    induction l with
    | nil => exact .inr (by decide)
    | cons b l ih =>
      unfold Lib.indexByte
      split
      · exact .inl (by simp)
      · split
        · exact .inr (by decide)
        · rename_i h
          have h2 := Lib.indexByte_ge l 10
          simp only [beq_iff_eq] at h
          simp only [List.length_cons]
          omega
  have := h s.data.toList
  simpa using this
theorem piecesN_enough : ∀ (n m : Nat) (s : ByteArray), s.size ≤ n → s.size ≤ m → piecesN n s = piecesN m s
  | 0, 0, _, _, _ => rfl
  | 0, m + 1, s, h, _ => by
    have := nextLf_lt s
    rw [piecesN, piecesN, if_pos (by omega)]
  | n + 1, 0, s, _, h => by
    have := nextLf_lt s
    rw [piecesN, piecesN, if_pos (by omega)]
  | n + 1, m + 1, s, h1, h2 => by
    rw [piecesN, piecesN]
    split
    · rfl
    · rename_i h
      have := nextLf_lt s
      rw [piecesN_enough n m _ (by rw [ByteArray.size_extract]; omega) (by rw [ByteArray.size_extract]; omega)]
theorem pieces_end {s : ByteArray} (h : nextLf s < 0) : pieces s = [s] := by
  unfold pieces
  cases hs : s.size with
  | zero => rfl
  | succ n => rw [piecesN, if_pos h]
theorem pieces_more {s : ByteArray} (h : 0 ≤ nextLf s) : pieces s = s.extract 0 (nextLf s).toNat :: pieces (s.extract ((nextLf s).toNat + 1) s.size) := by
  have h2 := nextLf_lt s
  unfold pieces
  cases hs : s.size with
  | zero => omega
  | succ n =>
    rw [piecesN, if_neg (by omega), ← hs, piecesN_enough n _ (s.extract ((nextLf s).toNat + 1) s.size) (by rw [ByteArray.size_extract]; omega) (Nat.le_refl _)]
/-- How much is left, told by the world. -/
def leftAt (g : Nat) (W : World) : Nat := match W.cell? ⟨g, 0, none⟩ with
  | some (Value.string r) => r.size
  | _ => 0
theorem leftAt_eq {g : Nat} {r : ByteArray} {W : World} (h : SplitAt g r W) : leftAt g W = r.size := by
  unfold leftAt
  rw [show W.cell? ⟨g, 0, none⟩ = some (Value.string r) from (blk_cell h.1 0).trans rfl]
/-- One value more has come. -/
def cameS (s : List ByteArray × ByteArray) (x : ByteArray) (s' : List ByteArray × ByteArray) : Prop := s' = (s.1 ++ [x], s.2)

set_option maxHeartbeats 8000000 in
set_option maxRecDepth 100000 in
theorem split_iter (n : Nat) (hn : 1 ≤ n) (l g : Nat) (s0 : ByteArray) (J : List ByteArray × ByteArray → World → Prop) (W : World)
    (hread : ∀ s W, J s W → SplitAt g s.2 W) (hset : ∀ pre r r' W, J (pre, r) W → J (pre, r') (W.setCell ⟨g, 0, none⟩ (.string r')))
    (hY : ∀ s x s' W, J s W → cameS s x s' → (∃ t, pieces s0 = s.1 ++ x :: t) → YieldAt Fence.wide (n - 1) Tryd.prog l #[.string x] W fun e W' => e = .returned (.bool true) ∧ J s' W') (h0 : J ([], s0) W) (hs : s0.size ≤ 140737488355328) :
    CallsIn Fence.wide n Tryd.prog 64 #[.func (.yield l) #[] #[], .pointer (some ⟨g + 1, 0, none⟩), .pointer (some ⟨g, 0, none⟩), .pointer (some ⟨g + 1 + 1, 0, none⟩)] W fun e W' => (∃ v, e = .returned v) ∧ ∃ s : List ByteArray × ByteArray, s.1 = pieces s0 ∧ J s W' := by
  refine callsIn_of_wp Tryd.func64 rfl trivial ?_ rfl
  simp only [Tryd.ntmps64, List.size_toArray, List.length_cons, List.length_nil, Nat.reduceAdd, Nat.reduceSub, Array.replicate_succ, Array.replicate_zero, List.push_toArray, List.append_toArray, List.nil_append, List.cons_append]
  have h1 := hread _ _ h0
  have hsep : W.cell? ⟨g + 1, 0, none⟩ = some (.string ⟨#[10]⟩) := (blk_cell h1.2.1 0).trans rfl
  have hsz : (⟨#[10]⟩ : ByteArray).size = 1 := rfl
  gi_wp2
  gi_loopw [7] (fun _ wr => ∃ (pre : List ByteArray) (r : ByteArray), J (pre, r) wr ∧ r.size ≤ s0.size ∧ pre ++ pieces r = pieces s0) (fun _ wr => leftAt g wr)
  case atStart => exact ⟨[], s0, h0, Nat.le_refl _, rfl⟩
  case round =>
    obtain ⟨pre, r, hj, hle, hp⟩ := hrel
    have hc := hread _ _ hj
    have hc0 : wr.cell? ⟨g, 0, none⟩ = some (.string r) := (blk_cell hc.1 0).trans rfl
    have hc1 : wr.cell? ⟨g + 1, 0, none⟩ = some (.string ⟨#[10]⟩) := (blk_cell hc.2.1 0).trans rfl
    have hc2 : wr.cell? ⟨g + 1 + 1, 0, none⟩ = some (.int .i64 0) := (blk_cell hc.2.2 0).trans rfl
    have hidx := str_Index r wr
    rw [show Lib.indexByte r.data.toList 10 = nextLf r from rfl] at hidx
    by_cases hi : nextLf r < 0
    · obtain ⟨fn, tmps, assign, body, hy, hR⟩ := hY (pre, r) r (pre ++ [r], r) wr hj rfl ⟨[], by rw [← hp, pieces_end hi]⟩
      gi_wp2_with (refine ⟨trivial, ?_⟩; gi_at_call 62; refine (callsIn_wide.2 hidx).mono ?_; rintro e w' ⟨rfl, rfl⟩)
      refine hR.mono ?_
      rintro e W3 ⟨rfl, hj3⟩
      gi_wp2
      go_end0
      exact ⟨⟨_, rfl⟩, (pre ++ [r], r), by rw [← hp, pieces_end hi], hj3⟩
    · have hlt := nextLf_lt r
      have c1 : ¬ (nextLf r < 0) := hi
      obtain ⟨fn, tmps, assign, body, hy, hR⟩ := hY (pre, r) (r.extract 0 (nextLf r).toNat) (pre ++ [r.extract 0 (nextLf r).toNat], r) wr hj rfl ⟨_, by rw [← hp, pieces_more (s := r) (by omega)]⟩
      gi_wp2_with (refine ⟨trivial, ?_⟩; gi_at_call 62; refine (callsIn_wide.2 hidx).mono ?_; rintro e w' ⟨rfl, rfl⟩)
      refine hR.mono ?_
      rintro e W3 ⟨rfl, hj3⟩
      have hc3 := hread _ _ hj3
      have hd0 : W3.cell? ⟨g, 0, none⟩ = some (.string r) := (blk_cell hc3.1 0).trans rfl
      have hd1 : W3.cell? ⟨g + 1, 0, none⟩ = some (.string ⟨#[10]⟩) := (blk_cell hc3.2.1 0).trans rfl
      have hf0 := blk_frozen hc3.1 0
      have wi : wrap64 (nextLf r + 1) = nextLf r + 1 := by unfold wrap64; omega
      have d1 : (0 : Int) ≤ nextLf r + 1 := by omega
      have d2 : nextLf r + 1 ≤ (r.size : Int) := by omega
      have ht : (nextLf r + 1).toNat = (nextLf r).toNat + 1 := by omega
      clear ht hidx hy hlt hc0 hc1 hc2
      gi_wp2
      have ht : (nextLf r + 1).toNat = (nextLf r).toNat + 1 := by omega
      refine ⟨⟨pre ++ [r.extract 0 (nextLf r).toNat], r.extract (nextLf r + 1).toNat r.size, hset _ _ _ _ hj3, by rw [ByteArray.size_extract]; omega, ?_⟩, ?_⟩
      · rw [← hp, pieces_more (s := r) (by omega), ht, List.append_assoc]
        rfl
      · rw [leftAt_eq (hread _ _ (hset _ _ _ _ hj3)), leftAt_eq hc, ByteArray.size_extract]
        omega
end Go.Proofs.YtmfkokjbjmahkaaDoor.Hand

/- strings.IndexAny and ContainsAny at some ASCII bytes, of any text: the library's own text, walked by hand where the shelf asks for ASCII. -/
namespace Go.Proofs.YtmfkokjbjmahkaaDoor.Hand
open Go Go.RowKit Go.Shelf Go.Proofs.YtmfkokjbjmahkaaDoorW.PrintWords Go.Proofs.YtmfkokjbjmahkaaDoorW.PrintLast Go.Proofs.YtmfkokjbjmahkaaDoorW.PrintMore Go.Proofs.YtmfkokjbjmahkaaDoor.X
set_option linter.unusedVariables false
set_option linter.unusedSimpArgs false
theorem enc_high (r : Int) (h : 128 ≤ r) : 2 ≤ (Utf8.encode r).size ∧ (Utf8.encode r).size ≤ 4 ∧ ∀ (j : Nat) (b : UInt8), (Utf8.encode r).data.toList[j]? = some b → 128 ≤ b.toNat := by
  unfold Utf8.encode
  generalize hc : (if Utf8.valid r = true then r.toNat else Utf8.runeError) = c
  have h1 : 128 ≤ c := by
    rw [← hc]
    split
    · omega
    · decide
  simp only
  rw [if_neg (by omega)]
  have hv : c ≤ 1114111 := by
    rw [← hc]
    split
    · rename_i hval
      unfold Utf8.valid at hval
      simp at hval
      omega
    · decide
  split
  · refine ⟨by simp [ByteArray.size], by simp [ByteArray.size], fun j b hj => ?_⟩
    match j, hj with
    | 0, hj => simp at hj; subst hj; simp [UInt8.toNat_ofNat]; omega
    | 1, hj => simp at hj; subst hj; simp [UInt8.toNat_ofNat]; omega
    | j + 2, hj => simp at hj
  · split
    · refine ⟨by simp [ByteArray.size], by simp [ByteArray.size], fun j b hj => ?_⟩
      match j, hj with
      | 0, hj => simp at hj; subst hj; simp [UInt8.toNat_ofNat]; omega
      | 1, hj => simp at hj; subst hj; simp [UInt8.toNat_ofNat]; omega
      | 2, hj => simp at hj; subst hj; simp [UInt8.toNat_ofNat]; omega
      | j + 3, hj => simp at hj
    · refine ⟨by simp [ByteArray.size], by simp [ByteArray.size], fun j b hj => ?_⟩
      match j, hj with
      | 0, hj => simp at hj; subst hj; simp [UInt8.toNat_ofNat]; omega
      | 1, hj => simp at hj; subst hj; simp [UInt8.toNat_ofNat]; omega
      | 2, hj => simp at hj; subst hj; simp [UInt8.toNat_ofNat]; omega
      | 3, hj => simp at hj; subst hj; simp [UInt8.toNat_ofNat]; omega
      | j + 4, hj => simp at hj
theorem decode_cont (s : ByteArray) (pos : Nat) (h : pos < s.size) (ha : 128 ≤ (s[pos]'h).toNat) : pos + (Utf8.decode s pos).2 ≤ s.size ∧ ∀ j, pos ≤ j → j < pos + (Utf8.decode s pos).2 → 128 ≤ (s.get! j).toNat := by
  have h0 : s.get! (pos + 0) = s[pos]'h := by
    rw [Nat.add_zero]
    show s.data[pos]! = s.data[pos]'h
    exact getElem!_pos s.data pos h
  have h0' : s.get! pos = s[pos]'h := by simpa using h0
  have hone : pos + 1 ≤ s.size ∧ ∀ j, pos ≤ j → j < pos + 1 → 128 ≤ (s.get! j).toNat := ⟨h, fun j h1 h2 => by
    obtain rfl : j = pos := by omega
    rw [h0']
    exact ha⟩
  have hk : ∀ k, ((pos + k < s.size : Bool) && (s.get! (pos + k)).toNat / 64 == 2) = true → pos + k < s.size ∧ 128 ≤ (s.get! (pos + k)).toNat := by
    intro k hk
    simp at hk
    exact ⟨hk.1, by omega⟩
  unfold Utf8.decode
  simp only [h0]
  rw [if_neg (by omega)]
  split
  · rename_i hc
    simp only [Bool.and_eq_true] at hc
    have h1 := hk 1 (by simpa using hc.2)
    split
    · refine ⟨by omega, fun j hj1 hj2 => ?_⟩
      rcases (show j = pos ∨ j = pos + 1 by simp only at hj2; omega) with rfl | rfl
      · rw [h0']; exact ha
      · exact h1.2
    · exact hone
  · split
    · rename_i hc
      simp only [Bool.and_eq_true] at hc
      have h1 := hk 1 (by simpa using hc.1.2)
      have h2 := hk 2 (by simpa using hc.2)
      split
      · refine ⟨by omega, fun j hj1 hj2 => ?_⟩
        rcases (show j = pos ∨ j = pos + 1 ∨ j = pos + 2 by simp only at hj2; omega) with rfl | rfl | rfl
        · rw [h0']; exact ha
        · exact h1.2
        · exact h2.2
      · exact hone
    · split
      · rename_i hc
        simp only [Bool.and_eq_true] at hc
        have h1 := hk 1 (by simpa using hc.1.1.2)
        have h2 := hk 2 (by simpa using hc.1.2)
        have h3 := hk 3 (by simpa using hc.2)
        split
        · refine ⟨by omega, fun j hj1 hj2 => ?_⟩
          rcases (show j = pos ∨ j = pos + 1 ∨ j = pos + 2 ∨ j = pos + 3 by simp only at hj2; omega) with rfl | rfl | rfl | rfl
          · rw [h0']; exact ha
          · exact h1.2
          · exact h2.2
          · exact h3.2
        · exact hone
      · exact hone
theorem iter_below (w : World) (s : ByteArray) (p : Nat) : Below w.heap.size w (w.iter s p) := Below.refl _ _ |>.alloc (Nat.le_refl _) _
theorem ret_then {K : Act → World → Prop} {Q : Exit → Act → World → Prop} {a : Act} {w : World} : Exit.then K Q .ret a w = Q .ret a w := rfl
theorem ret_inBlock {n : Nat} {Q : Exit → Act → World → Prop} {a : Act} {w : World} : Exit.inBlock n Q .ret a w = Q .ret a w := rfl
theorem idx_none_of {l : List UInt8} {x : UInt8} (h : ∀ b ∈ l, b ≠ x) : Lib.indexByte l x = -1 := by
  induction l with
  | nil => rfl
  | cons b t ih =>
    have hb : b ≠ x := h b (by simp)
    have ih' := ih (fun y hy => h y (by simp [hy]))
    unfold Lib.indexByte
    rw [if_neg (by simpa using hb), ih']
    rfl
set_option maxHeartbeats 4000000 in
set_option maxRecDepth 100000 in
theorem idx_Byte (s : ByteArray) (c : Int) (w : World) :
    Calls Tryd.prog 82 #[.string s, .int .u8 c] w fun e w' => e = .returned (.int .i64 (Lib.indexByte s.data.toList c.toNat.toUInt8)) ∧ w' = w := by
  go_enter Tryd.func82, Tryd.ntmps82
  go_wp2_with (go_at_call 89; refine (lite_IndexByte _ _ _).mono ?_; rintro e w' ⟨rfl, rfl⟩)
  go_ret
  exact ⟨rfl, rfl⟩
set_option maxHeartbeats 4000000 in
set_option maxRecDepth 100000 in
theorem valid_Rune (r : Int) (w : World) :
    Calls Tryd.prog 83 #[.int .i32 r] w fun e w' => (e = .returned (.bool true) ∨ e = .returned (.bool false)) ∧ w' = w := by
  go_enter Tryd.func83, Tryd.ntmps83
  go_wp2
  all_goals go_ret
  all_goals first | exact ⟨.inl rfl, rfl⟩ | exact ⟨.inr rfl, rfl⟩
set_option maxHeartbeats 8000000 in
set_option maxRecDepth 100000 in
/-- A rune that is no ASCII is not in a text that is. -/
theorem idx_Rune_big (s : ByteArray) (hs : s.size ≤ 1000) (has : ∀ (j : Nat) b, s.data.toList[j]? = some b → b.toNat < 128) (r : Int) (h0 : 128 ≤ r) (w : World) :
    Calls Tryd.prog 66 #[.string s, .int .i32 r] w fun e w' => e = .returned (.int .i64 (-1)) ∧ Below w.heap.size w w' := by
  have HA : Aside (∀ (j : Nat) b, s.data.toList[j]? = some b → b.toNat < 128) := has
  clear has
  have hc1 : (0 : Int) ≤ r := by omega
  have hc2 : ¬ r < 128 := by omega
  go_enter Tryd.func66, Tryd.ntmps66
  go_wp2_with (go_at_call 83; refine (valid_Rune _ _).mono ?_; rintro e w' ⟨rfl | rfl, rfl⟩)
  · go_loopg [5, 6] s.size (fun g _ _ wx => ∃ i : Nat, i + g = s.size ∧ wx = w.iter s i)
    case atStart => exact ⟨0, by omega, rfl⟩
    case round =>
      obtain ⟨i, hig, rfl⟩ := hrel
      cases gk with
      | zero =>
        obtain rfl : i = s.size := by omega
        have hnx := run_next_end (P := Tryd.prog) w s s.size
        go_wp2
        go_ret
        exact ⟨rfl, iter_below w s _⟩
      | succ g =>
        have hi : i < s.size := by omega
        obtain ⟨x, hx⟩ : ∃ x : UInt8, s[i]'hi = x := ⟨_, rfl⟩
        have hx128 : x.toNat < 128 := HA.out i x (by rw [← hx]; exact Lib.data_getElem? s i hi)
        have hnx := fun ty => run_next_ascii (P := Tryd.prog) w s i ty hi (by rw [hx]; exact hx128)
        rw [hx] at hnx
        have hne : ((x.toNat : Int) == 65533) = false := beq_eq_false_iff_ne.2 (by omega)
        clear hx
        go_wp2
        go_roundg g
        case measure => omega
        case rel => exact ⟨i + 1, by omega, rfl⟩
  · obtain ⟨e2, e4, ehi⟩ := enc_high r h0
    have HE := Aside0.mk ehi
    clear ehi
    have t21 := Tryd.underlying21
    have t9 := Tryd.underlying9
    have t5 := Tryd.underlying5
    have t3 := Tryd.underlying3
    obtain ⟨E, hE⟩ : ∃ E, Utf8.encode r = E := ⟨_, rfl⟩
    rw [hE] at HE e2 e4
    obtain ⟨n, hn⟩ : ∃ n, E.size = n + 1 := ⟨E.size - 1, by omega⟩
    have hsz : (E.size : Int) - 1 = n := by omega
    go_step3
    go_wp2
    have hE1 : (E.size : Int) = n + 1 := by omega
    have hn3 : (n : Int) < 4 := by omega
    by_cases hns : n < s.size
    · obtain ⟨x, hx⟩ : ∃ x : UInt8, s[n]'hns = x := ⟨_, rfl⟩
      have hxl : s.data.toList[n]? = some x := by rw [← hx]; exact Lib.data_getElem? s n hns
      have hx128 := HA.out n x hxl
      have hnE : n < E.size := by omega
      obtain ⟨y, hy⟩ : ∃ y : UInt8, E[n]'hnE = y := ⟨_, rfl⟩
      have hyl : E.data.toList[n]? = some y := by rw [← hy]; exact Lib.data_getElem? E n hnE
      have hy128 := HE.out n y hyl
      have hne : ((x.toNat : Int) == (y.toNat : Int)) = false := beq_eq_false_iff_ne.2 (by omega)
      have hc3 : (n : Int) < (s.size : Int) := by omega
      go_loopg [9, 10, 11, 12] 0 (fun g a9 a10 a11 a12 wx => a9 = .int .i64 n ∧ wx = w')
      case atStart => exact ⟨rfl, rfl⟩
      case round =>
        obtain ⟨rfl, rfl⟩ := hrel
        have mixed : Tryd.prog.follows .mixedOrders = true := by kernel_rfl
        have hc4 : (n : Int) < (E.size : Int) := by omega
        have hc5 : (0 : Int) ≤ (n : Int) := by omega
        have hc6 : (n : Int) + 1 ≤ (s.size : Int) := by omega
        have hc7 : (0 : Int) ≤ (n : Int) + 1 := by omega
        go_wp2
        go_step3
        go_wp2
        go_region_o
        go_wp2
        have hwr1 : IntKind.i64.wrap ((n : Int) + 1) = (n : Int) + 1 := IntWalk.i64_in _ (by omega)
        go_region_with_o (go_at_call 82; refine (idx_Byte _ _ _).mono ?_; rintro e w'' ⟨rfl, rfl⟩)
        have hidx : Lib.indexByte (List.take (s.size - (n + 1)) (List.drop (n + 1) s.data.toList)) y = -1 := idx_none_of (fun b hb e => by
          have hb' := List.mem_of_mem_drop (List.mem_of_mem_take hb)
          obtain ⟨j, hj⟩ := List.getElem?_of_mem hb'
          have := HA.out j b hj
          rw [e] at this
          omega)
        go_wp2
        simp only [Exit.noGoto_ret, ret_then, ret_inBlock]
        go_ret
        exact ⟨rfl, pw_below_drewN (Below.refl _ _) 2⟩
    · have hc3 : ¬ (n : Int) < (s.size : Int) := by omega
      go_loopg [9, 10, 11, 12] 0 (fun g a9 a10 a11 a12 wx => a9 = .int .i64 n ∧ wx = w')
      case atStart => exact ⟨rfl, rfl⟩
      case round =>
        obtain ⟨rfl, rfl⟩ := hrel
        go_wp2
        go_ret
        exact ⟨rfl, Below.refl _ _⟩
  · go_ret
    exact ⟨rfl, Below.refl _ _⟩

set_option maxHeartbeats 4000000 in
set_option maxRecDepth 100000 in
theorem idx_Rune_ascii (s : ByteArray) (r : Int) (h0 : 0 ≤ r) (h1 : r < 128) (w : World) :
    Calls Tryd.prog 66 #[.string s, .int .i32 r] w fun e w' => e = .returned (.int .i64 (Lib.indexByte s.data.toList r.toNat.toUInt8)) ∧ w' = w := by
  have t21 := Tryd.underlying21
  have t5 := Tryd.underlying5
  go_enter Tryd.func66, Tryd.ntmps66
  go_wp2_with (go_at_call 82; refine (idx_Byte _ _ _).mono ?_; rintro e w' ⟨rfl, rfl⟩)
  go_ret
  exact ⟨rfl, rfl⟩
set_option maxHeartbeats 4000000 in
set_option maxRecDepth 100000 in
theorem should_set (n : Int) (w : World) :
    Calls Tryd.prog 67 #[.int .i64 n] w fun e w' => e = .returned (.bool (decide (8 < n))) ∧ w' = w := by
  go_enter Tryd.func67, Tryd.ntmps67
  go_wp2
  go_ret
  exact ⟨rfl, rfl⟩
set_option maxHeartbeats 8000000 in
set_option maxRecDepth 100000 in
/-- Some ASCII bytes, sought in a short text, whatever it is. -/
theorem idx_Any_short (s chars : ByteArray) (w : World) (h2 : 2 ≤ chars.size) (hcs : chars.size ≤ 1000) (h8 : s.size ≤ 8) (hac : ∀ (j : Nat) b, chars.data.toList[j]? = some b → b.toNat < 128) :
    Calls Tryd.prog 54 #[.string s, .string chars] w fun e w' => e = .returned (.int .i64 (Lib.indexAny s.data.toList chars.data.toList)) ∧ Below w.heap.size w w' := by
  have HA : Aside (∀ (j : Nat) b, chars.data.toList[j]? = some b → b.toNat < 128) := hac
  clear hac
  have hemp : chars.toList.isEmpty = false := by
    rw [Lib.toList_data]
    cases h : chars.data.toList with
    | nil => have := Lib.size_eq chars; rw [h, List.length_nil] at this; omega
    | cons _ _ => rfl
  have hn1 : ((chars.size : Int) == 1) = false := beq_eq_false_iff_ne.2 (by omega)
  have h8z : decide ((8 : Int) < (s.size : Int)) = false := decide_eq_false (by omega)
  go_enter Tryd.func54, Tryd.ntmps54
  go_wp2_with (go_at_call 67; refine (should_set _ _).mono ?_; rintro e w' ⟨rfl, hw⟩; rw [hw, h8z])
  go_loopg [9, 10] s.size (fun g _ _ wx => ∃ i : Nat, i + g = s.size ∧ wx.heap[w.heap.size]? = some (.stringIter s i) ∧ Below w.heap.size w wx ∧ Lib.NoAny s.data.toList chars.data.toList i)
  case atStart => exact ⟨0, by omega, World.iter_heap w s 0, iter_below w s 0, Lib.NoAny.zero _ _⟩
  case round =>
    obtain ⟨i, hig, hk, hbel, hno⟩ := hrel
    have HN : Aside (Lib.NoAny s.data.toList chars.data.toList i) := hno
    have HB := Aside0.mk hbel
    have HK := Aside0.mk hk
    clear hno hbel
    cases gk with
    | zero =>
      obtain rfl : i = s.size := by omega
      have hnx := fun ty => Lib.run_next_end_at (P := Tryd.prog) wr w.heap.size s s.size ty hk (Nat.lt_irrefl _)
      clear hk
      go_wp2
      go_ret
      exact ⟨by rw [Lib.indexAny_none (by rw [← Lib.size_eq]; exact HN.out)]; rfl, HB.out⟩
    | succ g =>
      have hi : i < s.size := by omega
      obtain ⟨x, hx⟩ : ∃ x : UInt8, s[i]'hi = x := ⟨_, rfl⟩
      have hxl : s.data.toList[i]? = some x := by rw [← hx]; exact Lib.data_getElem? s i hi
      by_cases hx128 : x.toNat < 128
      · have hnx := fun ty => Lib.run_next_ascii_at (P := Tryd.prog) wr w.heap.size s i ty hk hi (by rw [hx]; exact hx128)
        rw [hx] at hnx
        have Hx : Aside (s.data.toList[i]? = some x) := hxl
        clear hxl hx hk
        have hcon := Lib.contains_iff_indexByte chars.data.toList x
        have hback : ((x.toNat : Int)).toNat.toUInt8 = x := by simp
        cases hin : chars.data.toList.contains x
        · rw [hin] at hcon
          have hlt : ¬ ((0 : Int) ≤ Lib.indexByte chars.data.toList x) := of_decide_eq_false hcon.symm
          clear hcon
          go_wp2_with (go_at_call 66; refine (idx_Rune_ascii _ _ (by omega) (by omega) _).mono ?_; rintro e w' ⟨rfl, hw⟩; rw [hw, hback])
          go_roundg g
          case measure => omega
          case rel => exact ⟨i + 1, by omega, Lib.iterAt_heap _ _ _ _ _ HK.out, Lib.below_iterAt HB.out (Nat.le_refl _) _ _, HN.out.succ Hx.out hin⟩
        · rw [hin] at hcon
          have hge : (0 : Int) ≤ Lib.indexByte chars.data.toList x := of_decide_eq_true hcon.symm
          clear hcon
          go_wp2_with (go_at_call 66; refine (idx_Rune_ascii _ _ (by omega) (by omega) _).mono ?_; rintro e w' ⟨rfl, hw⟩; rw [hw, hback])
          go_ret
          exact ⟨by rw [Lib.indexAny_hit HN.out Hx.out hin]; rfl, Lib.below_iterAt HB.out (Nat.le_refl _) _ _⟩
      · have hx' : 128 ≤ (s[i]'hi).toNat := by rw [hx]; omega
        have hnx := fun ty => Lib.run_next_any_at (P := Tryd.prog) wr w.heap.size s i ty hk hi
        have hdc := decode_cont s i hi hx'
        have hdh := decode_high s i hi hx'
        have HN2 : Aside (Lib.NoAny s.data.toList chars.data.toList (i + (Utf8.decode s i).2)) := fun j b hj hb => by
          by_cases hji : j < i
          · exact HN.out j b hji hb
          · have hjs : j < s.size := by omega
            have h1 := hdc.2 j (by omega) hj
            have h3 : s.get! j = s[j]'hjs := by
              show s.data[j]! = s.data[j]'hjs
              exact getElem!_pos s.data j hjs
            have h4 : s.data.toList[j]? = some (s[j]'hjs) := Lib.data_getElem? s j hjs
            rw [hb] at h4
            rw [h3, ← Option.some.inj h4] at h1
            cases hc : chars.data.toList.contains b with
            | false => rfl
            | true =>
              obtain ⟨m, hm⟩ := List.getElem?_of_mem (List.contains_iff_mem.1 hc)
              have := HA.out m b hm
              omega
        have h01 := hdc.1
        obtain ⟨h02, h03⟩ := hdh
        clear hdc hk hxl hx'
        generalize (Utf8.decode s i).1 = r at hnx h02
        generalize (Utf8.decode s i).2 = d at hnx h01 h03 HN2
        have hneg : ¬ ((0 : Int) ≤ -1) := by decide
        go_wp2_with (go_at_call 66; refine (idx_Rune_big _ hcs HA.out _ (by omega) _).mono ?_; rintro e w2 ⟨rfl, hb⟩; have HB2 := Aside0.mk hb; clear hb)
        go_roundg (s.size - (i + d))
        case measure => omega
        case rel => exact ⟨i + d, by omega, blk_below (Lib.iterAt_heap _ _ _ _ _ HK.out) HB2.out, below_step (Lib.below_iterAt HB.out (Nat.le_refl _) _ _) HB2.out, HN2.out⟩
theorem set_zero (w : World) : (zeroValue 88).run Tryd.prog w = .ok (.agg (Array.replicate 256 (.bool false))) w := by
  have h : (Tryd.prog.info? 88).map (fun i => (i.zero, i.size)) = some (some (.agg (Array.replicate 256 (.bool false))), 256) := by kernel_rfl
  exact (zero_of_info h).1 w
/-- The world behind the set: its block, and the walk's own copy. -/
def setW (c : List UInt8) (w : World) : World := (w.alloc (.cells (Lib.setCells c) 88)).alloc (.cells (Lib.setCells c) 88)
theorem setW_cell (c : List UInt8) (w : World) (x : UInt8) : (setW c w).cell? ⟨w.heap.size + 1, x.toNat, none⟩ = some (.bool (c.contains x)) := by
  unfold setW
  rw [World.cell?_alloc_at _ _ _ _ (by simp), Lib.setCells_at]
theorem setW_store (c : List UInt8) (w : World) : (storeCells ⟨w.heap.size + 1, 0, none⟩ (Lib.setCells c).toList 0).run Tryd.prog ((w.alloc (.cells (Lib.setCells c) 88)).alloc (.cells Tryd.zeroCells88 88)) = .ok () (setW c w) := by
  have h := run_storeCells_new (P := Tryd.prog) (w.alloc (.cells (Lib.setCells c) 88)) 88 Tryd.zeroCells88 (Lib.setCells c) (by rw [Lib.setCells_size]; kernel_rfl) (by rw [Lib.setCells_size]; kernel_rfl) (Lib.setCells_one _)
  unfold setW
  simpa using h
theorem make_set (chars : ByteArray) (w : World) (hcs : chars.size ≤ 1000) (hac : ∀ (j : Nat) b, chars.data.toList[j]? = some b → b.toNat < 128) : Calls Tryd.prog 68 #[.string chars] w fun e w' => e = .returned (.tuple #[.agg (Lib.setCells chars.data.toList), .bool true]) ∧ w' = w.alloc (.cells (Lib.setCells chars.data.toList) 88) :=
  Any.strings_makeASCIISet { Tryd.lays153 with } set_zero (by kernel_rfl) chars w (by omega) hac
theorem in_set (b : Nat) (x : UInt8) (v : Bool) (w : World) (h : w.cell? ⟨b, x.toNat, none⟩ = some (.bool v)) : Calls Tryd.prog 69 #[.pointer (some ⟨b, 0, none⟩), .int .u8 x.toNat] w fun e w' => e = .returned (.bool v) ∧ w' = w :=
  Any.asciiSet_contains { Tryd.lays153 with } b x v w h
set_option maxHeartbeats 8000000 in
set_option maxRecDepth 100000 in
theorem idx_Any_long (s chars : ByteArray) (w : World) (h2 : 2 ≤ chars.size) (hcs : chars.size ≤ 1000) (h8 : 8 < s.size) (hs : s.size ≤ 140737488355328) (hac : ∀ (j : Nat) b, chars.data.toList[j]? = some b → b.toNat < 128) :
    Calls Tryd.prog 54 #[.string s, .string chars] w fun e w' => e = .returned (.int .i64 (Lib.indexAny s.data.toList chars.data.toList)) ∧ w' = setW chars.data.toList w := by
  have hM := Aside0.mk (make_set chars w hcs hac)
  clear hac
  have hne : chars.toList.isEmpty = false := by
    rw [Lib.toList_data]
    cases e : chars.data.toList with
    | nil =>
      have := Lib.size_eq chars
      rw [e, List.length_nil] at this
      omega
    | cons _ _ => rfl
  have hn1 : ((chars.size : Int) == 1) = false := beq_eq_false_iff_ne.2 (by omega)
  have h8z : decide ((8 : Int) < (s.size : Int)) = true := decide_eq_true (by omega)
  have HS := Aside0.mk (setW_store chars.data.toList w)
  have HC := Aside0.mk (setW_cell chars.data.toList w)
  have hsz := Lib.setCells_size chars.data.toList
  go_enter Tryd.func54, Tryd.ntmps54
  go_wp2_with (first
    | (go_at_call 67; refine (should_set _ _).mono ?_; rintro e w' ⟨rfl, hw⟩; rw [hw, h8z])
    | (go_at_call 68; refine hM.out.mono ?_; rintro e w' ⟨rfl, hw⟩; rw [hw]))
  simp only [HS.out, Result.andThen]
  rw [Oper.upon_skip]
  go_wp2
  clear hM HS
  go_loopg [8] s.size (fun g v8 wx => ∃ i : Nat, v8 = .int .i64 i ∧ wx = setW chars.data.toList w ∧ i + g = s.size ∧ Aside0 (Lib.NoAny s.data.toList chars.data.toList i))
  case atStart => exact ⟨0, rfl, rfl, by omega, ⟨Lib.NoAny.zero _ _⟩⟩
  case round =>
    obtain ⟨i, rfl, rfl, hig, HN⟩ := hrel
    by_cases hi : i < s.size
    · obtain ⟨g, rfl⟩ : ∃ g, gk = g + 1 := ⟨gk - 1, by omega⟩
      have hiz : (i : Int) < (s.size : Int) := by omega
      obtain ⟨x, hx⟩ : ∃ x : UInt8, s[i]'hi = x := ⟨_, rfl⟩
      have HX : Aside0 (s.data.toList[i]? = some x) := ⟨by rw [← hx]; exact Lib.data_getElem? s i hi⟩
      have hcx := HC.out x
      cases hin : chars.data.toList.contains x <;> rw [hin] at hcx
      · go_wp2_with (go_at_call 69; refine (in_set _ x _ _ hcx).mono ?_; rintro e w' ⟨rfl, hw⟩; rw [hw])
        go_roundg g
        case measure => omega
        case rel => exact ⟨i + 1, by first | rfl | (simp; done), rfl, by omega, ⟨HN.out.succ HX.out hin⟩⟩
      · go_wp2_with (go_at_call 69; refine (in_set _ x _ _ hcx).mono ?_; rintro e w' ⟨rfl, hw⟩; rw [hw])
        go_ret
        exact ⟨by rw [Lib.indexAny_hit HN.out HX.out hin]; rfl, rfl⟩
    · obtain rfl : i = s.size := by omega
      have hiz : ¬ ((s.size : Int) < (s.size : Int)) := by omega
      go_wp2
      go_ret
      exact ⟨by rw [Lib.indexAny_none (by rw [← Lib.size_eq]; exact HN.out)]; rfl, rfl⟩
/-- strings.IndexAny at two or more ASCII bytes. -/
theorem idx_Any (s chars : ByteArray) (w : World) (h2 : 2 ≤ chars.size) (hcs : chars.size ≤ 1000) (hs : s.size ≤ 140737488355328) (hac : ∀ (j : Nat) b, chars.data.toList[j]? = some b → b.toNat < 128) :
    Calls Tryd.prog 54 #[.string s, .string chars] w fun e w' => e = .returned (.int .i64 (Lib.indexAny s.data.toList chars.data.toList)) ∧ Below w.heap.size w w' := by
  by_cases h8 : s.size ≤ 8
  · exact idx_Any_short s chars w h2 hcs h8 hac
  · refine (idx_Any_long s chars w h2 hcs (by omega) hs hac).mono ?_
    rintro e w' ⟨rfl, rfl⟩
    exact ⟨rfl, below_alloc (below_alloc (Below.refl _ _) _) _⟩
set_option maxHeartbeats 4000000 in
set_option maxRecDepth 100000 in
theorem has_Any (s chars : ByteArray) (w : World) (h2 : 2 ≤ chars.size) (hcs : chars.size ≤ 1000) (hs : s.size ≤ 140737488355328) (hac : ∀ (j : Nat) b, chars.data.toList[j]? = some b → b.toNat < 128) :
    Calls Tryd.prog 35 #[.string s, .string chars] w fun e w' => e = .returned (.bool (Lib.containsAny s.data.toList chars.data.toList)) ∧ Below w.heap.size w w' := by
  have HA : Aside (∀ (j : Nat) b, chars.data.toList[j]? = some b → b.toNat < 128) := hac
  clear hac
  go_enter Tryd.func35, Tryd.ntmps35
  go_wp2_with (go_at_call 54; refine (idx_Any _ _ _ h2 hcs hs HA.out).mono ?_; rintro e w2 ⟨rfl, hb⟩; have HB2 := Aside0.mk hb; clear hb)
  go_ret
  exact ⟨rfl, HB2.out⟩
end Go.Proofs.YtmfkokjbjmahkaaDoor.Hand

/- What package strings answers where package lines asks it: the printed form of the contracts. -/
namespace Go.Proofs.YtmfkokjbjmahkaaDoor.Hand
open Go Go.RowKit Go.Proofs.YtmfkokjbjmahkaaDoorW.PrintWords Go.Proofs.YtmfkokjbjmahkaaDoorW.PrintLast Go.Proofs.YtmfkokjbjmahkaaDoorW.PrintMore
set_option linter.unusedVariables false
def strings_TrimRight.f (s t : ByteArray) : Option ByteArray := if t = ⟨#[92]⟩ ∧ s.size ≤ 9223372036854775807 then some ⟨(Lib.trimRightB s.data.toList 92).toArray⟩ else none
theorem strings_TrimRight.calls (a0 a1 : ByteArray) (r : ByteArray) (w : World) (h : strings_TrimRight.f a0 a1 = some r) :
    Calls Tryd.prog 59 #[.string a0, .string a1] w fun e w' => e = .returned (.string r) ∧ Below w.heap.size w w' := by
  unfold strings_TrimRight.f at h
  split at h
  · rename_i hh
    obtain ⟨rfl, hs⟩ := hh
    obtain rfl := Option.some.inj h
    exact (Tryd.strings_TrimRight_one a0 92 (by decide) w hs).mono fun e w' ⟨h1, h2⟩ => ⟨h1, h2 ▸ Below.refl _ _⟩
  · cases h
def strings_TrimLeft.f (s t : ByteArray) : Option ByteArray := if t = ⟨#[32, 9]⟩ then some ⟨(Lib.trimLeftS s.data.toList [32, 9]).toArray⟩ else none
theorem strings_TrimLeft.calls (a0 a1 : ByteArray) (r : ByteArray) (w : World) (h : strings_TrimLeft.f a0 a1 = some r) :
    Calls Tryd.prog 65 #[.string a0, .string a1] w fun e w' => e = .returned (.string r) ∧ Below w.heap.size w w' := by
  unfold strings_TrimLeft.f at h
  split at h
  · rename_i hh
    subst hh
    obtain rfl := Option.some.inj h
    refine Tryd.strings_TrimLeft_set a0 ⟨#[32, 9]⟩ w (by decide) (fun j b hj => ?_)
    have hm := List.mem_of_getElem? hj
    simp at hm
    rcases hm with rfl | rfl <;> decide
  · cases h
/-- Texts of bytes that strings.IndexAny is asked for. -/
def anyOk (s t : ByteArray) : Prop := 2 ≤ t.size ∧ t.size ≤ 1000 ∧ s.size ≤ 140737488355328 ∧ (t.data.toList.all fun b => decide (b.toNat < 128)) = true
instance (s t : ByteArray) : Decidable (anyOk s t) := inferInstanceAs (Decidable (_ ∧ _ ∧ _ ∧ _))
theorem anyOk.ascii {s t : ByteArray} (h : anyOk s t) : ∀ (j : Nat) b, t.data.toList[j]? = some b → b.toNat < 128 := fun j b hj => by
  have := List.all_eq_true.1 h.2.2.2 b (List.mem_of_getElem? hj)
  simpa using this
def strings_IndexAny.f (s t : ByteArray) : Option Int := if anyOk s t then some (Lib.indexAny s.data.toList t.data.toList) else none
theorem strings_IndexAny.calls (a0 a1 : ByteArray) (r : Int) (w : World) (h : strings_IndexAny.f a0 a1 = some r) :
    Calls Tryd.prog 54 #[.string a0, .string a1] w fun e w' => e = .returned (.int .i64 r) ∧ Below w.heap.size w w' := by
  unfold strings_IndexAny.f at h
  split at h
  · rename_i hh
    obtain rfl := Option.some.inj h
    exact idx_Any a0 a1 w hh.1 hh.2.1 hh.2.2.1 hh.ascii
  · cases h
def strings_ContainsAny.f (s t : ByteArray) : Option Bool := if anyOk s t then some (Lib.containsAny s.data.toList t.data.toList) else none
theorem strings_ContainsAny.calls (a0 a1 : ByteArray) (r : Bool) (w : World) (h : strings_ContainsAny.f a0 a1 = some r) :
    Calls Tryd.prog 35 #[.string a0, .string a1] w fun e w' => e = .returned (.bool r) ∧ Below w.heap.size w w' := by
  unfold strings_ContainsAny.f at h
  split at h
  · rename_i hh
    obtain rfl := Option.some.inj h
    exact has_Any a0 a1 w hh.1 hh.2.1 hh.2.2.1 hh.ascii
  · cases h
def strings_ReplaceAll.f (s o n : ByteArray) : Option ByteArray := if o = ⟨#[34]⟩ ∧ n = ⟨#[34, 34]⟩ ∧ s.size ≤ 1000000 then some ⟨(Lib.replaceAll s.data.toList [34] [34, 34]).toArray⟩ else none
theorem strings_ReplaceAll.calls (a0 a1 a2 : ByteArray) (r : ByteArray) (w : World) (hG : GOK [0] w) (h : strings_ReplaceAll.f a0 a1 a2 = some r) :
    Calls Tryd.prog 29 #[.string a0, .string a1, .string a2] w fun e w' => e = .returned (.string r) ∧ Below w.heap.size w w' := by
  unfold strings_ReplaceAll.f at h
  split at h
  · rename_i hh
    obtain ⟨rfl, rfl, hs⟩ := hh
    obtain rfl := Option.some.inj h
    obtain ⟨m, hm⟩ := hG 0 (by simp)
    have hc := Lib.countB_le ⟨#[34]⟩ (by decide) a0.size a0 (Nat.le_refl _)
    have h2 : (⟨#[34, 34]⟩ : ByteArray).size = 2 := rfl
    exact Tryd.strings_ReplaceAll a0 ⟨#[34]⟩ ⟨#[34, 34]⟩ m w (by omega) hm (by decide) (by rw [h2]; omega)
  · cases h
end Go.Proofs.YtmfkokjbjmahkaaDoor.Hand
