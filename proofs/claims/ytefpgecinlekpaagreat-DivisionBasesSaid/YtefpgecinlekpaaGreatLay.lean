/- The library's sort, laid at this program (written by gen_lay.py). -/
import Derived.Test.YtefpgecinlekpaaGreatZ
import Derived.Test.YtefpgecinlekpaaGreatProg
import Derived.Shelf.SlSortCmp.NoneTotal
import Derived.Shelf.Lay
import Derived.Ground.SlsfProg
namespace Go.Proofs.YtefpgecinlekpaaGreat
open Go.Shelf Go.Proofs
def ren:Shelf.Ren where
 f:=fun x=>match x with
  |14=>150
  |20=>175
  |21=>176
  |22=>177
  |23=>178
  |24=>179
  |25=>180
  |26=>181
  |27=>182
  |46=>201
  |47=>193
  |48=>194
  |49=>202
  |50=>203
  |15=>141
  |57=>210
  |28=>168
  |29=>169
  |n=>n
 t:=fun x=>match x with
  |24=>63
  |22=>29
  |3=>3
  |25=>152
  |4=>4
  |0=>0
  |46=>172
  |45=>171
  |50=>176
  |66=>190
  |39=>149
  |55=>148
  |70=>194
  |76=>205
  |77=>206
  |53=>161
  |5=>5
  |9=>9
  |n=>n
 g:=fun x=>x
theorem sortT:SlLaysF0.n14 Tryz.prog ren where
 mixed:=by kernel_rfl
 f14 := ⟨ "slices.pdqsortCmpFunc[eliminant/api.Term]", by decide, Tryz.func150⟩
 f15:=Tryz.func141
 f20 := ⟨ "slices.insertionSortCmpFunc[eliminant/api.Term]", by decide, Tryz.func175⟩
 f21 := ⟨ "slices.heapSortCmpFunc[eliminant/api.Term]", by decide, Tryz.func176⟩
 f22 := ⟨ "slices.breakPatternsCmpFunc[eliminant/api.Term]", by decide, Tryz.func177⟩
 f23 := ⟨ "slices.choosePivotCmpFunc[eliminant/api.Term]", by decide, Tryz.func178⟩
 f24 := ⟨ "slices.reverseRangeCmpFunc[eliminant/api.Term]", by decide, Tryz.func179⟩
 f25 := ⟨ "slices.partialInsertionSortCmpFunc[eliminant/api.Term]", by decide, Tryz.func180⟩
 f26 := ⟨ "slices.partitionEqualCmpFunc[eliminant/api.Term]", by decide, Tryz.func181⟩
 f27 := ⟨ "slices.partitionCmpFunc[eliminant/api.Term]", by decide, Tryz.func182⟩
 f28:=Tryz.func168
 f29:=Tryz.func169
 f46 := ⟨ "slices.siftDownCmpFunc[eliminant/api.Term]", by decide, Tryz.func201⟩
 f47:=Tryz.func193
 f48:=Tryz.func194
 f49 := ⟨ "slices.medianAdjacentCmpFunc[eliminant/api.Term]", by decide, Tryz.func202⟩
 f50 := ⟨ "slices.medianCmpFunc[eliminant/api.Term]", by decide, Tryz.func203⟩
 f57 := ⟨ "slices.order2CmpFunc[eliminant/api.Term]", by decide, Tryz.func210⟩
 t0:=Tryz.underlying0
 a0:=Tryz.isAgg0
 z0:=Tryz.sizeOf0
 v0:=Tryz.zeroValue0
 t3:=Tryz.underlying3
 a3:=Tryz.isAgg3
 z3:=Tryz.sizeOf3
 v3:=Tryz.zeroValue3
 t4:=Tryz.underlying4
 a4:=Tryz.isAgg4
 z4:=Tryz.sizeOf4
 v4:=Tryz.zeroValue4
 t5:=Tryz.underlying5
 a5:=Tryz.isAgg5
 z5:=Tryz.sizeOf5
 v5:=Tryz.zeroValue5
 t9:=Tryz.underlying9
 a9:=Tryz.isAgg9
 z9:=Tryz.sizeOf9
 v9:=Tryz.zeroValue9
 t22:=Tryz.underlying29
 a22:=Tryz.isAgg29
 z22:=Tryz.sizeOf29
 v22:=Tryz.zeroValue29
 t25:=Tryz.underlying152
 a25:=Tryz.isAgg152
 z25:=Tryz.sizeOf152
 v25:=Tryz.zeroValue152
 t39:=Tryz.underlying149
 a39:=Tryz.isAgg149
 z39:=Tryz.sizeOf149
 v39:=Tryz.zeroValue149
 t45:=Tryz.underlying171
 a45:=Tryz.isAgg171
 z45:=Tryz.sizeOf171
 v45:=Tryz.zeroValue171
 t46:=Tryz.underlying172
 a46:=Tryz.isAgg172
 z46:=Tryz.sizeOf172
 v46:=Tryz.zeroValue172
 t50:=Tryz.underlying176
 a50:=Tryz.isAgg176
 z50:=Tryz.sizeOf176
 v50:=Tryz.zeroValue176
 t53:=Tryz.underlying161
 a53:=Tryz.isAgg161
 z53:=Tryz.sizeOf161
 v53:=Tryz.zeroValue161
 t55:=Tryz.underlying148
 a55:=Tryz.isAgg148
 z55:=Tryz.sizeOf148
 v55:=Tryz.zeroValue148
 t66:=Tryz.underlying190
 a66:=Tryz.isAgg190
 z66:=Tryz.sizeOf190
 v66:=Tryz.zeroValue190
 t70:=Tryz.underlying194
 a70:=Tryz.isAgg194
 z70:=Tryz.sizeOf194
 v70:=Tryz.zeroValue194
 t76:=Tryz.underlying205
 a76:=Tryz.isAgg205
 z76:=Tryz.sizeOf205
 v76:=Tryz.zeroValue205
 t77:=Tryz.underlying206
 a77:=Tryz.isAgg206
 z77:=Tryz.sizeOf206
 v77:=Tryz.zeroValue206
def renM:Shelf.Ren where
 f:=fun x=>match x with
  |14=>140
  |20=>160
  |21=>161
  |22=>162
  |23=>163
  |24=>164
  |25=>165
  |26=>166
  |27=>167
  |46=>192
  |49=>195
  |50=>196
  |57=>209
  |n=>ren.f n
 t:=fun x=>match x with
  |24=>51
  |22=>48
  |25=>75
  |n=>ren.t n
 g:=fun x=>x
theorem Tz:SlLaysF0.n14 Tryz.prog renM:=
 {sortT with
  f14 := ⟨"slices.pdqsortCmpFunc[eliminant/api.Mono]", by decide, Tryz.func140⟩
  f20 := ⟨"slices.insertionSortCmpFunc[eliminant/api.Mono]", by decide, Tryz.func160⟩
  f21 := ⟨"slices.heapSortCmpFunc[eliminant/api.Mono]", by decide, Tryz.func161⟩
  f22 := ⟨"slices.breakPatternsCmpFunc[eliminant/api.Mono]", by decide, Tryz.func162⟩
  f23 := ⟨"slices.choosePivotCmpFunc[eliminant/api.Mono]", by decide, Tryz.func163⟩
  f24 := ⟨"slices.reverseRangeCmpFunc[eliminant/api.Mono]", by decide, Tryz.func164⟩
  f25 := ⟨"slices.partialInsertionSortCmpFunc[eliminant/api.Mono]", by decide, Tryz.func165⟩
  f26 := ⟨"slices.partitionEqualCmpFunc[eliminant/api.Mono]", by decide, Tryz.func166⟩
  f27 := ⟨"slices.partitionCmpFunc[eliminant/api.Mono]", by decide, Tryz.func167⟩
  f46 := ⟨"slices.siftDownCmpFunc[eliminant/api.Mono]", by decide, Tryz.func192⟩
  f49 := ⟨"slices.medianAdjacentCmpFunc[eliminant/api.Mono]", by decide, Tryz.func195⟩
  f50 := ⟨"slices.medianCmpFunc[eliminant/api.Mono]", by decide, Tryz.func196⟩
  f57 := ⟨"slices.order2CmpFunc[eliminant/api.Mono]", by decide, Tryz.func209⟩
  f15:=Tryz.func141
  f28:=Tryz.func168
  f29:=Tryz.func169
  f47:=Tryz.func193
  f48:=Tryz.func194
  t22:=Tryz.underlying48
  a22:=Tryz.isAgg48
  z22:=Tryz.sizeOf48
  v22:=Tryz.zeroValue48
  t25:=Tryz.underlying75
  a25:=Tryz.isAgg75
  z25:=Tryz.sizeOf75
  v25:=Tryz.zeroValue75}
end Go.Proofs.YtefpgecinlekpaaGreat
