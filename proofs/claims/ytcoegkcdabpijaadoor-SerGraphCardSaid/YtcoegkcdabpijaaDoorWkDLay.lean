/- What is known of the functions of the library that sort. -/
import Derived.Test.YtcoegkcdabpijaaDoorBase1
import Derived.Shelf.SlicesG.CompactI
import Derived.Shelf.SortG.Plain
import Derived.Shelf.SortG.SortNone
import Derived.Test.YtcoegkcdabpijaaDoorRows
import Derived.KernelRfl
namespace Go.Proofs
open Go.Shelf
def Tryd.layCm76_ren : Go.Shelf.Ren := ⟨fun | 43 => 76 | n => n, fun | 22 => 26 | 23 => 3 | 3 => 3 | 4 => 4 | 0 => 0 | n => n, fun | n => n⟩
theorem Tryd.layCm76 : Go.Proofs.SlLaysN.n43 Tryd.prog Tryd.layCm76_ren := {
  mixed := by kernel_rfl
  f43 := ⟨Tryd.f76.name, by decide, Tryd.func76.trans (congrArg some (by kernel_rfl))⟩
  t0 := Tryd.underlying0
  a0 := Tryd.isAgg0
  z0 := Tryd.sizeOf0
  v0 := Tryd.zeroValue0
  t3 := Tryd.underlying3
  a3 := Tryd.isAgg3
  z3 := Tryd.sizeOf3
  v3 := Tryd.zeroValue3
  t4 := Tryd.underlying4
  a4 := Tryd.isAgg4
  z4 := Tryd.sizeOf4
  v4 := Tryd.zeroValue4
  t22 := Tryd.underlying26
  a22 := Tryd.isAgg26
  z22 := Tryd.sizeOf26
  v22 := Tryd.zeroValue26
  t23 := Tryd.underlying3
  a23 := Tryd.isAgg3
  z23 := Tryd.sizeOf3
  v23 := Tryd.zeroValue3
  i23 := by kernel_rfl }
def Tryd.laySo75_ren : Go.Shelf.Ren := ⟨fun | 53 => 75 | 64 => 79 | 63 => 78 | 78 => 90 | 79 => 91 | 70 => 81 | 71 => 82 | 72 => 83 | 73 => 84 | 74 => 85 | 75 => 86 | 59 => 87 | 76 => 88 | 77 => 89 | 88 => 92 | 89 => 93 | 90 => 94 | 91 => 95 | 92 => 96 | 68 => 97 | 96 => 98 | n => n, fun | 22 => 26 | 23 => 3 | 3 => 3 | 51 => 125 | 0 => 0 | 67 => 138 | 69 => 65 | 4 => 4 | 61 => 131 | 60 => 130 | 44 => 135 | 5 => 5 | 9 => 9 | 75 => 139 | 79 => 143 | 83 => 146 | 84 => 147 | n => n, fun | n => n⟩
theorem Tryd.laySo75 : Go.Proofs.SlLaysN.n53 Tryd.prog Tryd.laySo75_ren := {
  mixed := by kernel_rfl
  f53 := ⟨Tryd.f75.name, by decide, Tryd.func75.trans (congrArg some (by kernel_rfl))⟩
  f59 := ⟨Tryd.f87.name, by decide, Tryd.func87.trans (congrArg some (by kernel_rfl))⟩
  f63 := ⟨Tryd.f78.name, by decide, Tryd.func78.trans (congrArg some (by kernel_rfl))⟩
  f64 := Tryd.func79.trans (congrArg some (by kernel_rfl))
  f68 := ⟨Tryd.f97.name, by decide, Tryd.func97.trans (congrArg some (by kernel_rfl))⟩
  f70 := ⟨Tryd.f81.name, by decide, Tryd.func81.trans (congrArg some (by kernel_rfl))⟩
  f71 := ⟨Tryd.f82.name, by decide, Tryd.func82.trans (congrArg some (by kernel_rfl))⟩
  f72 := ⟨Tryd.f83.name, by decide, Tryd.func83.trans (congrArg some (by kernel_rfl))⟩
  f73 := ⟨Tryd.f84.name, by decide, Tryd.func84.trans (congrArg some (by kernel_rfl))⟩
  f74 := ⟨Tryd.f85.name, by decide, Tryd.func85.trans (congrArg some (by kernel_rfl))⟩
  f75 := ⟨Tryd.f86.name, by decide, Tryd.func86.trans (congrArg some (by kernel_rfl))⟩
  f76 := ⟨Tryd.f88.name, by decide, Tryd.func88.trans (congrArg some (by kernel_rfl))⟩
  f77 := ⟨Tryd.f89.name, by decide, Tryd.func89.trans (congrArg some (by kernel_rfl))⟩
  f78 := Tryd.func90.trans (congrArg some (by kernel_rfl))
  f79 := Tryd.func91.trans (congrArg some (by kernel_rfl))
  f88 := ⟨Tryd.f92.name, by decide, Tryd.func92.trans (congrArg some (by kernel_rfl))⟩
  f89 := Tryd.func93.trans (congrArg some (by kernel_rfl))
  f90 := Tryd.func94.trans (congrArg some (by kernel_rfl))
  f91 := ⟨Tryd.f95.name, by decide, Tryd.func95.trans (congrArg some (by kernel_rfl))⟩
  f92 := ⟨Tryd.f96.name, by decide, Tryd.func96.trans (congrArg some (by kernel_rfl))⟩
  f96 := ⟨Tryd.f98.name, by decide, Tryd.func98.trans (congrArg some (by kernel_rfl))⟩
  t0 := Tryd.underlying0
  a0 := Tryd.isAgg0
  z0 := Tryd.sizeOf0
  v0 := Tryd.zeroValue0
  t3 := Tryd.underlying3
  a3 := Tryd.isAgg3
  z3 := Tryd.sizeOf3
  v3 := Tryd.zeroValue3
  t4 := Tryd.underlying4
  a4 := Tryd.isAgg4
  z4 := Tryd.sizeOf4
  v4 := Tryd.zeroValue4
  t5 := Tryd.underlying5
  a5 := Tryd.isAgg5
  z5 := Tryd.sizeOf5
  v5 := Tryd.zeroValue5
  t9 := Tryd.underlying9
  a9 := Tryd.isAgg9
  z9 := Tryd.sizeOf9
  v9 := Tryd.zeroValue9
  t22 := Tryd.underlying26
  a22 := Tryd.isAgg26
  z22 := Tryd.sizeOf26
  v22 := Tryd.zeroValue26
  t23 := Tryd.underlying3
  a23 := Tryd.isAgg3
  z23 := Tryd.sizeOf3
  v23 := Tryd.zeroValue3
  t44 := Tryd.underlying135
  a44 := Tryd.isAgg135
  z44 := Tryd.sizeOf135
  v44 := Tryd.zeroValue135
  t51 := Tryd.underlying125
  a51 := Tryd.isAgg125
  z51 := Tryd.sizeOf125
  v51 := Tryd.zeroValue125
  t60 := Tryd.underlying130
  a60 := Tryd.isAgg130
  z60 := Tryd.sizeOf130
  v60 := Tryd.zeroValue130
  t61 := Tryd.underlying131
  a61 := Tryd.isAgg131
  z61 := Tryd.sizeOf131
  v61 := Tryd.zeroValue131
  t67 := Tryd.underlying138
  a67 := Tryd.isAgg138
  z67 := Tryd.sizeOf138
  v67 := Tryd.zeroValue138
  t69 := Tryd.underlying65
  a69 := Tryd.isAgg65
  z69 := Tryd.sizeOf65
  v69 := Tryd.zeroValue65
  t75 := Tryd.underlying139
  a75 := Tryd.isAgg139
  z75 := Tryd.sizeOf139
  v75 := Tryd.zeroValue139
  t79 := Tryd.underlying143
  a79 := Tryd.isAgg143
  z79 := Tryd.sizeOf143
  v79 := Tryd.zeroValue143
  t83 := Tryd.underlying146
  a83 := Tryd.isAgg146
  z83 := Tryd.sizeOf146
  v83 := Tryd.zeroValue146
  t84 := Tryd.underlying147
  a84 := Tryd.isAgg147
  z84 := Tryd.sizeOf147
  v84 := Tryd.zeroValue147 }
end Go.Proofs

open Go Go.Av Go.Proofs
namespace Wk
theorem cm76 : CompactFn Tryd.prog 76 := ⟨callable_of Tryd.func76 (by kernel_rfl) rfl, fun p cap w => AnyG.slices_Compact_int_empty Tryd.layCm76 p cap w, fun blk off cap zs w h1 h2 h3 => AnyG.slices_Compact_int Tryd.layCm76 blk off cap zs w h1 h2 h3⟩
theorem so75 : SortFn Tryd.prog 75 := ⟨callable_of Tryd.func75 (by kernel_rfl) rfl, fun p cap w => AnyG.slices_Sort_int_none Tryd.laySo75 p cap w, fun blk off cap zs w h1 h2 h3 => AnyG.slices_Sort_int Tryd.laySo75 blk off cap zs w h1 h2 h3⟩
end Wk
