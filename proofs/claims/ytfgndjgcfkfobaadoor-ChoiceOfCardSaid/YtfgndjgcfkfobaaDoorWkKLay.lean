/- What is known of the functions of the library that sort. -/
import Derived.Test.YtfgndjgcfkfobaaDoorBase1
import Derived.Shelf.SlicesG.CompactI
import Derived.Shelf.SortG.Plain
import Derived.Shelf.SortG.SortNone
import Derived.Test.YtfgndjgcfkfobaaDoorRows
import Derived.KernelRfl
namespace Go.Proofs
open Go.Shelf
def Tryd.layCm78_ren : Go.Shelf.Ren := ⟨fun | 43 => 78 | n => n, fun | 22 => 37 | 23 => 3 | 3 => 3 | 4 => 4 | 0 => 0 | n => n, fun | n => n⟩
theorem Tryd.layCm78 : Go.Proofs.SlLaysN.n43 Tryd.prog Tryd.layCm78_ren := {
  mixed := by kernel_rfl
  f43 := ⟨Tryd.f78.name, by decide, Tryd.func78.trans (congrArg some (by kernel_rfl))⟩
  t0 := Tryd.underlying0
  a0 := Tryd.isAgg0
  z0 := Tryd.sizeOf0
  v0 := Tryd.zeroValue0
  t3 := Tryd.underlying3
  a3 := Tryd.isAgg3
  z3 := Tryd.sizeOf3
  v3 := Tryd.zeroValue3
  t4 := Tryd.underlying4
  a4 := Tryd.isAgg4
  z4 := Tryd.sizeOf4
  v4 := Tryd.zeroValue4
  t22 := Tryd.underlying37
  a22 := Tryd.isAgg37
  z22 := Tryd.sizeOf37
  v22 := Tryd.zeroValue37
  t23 := Tryd.underlying3
  a23 := Tryd.isAgg3
  z23 := Tryd.sizeOf3
  v23 := Tryd.zeroValue3
  i23 := by kernel_rfl }
def Tryd.laySo77_ren : Go.Shelf.Ren := ⟨fun | 53 => 77 | 64 => 97 | 63 => 96 | 78 => 107 | 79 => 108 | 70 => 98 | 71 => 99 | 72 => 100 | 73 => 101 | 74 => 102 | 75 => 103 | 59 => 104 | 76 => 105 | 77 => 106 | 88 => 109 | 89 => 110 | 90 => 111 | 91 => 112 | 92 => 113 | 68 => 114 | 96 => 115 | n => n, fun | 22 => 37 | 23 => 3 | 3 => 3 | 51 => 120 | 0 => 0 | 67 => 130 | 69 => 61 | 4 => 4 | 61 => 124 | 60 => 123 | 44 => 43 | 5 => 5 | 9 => 9 | 75 => 131 | 79 => 135 | 83 => 137 | 84 => 138 | n => n, fun | n => n⟩
theorem Tryd.laySo77 : Go.Proofs.SlLaysN.n53 Tryd.prog Tryd.laySo77_ren := {
  mixed := by kernel_rfl
  f53 := ⟨Tryd.f77.name, by decide, Tryd.func77.trans (congrArg some (by kernel_rfl))⟩
  f59 := ⟨Tryd.f104.name, by decide, Tryd.func104.trans (congrArg some (by kernel_rfl))⟩
  f63 := ⟨Tryd.f96.name, by decide, Tryd.func96.trans (congrArg some (by kernel_rfl))⟩
  f64 := Tryd.func97.trans (congrArg some (by kernel_rfl))
  f68 := ⟨Tryd.f114.name, by decide, Tryd.func114.trans (congrArg some (by kernel_rfl))⟩
  f70 := ⟨Tryd.f98.name, by decide, Tryd.func98.trans (congrArg some (by kernel_rfl))⟩
  f71 := ⟨Tryd.f99.name, by decide, Tryd.func99.trans (congrArg some (by kernel_rfl))⟩
  f72 := ⟨Tryd.f100.name, by decide, Tryd.func100.trans (congrArg some (by kernel_rfl))⟩
  f73 := ⟨Tryd.f101.name, by decide, Tryd.func101.trans (congrArg some (by kernel_rfl))⟩
  f74 := ⟨Tryd.f102.name, by decide, Tryd.func102.trans (congrArg some (by kernel_rfl))⟩
  f75 := ⟨Tryd.f103.name, by decide, Tryd.func103.trans (congrArg some (by kernel_rfl))⟩
  f76 := ⟨Tryd.f105.name, by decide, Tryd.func105.trans (congrArg some (by kernel_rfl))⟩
  f77 := ⟨Tryd.f106.name, by decide, Tryd.func106.trans (congrArg some (by kernel_rfl))⟩
  f78 := Tryd.func107.trans (congrArg some (by kernel_rfl))
  f79 := Tryd.func108.trans (congrArg some (by kernel_rfl))
  f88 := ⟨Tryd.f109.name, by decide, Tryd.func109.trans (congrArg some (by kernel_rfl))⟩
  f89 := Tryd.func110.trans (congrArg some (by kernel_rfl))
  f90 := Tryd.func111.trans (congrArg some (by kernel_rfl))
  f91 := ⟨Tryd.f112.name, by decide, Tryd.func112.trans (congrArg some (by kernel_rfl))⟩
  f92 := ⟨Tryd.f113.name, by decide, Tryd.func113.trans (congrArg some (by kernel_rfl))⟩
  f96 := ⟨Tryd.f115.name, by decide, Tryd.func115.trans (congrArg some (by kernel_rfl))⟩
  t0 := Tryd.underlying0
  a0 := Tryd.isAgg0
  z0 := Tryd.sizeOf0
  v0 := Tryd.zeroValue0
  t3 := Tryd.underlying3
  a3 := Tryd.isAgg3
  z3 := Tryd.sizeOf3
  v3 := Tryd.zeroValue3
  t4 := Tryd.underlying4
  a4 := Tryd.isAgg4
  z4 := Tryd.sizeOf4
  v4 := Tryd.zeroValue4
  t5 := Tryd.underlying5
  a5 := Tryd.isAgg5
  z5 := Tryd.sizeOf5
  v5 := Tryd.zeroValue5
  t9 := Tryd.underlying9
  a9 := Tryd.isAgg9
  z9 := Tryd.sizeOf9
  v9 := Tryd.zeroValue9
  t22 := Tryd.underlying37
  a22 := Tryd.isAgg37
  z22 := Tryd.sizeOf37
  v22 := Tryd.zeroValue37
  t23 := Tryd.underlying3
  a23 := Tryd.isAgg3
  z23 := Tryd.sizeOf3
  v23 := Tryd.zeroValue3
  t44 := Tryd.underlying43
  a44 := Tryd.isAgg43
  z44 := Tryd.sizeOf43
  v44 := Tryd.zeroValue43
  t51 := Tryd.underlying120
  a51 := Tryd.isAgg120
  z51 := Tryd.sizeOf120
  v51 := Tryd.zeroValue120
  t60 := Tryd.underlying123
  a60 := Tryd.isAgg123
  z60 := Tryd.sizeOf123
  v60 := Tryd.zeroValue123
  t61 := Tryd.underlying124
  a61 := Tryd.isAgg124
  z61 := Tryd.sizeOf124
  v61 := Tryd.zeroValue124
  t67 := Tryd.underlying130
  a67 := Tryd.isAgg130
  z67 := Tryd.sizeOf130
  v67 := Tryd.zeroValue130
  t69 := Tryd.underlying61
  a69 := Tryd.isAgg61
  z69 := Tryd.sizeOf61
  v69 := Tryd.zeroValue61
  t75 := Tryd.underlying131
  a75 := Tryd.isAgg131
  z75 := Tryd.sizeOf131
  v75 := Tryd.zeroValue131
  t79 := Tryd.underlying135
  a79 := Tryd.isAgg135
  z79 := Tryd.sizeOf135
  v79 := Tryd.zeroValue135
  t83 := Tryd.underlying137
  a83 := Tryd.isAgg137
  z83 := Tryd.sizeOf137
  v83 := Tryd.zeroValue137
  t84 := Tryd.underlying138
  a84 := Tryd.isAgg138
  z84 := Tryd.sizeOf138
  v84 := Tryd.zeroValue138 }
end Go.Proofs

open Go Go.Av Go.Proofs
namespace Wk
theorem cm78 : CompactFn Tryd.prog 78 := ⟨callable_of Tryd.func78 (by kernel_rfl) rfl, fun p cap w => AnyG.slices_Compact_int_empty Tryd.layCm78 p cap w, fun blk off cap zs w h1 h2 h3 => AnyG.slices_Compact_int Tryd.layCm78 blk off cap zs w h1 h2 h3⟩
theorem so77 : SortFn Tryd.prog 77 := ⟨callable_of Tryd.func77 (by kernel_rfl) rfl, fun p cap w => AnyG.slices_Sort_int_none Tryd.laySo77 p cap w, fun blk off cap zs w h1 h2 h3 => AnyG.slices_Sort_int Tryd.laySo77 blk off cap zs w h1 h2 h3⟩
end Wk
