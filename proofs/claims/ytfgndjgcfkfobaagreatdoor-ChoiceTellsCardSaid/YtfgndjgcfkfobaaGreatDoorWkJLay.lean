/- What is known of the functions of the library that sort. -/
import Derived.Test.YtfgndjgcfkfobaaGreatDoorBase1
import Derived.Shelf.SlicesG.CompactI
import Derived.Shelf.SortG.Plain
import Derived.Shelf.SortG.SortNone
import Derived.Test.YtfgndjgcfkfobaaGreatDoorRows
import Derived.KernelRfl
namespace Go.Proofs
open Go.Shelf
def Tryz.layCm79_ren : Go.Shelf.Ren := ⟨fun | 43 => 79 | n => n, fun | 22 => 49 | 23 => 3 | 3 => 3 | 4 => 4 | 0 => 0 | n => n, fun | n => n⟩
theorem Tryz.layCm79 : Go.Proofs.SlLaysN.n43 Tryz.prog Tryz.layCm79_ren := {
  mixed := by kernel_rfl
  f43 := ⟨Tryz.f79.name, by decide, Tryz.func79.trans (congrArg some (by kernel_rfl))⟩
  t0 := Tryz.underlying0
  a0 := Tryz.isAgg0
  z0 := Tryz.sizeOf0
  v0 := Tryz.zeroValue0
  t3 := Tryz.underlying3
  a3 := Tryz.isAgg3
  z3 := Tryz.sizeOf3
  v3 := Tryz.zeroValue3
  t4 := Tryz.underlying4
  a4 := Tryz.isAgg4
  z4 := Tryz.sizeOf4
  v4 := Tryz.zeroValue4
  t22 := Tryz.underlying49
  a22 := Tryz.isAgg49
  z22 := Tryz.sizeOf49
  v22 := Tryz.zeroValue49
  t23 := Tryz.underlying3
  a23 := Tryz.isAgg3
  z23 := Tryz.sizeOf3
  v23 := Tryz.zeroValue3
  i23 := by kernel_rfl }
def Tryz.laySo78_ren : Go.Shelf.Ren := ⟨fun | 53 => 78 | 64 => 86 | 63 => 85 | 78 => 97 | 79 => 98 | 70 => 88 | 71 => 89 | 72 => 90 | 73 => 91 | 74 => 92 | 75 => 93 | 59 => 94 | 76 => 95 | 77 => 96 | 88 => 99 | 89 => 100 | 90 => 101 | 91 => 102 | 92 => 103 | 68 => 104 | 96 => 105 | n => n, fun | 22 => 49 | 23 => 3 | 3 => 3 | 51 => 110 | 0 => 0 | 67 => 121 | 69 => 68 | 4 => 4 | 61 => 115 | 60 => 114 | 44 => 95 | 5 => 5 | 9 => 9 | 75 => 122 | 79 => 126 | 83 => 128 | 84 => 129 | n => n, fun | n => n⟩
theorem Tryz.laySo78 : Go.Proofs.SlLaysN.n53 Tryz.prog Tryz.laySo78_ren := {
  mixed := by kernel_rfl
  f53 := ⟨Tryz.f78.name, by decide, Tryz.func78.trans (congrArg some (by kernel_rfl))⟩
  f59 := ⟨Tryz.f94.name, by decide, Tryz.func94.trans (congrArg some (by kernel_rfl))⟩
  f63 := ⟨Tryz.f85.name, by decide, Tryz.func85.trans (congrArg some (by kernel_rfl))⟩
  f64 := Tryz.func86.trans (congrArg some (by kernel_rfl))
  f68 := ⟨Tryz.f104.name, by decide, Tryz.func104.trans (congrArg some (by kernel_rfl))⟩
  f70 := ⟨Tryz.f88.name, by decide, Tryz.func88.trans (congrArg some (by kernel_rfl))⟩
  f71 := ⟨Tryz.f89.name, by decide, Tryz.func89.trans (congrArg some (by kernel_rfl))⟩
  f72 := ⟨Tryz.f90.name, by decide, Tryz.func90.trans (congrArg some (by kernel_rfl))⟩
  f73 := ⟨Tryz.f91.name, by decide, Tryz.func91.trans (congrArg some (by kernel_rfl))⟩
  f74 := ⟨Tryz.f92.name, by decide, Tryz.func92.trans (congrArg some (by kernel_rfl))⟩
  f75 := ⟨Tryz.f93.name, by decide, Tryz.func93.trans (congrArg some (by kernel_rfl))⟩
  f76 := ⟨Tryz.f95.name, by decide, Tryz.func95.trans (congrArg some (by kernel_rfl))⟩
  f77 := ⟨Tryz.f96.name, by decide, Tryz.func96.trans (congrArg some (by kernel_rfl))⟩
  f78 := Tryz.func97.trans (congrArg some (by kernel_rfl))
  f79 := Tryz.func98.trans (congrArg some (by kernel_rfl))
  f88 := ⟨Tryz.f99.name, by decide, Tryz.func99.trans (congrArg some (by kernel_rfl))⟩
  f89 := Tryz.func100.trans (congrArg some (by kernel_rfl))
  f90 := Tryz.func101.trans (congrArg some (by kernel_rfl))
  f91 := ⟨Tryz.f102.name, by decide, Tryz.func102.trans (congrArg some (by kernel_rfl))⟩
  f92 := ⟨Tryz.f103.name, by decide, Tryz.func103.trans (congrArg some (by kernel_rfl))⟩
  f96 := ⟨Tryz.f105.name, by decide, Tryz.func105.trans (congrArg some (by kernel_rfl))⟩
  t0 := Tryz.underlying0
  a0 := Tryz.isAgg0
  z0 := Tryz.sizeOf0
  v0 := Tryz.zeroValue0
  t3 := Tryz.underlying3
  a3 := Tryz.isAgg3
  z3 := Tryz.sizeOf3
  v3 := Tryz.zeroValue3
  t4 := Tryz.underlying4
  a4 := Tryz.isAgg4
  z4 := Tryz.sizeOf4
  v4 := Tryz.zeroValue4
  t5 := Tryz.underlying5
  a5 := Tryz.isAgg5
  z5 := Tryz.sizeOf5
  v5 := Tryz.zeroValue5
  t9 := Tryz.underlying9
  a9 := Tryz.isAgg9
  z9 := Tryz.sizeOf9
  v9 := Tryz.zeroValue9
  t22 := Tryz.underlying49
  a22 := Tryz.isAgg49
  z22 := Tryz.sizeOf49
  v22 := Tryz.zeroValue49
  t23 := Tryz.underlying3
  a23 := Tryz.isAgg3
  z23 := Tryz.sizeOf3
  v23 := Tryz.zeroValue3
  t44 := Tryz.underlying95
  a44 := Tryz.isAgg95
  z44 := Tryz.sizeOf95
  v44 := Tryz.zeroValue95
  t51 := Tryz.underlying110
  a51 := Tryz.isAgg110
  z51 := Tryz.sizeOf110
  v51 := Tryz.zeroValue110
  t60 := Tryz.underlying114
  a60 := Tryz.isAgg114
  z60 := Tryz.sizeOf114
  v60 := Tryz.zeroValue114
  t61 := Tryz.underlying115
  a61 := Tryz.isAgg115
  z61 := Tryz.sizeOf115
  v61 := Tryz.zeroValue115
  t67 := Tryz.underlying121
  a67 := Tryz.isAgg121
  z67 := Tryz.sizeOf121
  v67 := Tryz.zeroValue121
  t69 := Tryz.underlying68
  a69 := Tryz.isAgg68
  z69 := Tryz.sizeOf68
  v69 := Tryz.zeroValue68
  t75 := Tryz.underlying122
  a75 := Tryz.isAgg122
  z75 := Tryz.sizeOf122
  v75 := Tryz.zeroValue122
  t79 := Tryz.underlying126
  a79 := Tryz.isAgg126
  z79 := Tryz.sizeOf126
  v79 := Tryz.zeroValue126
  t83 := Tryz.underlying128
  a83 := Tryz.isAgg128
  z83 := Tryz.sizeOf128
  v83 := Tryz.zeroValue128
  t84 := Tryz.underlying129
  a84 := Tryz.isAgg129
  z84 := Tryz.sizeOf129
  v84 := Tryz.zeroValue129 }
end Go.Proofs

open Go Go.Av Go.Proofs
namespace Wk
theorem cm79 : CompactFn Tryz.prog 79 := ⟨callable_of Tryz.func79 (by kernel_rfl) rfl, fun p cap w => AnyG.slices_Compact_int_empty Tryz.layCm79 p cap w, fun blk off cap zs w h1 h2 h3 => AnyG.slices_Compact_int Tryz.layCm79 blk off cap zs w h1 h2 h3⟩
theorem so78 : SortFn Tryz.prog 78 := ⟨callable_of Tryz.func78 (by kernel_rfl) rfl, fun p cap w => AnyG.slices_Sort_int_none Tryz.laySo78 p cap w, fun blk off cap zs w h1 h2 h3 => AnyG.slices_Sort_int Tryz.laySo78 blk off cap zs w h1 h2 h3⟩
end Wk
