/- What is known of the functions of the library that sort. -/
import Derived.Test.YtfgndjgcfkfobaaBase1
import Derived.Shelf.SlicesG.CompactI
import Derived.Shelf.SortG.Plain
import Derived.Shelf.SortG.SortNone
import Derived.Test.YtfgndjgcfkfobaaRows
import Derived.KernelRfl
namespace Go.Proofs
open Go.Shelf
def Try.layCm27_ren : Go.Shelf.Ren := ⟨fun | 43 => 27 | n => n, fun | 22 => 30 | 23 => 3 | 3 => 3 | 4 => 4 | 0 => 0 | n => n, fun | n => n⟩
theorem Try.layCm27 : Go.Proofs.SlLaysN.n43 Try.prog Try.layCm27_ren := {
  mixed := by kernel_rfl
  f43 := ⟨Try.f27.name, by decide, Try.func27.trans (congrArg some (by kernel_rfl))⟩
  t0 := Try.underlying0
  a0 := Try.isAgg0
  z0 := Try.sizeOf0
  v0 := Try.zeroValue0
  t3 := Try.underlying3
  a3 := Try.isAgg3
  z3 := Try.sizeOf3
  v3 := Try.zeroValue3
  t4 := Try.underlying4
  a4 := Try.isAgg4
  z4 := Try.sizeOf4
  v4 := Try.zeroValue4
  t22 := Try.underlying30
  a22 := Try.isAgg30
  z22 := Try.sizeOf30
  v22 := Try.zeroValue30
  t23 := Try.underlying3
  a23 := Try.isAgg3
  z23 := Try.sizeOf3
  v23 := Try.zeroValue3
  i23 := by kernel_rfl }
def Try.laySo26_ren : Go.Shelf.Ren := ⟨fun | 53 => 26 | 64 => 33 | 63 => 32 | 78 => 44 | 79 => 45 | 70 => 35 | 71 => 36 | 72 => 37 | 73 => 38 | 74 => 39 | 75 => 40 | 59 => 41 | 76 => 42 | 77 => 43 | 88 => 46 | 89 => 47 | 90 => 48 | 91 => 49 | 92 => 50 | 68 => 51 | 96 => 52 | n => n, fun | 22 => 30 | 23 => 3 | 3 => 3 | 51 => 62 | 0 => 0 | 67 => 73 | 69 => 75 | 4 => 4 | 61 => 66 | 60 => 65 | 44 => 27 | 5 => 5 | 9 => 9 | 75 => 76 | 79 => 80 | 83 => 83 | 84 => 84 | n => n, fun | n => n⟩
theorem Try.laySo26 : Go.Proofs.SlLaysN.n53 Try.prog Try.laySo26_ren := {
  mixed := by kernel_rfl
  f53 := ⟨Try.f26.name, by decide, Try.func26.trans (congrArg some (by kernel_rfl))⟩
  f59 := ⟨Try.f41.name, by decide, Try.func41.trans (congrArg some (by kernel_rfl))⟩
  f63 := ⟨Try.f32.name, by decide, Try.func32.trans (congrArg some (by kernel_rfl))⟩
  f64 := Try.func33.trans (congrArg some (by kernel_rfl))
  f68 := ⟨Try.f51.name, by decide, Try.func51.trans (congrArg some (by kernel_rfl))⟩
  f70 := ⟨Try.f35.name, by decide, Try.func35.trans (congrArg some (by kernel_rfl))⟩
  f71 := ⟨Try.f36.name, by decide, Try.func36.trans (congrArg some (by kernel_rfl))⟩
  f72 := ⟨Try.f37.name, by decide, Try.func37.trans (congrArg some (by kernel_rfl))⟩
  f73 := ⟨Try.f38.name, by decide, Try.func38.trans (congrArg some (by kernel_rfl))⟩
  f74 := ⟨Try.f39.name, by decide, Try.func39.trans (congrArg some (by kernel_rfl))⟩
  f75 := ⟨Try.f40.name, by decide, Try.func40.trans (congrArg some (by kernel_rfl))⟩
  f76 := ⟨Try.f42.name, by decide, Try.func42.trans (congrArg some (by kernel_rfl))⟩
  f77 := ⟨Try.f43.name, by decide, Try.func43.trans (congrArg some (by kernel_rfl))⟩
  f78 := Try.func44.trans (congrArg some (by kernel_rfl))
  f79 := Try.func45.trans (congrArg some (by kernel_rfl))
  f88 := ⟨Try.f46.name, by decide, Try.func46.trans (congrArg some (by kernel_rfl))⟩
  f89 := Try.func47.trans (congrArg some (by kernel_rfl))
  f90 := Try.func48.trans (congrArg some (by kernel_rfl))
  f91 := ⟨Try.f49.name, by decide, Try.func49.trans (congrArg some (by kernel_rfl))⟩
  f92 := ⟨Try.f50.name, by decide, Try.func50.trans (congrArg some (by kernel_rfl))⟩
  f96 := ⟨Try.f52.name, by decide, Try.func52.trans (congrArg some (by kernel_rfl))⟩
  t0 := Try.underlying0
  a0 := Try.isAgg0
  z0 := Try.sizeOf0
  v0 := Try.zeroValue0
  t3 := Try.underlying3
  a3 := Try.isAgg3
  z3 := Try.sizeOf3
  v3 := Try.zeroValue3
  t4 := Try.underlying4
  a4 := Try.isAgg4
  z4 := Try.sizeOf4
  v4 := Try.zeroValue4
  t5 := Try.underlying5
  a5 := Try.isAgg5
  z5 := Try.sizeOf5
  v5 := Try.zeroValue5
  t9 := Try.underlying9
  a9 := Try.isAgg9
  z9 := Try.sizeOf9
  v9 := Try.zeroValue9
  t22 := Try.underlying30
  a22 := Try.isAgg30
  z22 := Try.sizeOf30
  v22 := Try.zeroValue30
  t23 := Try.underlying3
  a23 := Try.isAgg3
  z23 := Try.sizeOf3
  v23 := Try.zeroValue3
  t44 := Try.underlying27
  a44 := Try.isAgg27
  z44 := Try.sizeOf27
  v44 := Try.zeroValue27
  t51 := Try.underlying62
  a51 := Try.isAgg62
  z51 := Try.sizeOf62
  v51 := Try.zeroValue62
  t60 := Try.underlying65
  a60 := Try.isAgg65
  z60 := Try.sizeOf65
  v60 := Try.zeroValue65
  t61 := Try.underlying66
  a61 := Try.isAgg66
  z61 := Try.sizeOf66
  v61 := Try.zeroValue66
  t67 := Try.underlying73
  a67 := Try.isAgg73
  z67 := Try.sizeOf73
  v67 := Try.zeroValue73
  t69 := Try.underlying75
  a69 := Try.isAgg75
  z69 := Try.sizeOf75
  v69 := Try.zeroValue75
  t75 := Try.underlying76
  a75 := Try.isAgg76
  z75 := Try.sizeOf76
  v75 := Try.zeroValue76
  t79 := Try.underlying80
  a79 := Try.isAgg80
  z79 := Try.sizeOf80
  v79 := Try.zeroValue80
  t83 := Try.underlying83
  a83 := Try.isAgg83
  z83 := Try.sizeOf83
  v83 := Try.zeroValue83
  t84 := Try.underlying84
  a84 := Try.isAgg84
  z84 := Try.sizeOf84
  v84 := Try.zeroValue84 }
end Go.Proofs

open Go Go.Av Go.Proofs
namespace Wk
theorem cm27 : CompactFn Try.prog 27 := ⟨callable_of Try.func27 (by kernel_rfl) rfl, fun p cap w => AnyG.slices_Compact_int_empty Try.layCm27 p cap w, fun blk off cap zs w h1 h2 h3 => AnyG.slices_Compact_int Try.layCm27 blk off cap zs w h1 h2 h3⟩
theorem so26 : SortFn Try.prog 26 := ⟨callable_of Try.func26 (by kernel_rfl) rfl, fun p cap w => AnyG.slices_Sort_int_none Try.laySo26 p cap w, fun blk off cap zs w h1 h2 h3 => AnyG.slices_Sort_int Try.laySo26 blk off cap zs w h1 h2 h3⟩
end Wk
