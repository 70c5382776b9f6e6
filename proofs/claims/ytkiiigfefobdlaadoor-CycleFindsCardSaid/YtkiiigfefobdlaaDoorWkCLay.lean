/- What is known of the functions of the library that sort. -/
import Derived.Test.YtkiiigfefobdlaaDoorBase1
import Derived.BigQuiet
import Derived.Deep.QuietTactic
import Derived.Shelf.SlSortCmp.NoneTotal
import Derived.Shelf.SlicesG.Cmp
import Derived.Shelf.SortG.Plain
import Derived.Shelf.SortG.SortNone
import Derived.Test.YtkiiigfefobdlaaDoorRows
import Derived.KernelRfl
namespace Go.Proofs
open Go.Shelf
def Tryd.laySf48_ren : Go.Shelf.Ren := ⟨fun | 6 => 48 | 15 => 71 | 14 => 70 | 28 => 87 | 29 => 88 | 20 => 79 | 21 => 80 | 22 => 81 | 23 => 82 | 24 => 83 | 25 => 84 | 26 => 85 | 27 => 86 | 46 => 99 | 47 => 100 | 48 => 101 | 49 => 102 | 50 => 103 | 57 => 107 | n => n, fun | 22 => 42 | 24 => 25 | 25 => 71 | 3 => 3 | 39 => 92 | 0 => 0 | 53 => 108 | 55 => 35 | 4 => 4 | 46 => 102 | 45 => 101 | 50 => 98 | 5 => 5 | 9 => 9 | 66 => 115 | 70 => 119 | 76 => 123 | 77 => 124 | n => n, fun | n => n⟩
theorem Tryd.laySf48 : Go.Proofs.SlLaysF.n6 Tryd.prog Tryd.laySf48_ren := {
  mixed := by kernel_rfl
  f6 := ⟨Tryd.f48.name, by decide, Tryd.func48.trans (congrArg some (by kernel_rfl))⟩
  f14 := ⟨Tryd.f70.name, by decide, Tryd.func70.trans (congrArg some (by kernel_rfl))⟩
  f15 := Tryd.func71.trans (congrArg some (by kernel_rfl))
  f20 := ⟨Tryd.f79.name, by decide, Tryd.func79.trans (congrArg some (by kernel_rfl))⟩
  f21 := ⟨Tryd.f80.name, by decide, Tryd.func80.trans (congrArg some (by kernel_rfl))⟩
  f22 := ⟨Tryd.f81.name, by decide, Tryd.func81.trans (congrArg some (by kernel_rfl))⟩
  f23 := ⟨Tryd.f82.name, by decide, Tryd.func82.trans (congrArg some (by kernel_rfl))⟩
  f24 := ⟨Tryd.f83.name, by decide, Tryd.func83.trans (congrArg some (by kernel_rfl))⟩
  f25 := ⟨Tryd.f84.name, by decide, Tryd.func84.trans (congrArg some (by kernel_rfl))⟩
  f26 := ⟨Tryd.f85.name, by decide, Tryd.func85.trans (congrArg some (by kernel_rfl))⟩
  f27 := ⟨Tryd.f86.name, by decide, Tryd.func86.trans (congrArg some (by kernel_rfl))⟩
  f28 := Tryd.func87.trans (congrArg some (by kernel_rfl))
  f29 := Tryd.func88.trans (congrArg some (by kernel_rfl))
  f46 := ⟨Tryd.f99.name, by decide, Tryd.func99.trans (congrArg some (by kernel_rfl))⟩
  f47 := Tryd.func100.trans (congrArg some (by kernel_rfl))
  f48 := Tryd.func101.trans (congrArg some (by kernel_rfl))
  f49 := ⟨Tryd.f102.name, by decide, Tryd.func102.trans (congrArg some (by kernel_rfl))⟩
  f50 := ⟨Tryd.f103.name, by decide, Tryd.func103.trans (congrArg some (by kernel_rfl))⟩
  f57 := ⟨Tryd.f107.name, by decide, Tryd.func107.trans (congrArg some (by kernel_rfl))⟩
  t0 := Tryd.underlying0
  a0 := Tryd.isAgg0
  z0 := Tryd.sizeOf0
  v0 := Tryd.zeroValue0
  t3 := Tryd.underlying3
  a3 := Tryd.isAgg3
  z3 := Tryd.sizeOf3
  v3 := Tryd.zeroValue3
  t4 := Tryd.underlying4
  a4 := Tryd.isAgg4
  z4 := Tryd.sizeOf4
  v4 := Tryd.zeroValue4
  t5 := Tryd.underlying5
  a5 := Tryd.isAgg5
  z5 := Tryd.sizeOf5
  v5 := Tryd.zeroValue5
  t9 := Tryd.underlying9
  a9 := Tryd.isAgg9
  z9 := Tryd.sizeOf9
  v9 := Tryd.zeroValue9
  t22 := Tryd.underlying42
  a22 := Tryd.isAgg42
  z22 := Tryd.sizeOf42
  v22 := Tryd.zeroValue42
  a24 := Tryd.isAgg25
  z24 := Tryd.sizeOf25
  t25 := Tryd.underlying71
  a25 := Tryd.isAgg71
  z25 := Tryd.sizeOf71
  v25 := Tryd.zeroValue71
  t39 := Tryd.underlying92
  a39 := Tryd.isAgg92
  z39 := Tryd.sizeOf92
  v39 := Tryd.zeroValue92
  t45 := Tryd.underlying101
  a45 := Tryd.isAgg101
  z45 := Tryd.sizeOf101
  v45 := Tryd.zeroValue101
  t46 := Tryd.underlying102
  a46 := Tryd.isAgg102
  z46 := Tryd.sizeOf102
  v46 := Tryd.zeroValue102
  t50 := Tryd.underlying98
  a50 := Tryd.isAgg98
  z50 := Tryd.sizeOf98
  v50 := Tryd.zeroValue98
  t53 := Tryd.underlying108
  a53 := Tryd.isAgg108
  z53 := Tryd.sizeOf108
  v53 := Tryd.zeroValue108
  t55 := Tryd.underlying35
  a55 := Tryd.isAgg35
  z55 := Tryd.sizeOf35
  v55 := Tryd.zeroValue35
  t66 := Tryd.underlying115
  a66 := Tryd.isAgg115
  z66 := Tryd.sizeOf115
  v66 := Tryd.zeroValue115
  t70 := Tryd.underlying119
  a70 := Tryd.isAgg119
  z70 := Tryd.sizeOf119
  v70 := Tryd.zeroValue119
  t76 := Tryd.underlying123
  a76 := Tryd.isAgg123
  z76 := Tryd.sizeOf123
  v76 := Tryd.zeroValue123
  t77 := Tryd.underlying124
  a77 := Tryd.isAgg124
  z77 := Tryd.sizeOf124
  v77 := Tryd.zeroValue124 }
def Tryd.layCp50_ren : Go.Shelf.Ren := ⟨fun | 5 => 50 | 7 => 72 | n => n, fun | 22 => 3 | 3 => 3 | 4 => 4 | n => n, fun | n => n⟩
theorem Tryd.layCp50 : Go.Proofs.SlLaysC2.n5 Tryd.prog Tryd.layCp50_ren := {
  mixed := by kernel_rfl
  f5 := ⟨Tryd.f50.name, by decide, Tryd.func50.trans (congrArg some (by kernel_rfl))⟩
  f7 := ⟨Tryd.f72.name, by decide, Tryd.func72.trans (congrArg some (by kernel_rfl))⟩
  t3 := Tryd.underlying3
  a3 := Tryd.isAgg3
  z3 := Tryd.sizeOf3
  v3 := Tryd.zeroValue3
  t4 := Tryd.underlying4
  a4 := Tryd.isAgg4
  z4 := Tryd.sizeOf4
  v4 := Tryd.zeroValue4
  t22 := Tryd.underlying3
  a22 := Tryd.isAgg3
  z22 := Tryd.sizeOf3
  v22 := Tryd.zeroValue3 }
def Tryd.laySo51_ren : Go.Shelf.Ren := ⟨fun | 53 => 51 | 64 => 71 | 63 => 73 | 78 => 87 | 79 => 88 | 70 => 89 | 71 => 90 | 72 => 91 | 73 => 92 | 74 => 93 | 75 => 94 | 59 => 95 | 76 => 96 | 77 => 97 | 88 => 104 | 89 => 100 | 90 => 101 | 91 => 105 | 92 => 106 | 68 => 72 | 96 => 108 | n => n, fun | 22 => 25 | 23 => 3 | 3 => 3 | 51 => 92 | 0 => 0 | 67 => 108 | 69 => 35 | 4 => 4 | 61 => 102 | 60 => 101 | 44 => 98 | 5 => 5 | 9 => 9 | 75 => 115 | 79 => 119 | 83 => 123 | 84 => 124 | n => n, fun | n => n⟩
theorem Tryd.laySo51 : Go.Proofs.SlLaysN.n53 Tryd.prog Tryd.laySo51_ren := {
  mixed := by kernel_rfl
  f53 := ⟨Tryd.f51.name, by decide, Tryd.func51.trans (congrArg some (by kernel_rfl))⟩
  f59 := ⟨Tryd.f95.name, by decide, Tryd.func95.trans (congrArg some (by kernel_rfl))⟩
  f63 := ⟨Tryd.f73.name, by decide, Tryd.func73.trans (congrArg some (by kernel_rfl))⟩
  f64 := Tryd.func71.trans (congrArg some (by kernel_rfl))
  f68 := ⟨Tryd.f72.name, by decide, Tryd.func72.trans (congrArg some (by kernel_rfl))⟩
  f70 := ⟨Tryd.f89.name, by decide, Tryd.func89.trans (congrArg some (by kernel_rfl))⟩
  f71 := ⟨Tryd.f90.name, by decide, Tryd.func90.trans (congrArg some (by kernel_rfl))⟩
  f72 := ⟨Tryd.f91.name, by decide, Tryd.func91.trans (congrArg some (by kernel_rfl))⟩
  f73 := ⟨Tryd.f92.name, by decide, Tryd.func92.trans (congrArg some (by kernel_rfl))⟩
  f74 := ⟨Tryd.f93.name, by decide, Tryd.func93.trans (congrArg some (by kernel_rfl))⟩
  f75 := ⟨Tryd.f94.name, by decide, Tryd.func94.trans (congrArg some (by kernel_rfl))⟩
  f76 := ⟨Tryd.f96.name, by decide, Tryd.func96.trans (congrArg some (by kernel_rfl))⟩
  f77 := ⟨Tryd.f97.name, by decide, Tryd.func97.trans (congrArg some (by kernel_rfl))⟩
  f78 := Tryd.func87.trans (congrArg some (by kernel_rfl))
  f79 := Tryd.func88.trans (congrArg some (by kernel_rfl))
  f88 := ⟨Tryd.f104.name, by decide, Tryd.func104.trans (congrArg some (by kernel_rfl))⟩
  f89 := Tryd.func100.trans (congrArg some (by kernel_rfl))
  f90 := Tryd.func101.trans (congrArg some (by kernel_rfl))
  f91 := ⟨Tryd.f105.name, by decide, Tryd.func105.trans (congrArg some (by kernel_rfl))⟩
  f92 := ⟨Tryd.f106.name, by decide, Tryd.func106.trans (congrArg some (by kernel_rfl))⟩
  f96 := ⟨Tryd.f108.name, by decide, Tryd.func108.trans (congrArg some (by kernel_rfl))⟩
  t0 := Tryd.underlying0
  a0 := Tryd.isAgg0
  z0 := Tryd.sizeOf0
  v0 := Tryd.zeroValue0
  t3 := Tryd.underlying3
  a3 := Tryd.isAgg3
  z3 := Tryd.sizeOf3
  v3 := Tryd.zeroValue3
  t4 := Tryd.underlying4
  a4 := Tryd.isAgg4
  z4 := Tryd.sizeOf4
  v4 := Tryd.zeroValue4
  t5 := Tryd.underlying5
  a5 := Tryd.isAgg5
  z5 := Tryd.sizeOf5
  v5 := Tryd.zeroValue5
  t9 := Tryd.underlying9
  a9 := Tryd.isAgg9
  z9 := Tryd.sizeOf9
  v9 := Tryd.zeroValue9
  t22 := Tryd.underlying25
  a22 := Tryd.isAgg25
  z22 := Tryd.sizeOf25
  v22 := Tryd.zeroValue25
  t23 := Tryd.underlying3
  a23 := Tryd.isAgg3
  z23 := Tryd.sizeOf3
  v23 := Tryd.zeroValue3
  t44 := Tryd.underlying98
  a44 := Tryd.isAgg98
  z44 := Tryd.sizeOf98
  v44 := Tryd.zeroValue98
  t51 := Tryd.underlying92
  a51 := Tryd.isAgg92
  z51 := Tryd.sizeOf92
  v51 := Tryd.zeroValue92
  t60 := Tryd.underlying101
  a60 := Tryd.isAgg101
  z60 := Tryd.sizeOf101
  v60 := Tryd.zeroValue101
  t61 := Tryd.underlying102
  a61 := Tryd.isAgg102
  z61 := Tryd.sizeOf102
  v61 := Tryd.zeroValue102
  t67 := Tryd.underlying108
  a67 := Tryd.isAgg108
  z67 := Tryd.sizeOf108
  v67 := Tryd.zeroValue108
  t69 := Tryd.underlying35
  a69 := Tryd.isAgg35
  z69 := Tryd.sizeOf35
  v69 := Tryd.zeroValue35
  t75 := Tryd.underlying115
  a75 := Tryd.isAgg115
  z75 := Tryd.sizeOf115
  v75 := Tryd.zeroValue115
  t79 := Tryd.underlying119
  a79 := Tryd.isAgg119
  z79 := Tryd.sizeOf119
  v79 := Tryd.zeroValue119
  t83 := Tryd.underlying123
  a83 := Tryd.isAgg123
  z83 := Tryd.sizeOf123
  v83 := Tryd.zeroValue123
  t84 := Tryd.underlying124
  a84 := Tryd.isAgg124
  z84 := Tryd.sizeOf124
  v84 := Tryd.zeroValue124 }
end Go.Proofs

open Go Go.Av Go.Proofs
namespace Wk
set_option maxHeartbeats 4000000 in
theorem cl49 (b1 o1 l1 c1 b2 o2 l2 c2 : Nat) (x1 x2 : Int) (W : World) (h1 : 0 < l1) (h2 : 0 < l2) (k1 : W.cell? ⟨b1, o1, none⟩ = some (.int .i64 x1)) (k2 : W.cell? ⟨b2, o2, none⟩ = some (.int .i64 x2)) : Calls Tryd.prog 49 #[.slice (some ⟨b1, o1, none⟩) l1 c1, .slice (some ⟨b2, o2, none⟩) l2 c2] W fun e w' => e = .returned (.int .i64 (Lib.compareInt x1 x2)) ∧ ∃ q os', w' = Sort.grow (W.drewN q) os' := by
  have hcon := fun W' => AnyG.cmp_Compare_int Tryd.layCp50 x1 x2 W'
  change ∀ W', Calls Tryd.prog 50 _ _ _ at hcon
  generalize Lib.compareInt x1 x2 = r at hcon ⊢
  go_enter Tryd.func49, Tryd.ntmps49
  have b1' : (0 : Int) < (l1 : Int) := by omega
  have b2' : (0 : Int) < (l2 : Int) := by omega
  go_wp2
  go_quiet ((go_at_call 50; refine Calls.quiet_of_same (hcon _)))
  go_wp2
  go_ret
  exact ⟨rfl, _, #[], (Sort.grow_empty _).symm⟩
theorem sf48_49_50 : SortFirstFn Tryd.prog 48 49 := sortFirst_of (callable_of Tryd.func48 (by kernel_rfl) rfl) (fun p cap fv w => AnyF.slices_SortFunc_none { Tryd.laySf48 with } p cap fv w) (fun m v k blk off cap d w h1 eg hcmp hH hblk hsz hO hT => Any.slices_SortFunc_total Tryd.laySf48 v h1 (fun i j => Lib.compareInt (k i) (k j)) hO 49 #[] blk off cap d w eg hcmp hH hblk hsz hT) (enters_of Tryd.func49 (by kernel_rfl) rfl) cl49
theorem so51 : SortFn Tryd.prog 51 := ⟨callable_of Tryd.func51 (by kernel_rfl) rfl, fun p cap w => AnyG.slices_Sort_int_none Tryd.laySo51 p cap w, fun blk off cap zs w h1 h2 h3 => AnyG.slices_Sort_int Tryd.laySo51 blk off cap zs w h1 h2 h3⟩
end Wk
