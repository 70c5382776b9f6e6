/- What is known of the functions of the library that sort. -/
import Derived.Test.YtmnmbaehidfebaaGreatDoorBase1
import Derived.Shelf.SlicesG.CompactI
import Derived.Shelf.SortG.Plain
import Derived.Shelf.SortG.SortNone
import Derived.Test.YtmnmbaehidfebaaGreatDoorRows
import Derived.KernelRfl
namespace Go.Proofs
open Go.Shelf
def Tryz.JB:Go.Shelf.Ren:=⟨fun|43=>105|n=>n,fun|22=>42|23=>3|3=>3|4=>4|0=>0|n=>n,fun|n=>n⟩
theorem Tryz.LJ:Go.Proofs.SlLaysN.n43 Tryz.prog Tryz.JB:={
  mixed:=by kernel_rfl
  f43:=⟨Tryz.f105.name,by decide,Tryz.func105.trans (congrArg some (by kernel_rfl))⟩
  t0:=Tryz.underlying0
  a0:=Tryz.isAgg0
  z0:=Tryz.sizeOf0
  v0:=Tryz.zeroValue0
  t3:=Tryz.underlying3
  a3:=Tryz.isAgg3
  z3:=Tryz.sizeOf3
  v3:=Tryz.zeroValue3
  t4:=Tryz.underlying4
  a4:=Tryz.isAgg4
  z4:=Tryz.sizeOf4
  v4:=Tryz.zeroValue4
  t22:=Tryz.underlying42
  a22:=Tryz.isAgg42
  z22:=Tryz.sizeOf42
  v22:=Tryz.zeroValue42
  t23:=Tryz.underlying3
  a23:=Tryz.isAgg3
  z23:=Tryz.sizeOf3
  v23:=Tryz.zeroValue3
  i23:=by kernel_rfl}
def Tryz.JC:Go.Shelf.Ren:=⟨fun|53=>104|64=>112|63=>111|78=>127|79=>128|70=>118|71=>119|72=>120|73=>121|74=>122|75=>123|59=>124|76=>125|77=>126|88=>130|89=>131|90=>132|91=>133|92=>134|68=>135|96=>136|n=>n,fun|22=>42|23=>3|3=>3|51=>138|0=>0|67=>174|69=>80|4=>4|61=>168|60=>167|44=>141|5=>5|9=>9|75=>177|79=>181|83=>183|84=>184|n=>n,fun|n=>n⟩
theorem Tryz.LL:Go.Proofs.SlLaysN.n53 Tryz.prog Tryz.JC:={
  mixed:=by kernel_rfl
  f53:=⟨Tryz.f104.name,by decide,Tryz.func104.trans (congrArg some (by kernel_rfl))⟩
  f59:=⟨Tryz.f124.name,by decide,Tryz.func124.trans (congrArg some (by kernel_rfl))⟩
  f63:=⟨Tryz.f111.name,by decide,Tryz.func111.trans (congrArg some (by kernel_rfl))⟩
  f64:=Tryz.func112.trans (congrArg some (by kernel_rfl))
  f68:=⟨Tryz.f135.name,by decide,Tryz.func135.trans (congrArg some (by kernel_rfl))⟩
  f70:=⟨Tryz.f118.name,by decide,Tryz.func118.trans (congrArg some (by kernel_rfl))⟩
  f71:=⟨Tryz.f119.name,by decide,Tryz.func119.trans (congrArg some (by kernel_rfl))⟩
  f72:=⟨Tryz.f120.name,by decide,Tryz.func120.trans (congrArg some (by kernel_rfl))⟩
  f73:=⟨Tryz.f121.name,by decide,Tryz.func121.trans (congrArg some (by kernel_rfl))⟩
  f74:=⟨Tryz.f122.name,by decide,Tryz.func122.trans (congrArg some (by kernel_rfl))⟩
  f75:=⟨Tryz.f123.name,by decide,Tryz.func123.trans (congrArg some (by kernel_rfl))⟩
  f76:=⟨Tryz.f125.name,by decide,Tryz.func125.trans (congrArg some (by kernel_rfl))⟩
  f77:=⟨Tryz.f126.name,by decide,Tryz.func126.trans (congrArg some (by kernel_rfl))⟩
  f78:=Tryz.func127.trans (congrArg some (by kernel_rfl))
  f79:=Tryz.func128.trans (congrArg some (by kernel_rfl))
  f88:=⟨Tryz.f130.name,by decide,Tryz.func130.trans (congrArg some (by kernel_rfl))⟩
  f89:=Tryz.func131.trans (congrArg some (by kernel_rfl))
  f90:=Tryz.func132.trans (congrArg some (by kernel_rfl))
  f91:=⟨Tryz.f133.name,by decide,Tryz.func133.trans (congrArg some (by kernel_rfl))⟩
  f92:=⟨Tryz.f134.name,by decide,Tryz.func134.trans (congrArg some (by kernel_rfl))⟩
  f96:=⟨Tryz.f136.name,by decide,Tryz.func136.trans (congrArg some (by kernel_rfl))⟩
  t0:=Tryz.underlying0
  a0:=Tryz.isAgg0
  z0:=Tryz.sizeOf0
  v0:=Tryz.zeroValue0
  t3:=Tryz.underlying3
  a3:=Tryz.isAgg3
  z3:=Tryz.sizeOf3
  v3:=Tryz.zeroValue3
  t4:=Tryz.underlying4
  a4:=Tryz.isAgg4
  z4:=Tryz.sizeOf4
  v4:=Tryz.zeroValue4
  t5:=Tryz.underlying5
  a5:=Tryz.isAgg5
  z5:=Tryz.sizeOf5
  v5:=Tryz.zeroValue5
  t9:=Tryz.underlying9
  a9:=Tryz.isAgg9
  z9:=Tryz.sizeOf9
  v9:=Tryz.zeroValue9
  t22:=Tryz.underlying42
  a22:=Tryz.isAgg42
  z22:=Tryz.sizeOf42
  v22:=Tryz.zeroValue42
  t23:=Tryz.underlying3
  a23:=Tryz.isAgg3
  z23:=Tryz.sizeOf3
  v23:=Tryz.zeroValue3
  t44:=Tryz.underlying141
  a44:=Tryz.isAgg141
  z44:=Tryz.sizeOf141
  v44:=Tryz.zeroValue141
  t51:=Tryz.underlying138
  a51:=Tryz.isAgg138
  z51:=Tryz.sizeOf138
  v51:=Tryz.zeroValue138
  t60:=Tryz.underlying167
  a60:=Tryz.isAgg167
  z60:=Tryz.sizeOf167
  v60:=Tryz.zeroValue167
  t61:=Tryz.underlying168
  a61:=Tryz.isAgg168
  z61:=Tryz.sizeOf168
  v61:=Tryz.zeroValue168
  t67:=Tryz.underlying174
  a67:=Tryz.isAgg174
  z67:=Tryz.sizeOf174
  v67:=Tryz.zeroValue174
  t69:=Tryz.underlying80
  a69:=Tryz.isAgg80
  z69:=Tryz.sizeOf80
  v69:=Tryz.zeroValue80
  t75:=Tryz.underlying177
  a75:=Tryz.isAgg177
  z75:=Tryz.sizeOf177
  v75:=Tryz.zeroValue177
  t79:=Tryz.underlying181
  a79:=Tryz.isAgg181
  z79:=Tryz.sizeOf181
  v79:=Tryz.zeroValue181
  t83:=Tryz.underlying183
  a83:=Tryz.isAgg183
  z83:=Tryz.sizeOf183
  v83:=Tryz.zeroValue183
  t84:=Tryz.underlying184
  a84:=Tryz.isAgg184
  z84:=Tryz.sizeOf184
  v84:=Tryz.zeroValue184}
end Go.Proofs

open Go Go.Av Go.Proofs
namespace Wk
theorem aa8:HU Tryz.prog 105:=⟨sF Tryz.func105 (by kernel_rfl) rfl,fun p cap w=>AnyG.slices_Compact_int_empty Tryz.LJ p cap w,fun gN off cap zs w h1 h2 h3=>AnyG.slices_Compact_int Tryz.LJ gN off cap zs w h1 h2 h3⟩
theorem ahS:Qg Tryz.prog 104:=⟨sF Tryz.func104 (by kernel_rfl) rfl,fun p cap w=>AnyG.slices_Sort_int_none Tryz.LL p cap w,fun gN off cap zs w h1 h2 h3=>AnyG.slices_Sort_int Tryz.LL gN off cap zs w h1 h2 h3⟩
end Wk
