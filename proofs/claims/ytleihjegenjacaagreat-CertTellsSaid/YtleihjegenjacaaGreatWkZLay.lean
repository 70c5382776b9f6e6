/- What is known of the functions of the library that sort. -/
import Derived.Test.YtleihjegenjacaaGreatBase2
import Derived.BigQuiet
import Derived.Deep.QuietTactic
import Derived.Shelf.SlSortCmp.NoneTotal
import Derived.Shelf.Slices.Turned
import Derived.Shelf.SlicesG.Cmp
import Derived.Shelf.SortG.Plain
import Derived.Shelf.SortG.SortNone
import Derived.Test.YtleihjegenjacaaGreatRows
import Derived.KernelRfl
namespace Go.Proofs
open Go.Shelf
def Tryz.Pb:Go.Shelf.Ren:=⟨fun|53=>92|64=>97|63=>123|78=>133|79=>134|70=>148|71=>149|72=>150|73=>151|74=>152|75=>153|59=>154|76=>155|77=>156|88=>173|89=>158|90=>159|91=>174|92=>175|68=>98|96=>183|n=>n,fun|22=>25|23=>3|3=>3|51=>146|0=>0|67=>177|69=>179|4=>4|61=>170|60=>169|44=>174|5=>5|9=>9|75=>195|79=>199|83=>208|84=>148|n=>n,fun|n=>n⟩
theorem Tryz.Sr:Go.Proofs.SlLaysN.n53 Tryz.prog Tryz.Pb:={
  mixed:=by kernel_rfl
  f53:=⟨Tryz.f92.name,by decide,Tryz.func92.trans (congrArg some (by kernel_rfl))⟩
  f59:=⟨Tryz.f154.name,by decide,Tryz.func154.trans (congrArg some (by kernel_rfl))⟩
  f63:=⟨Tryz.f123.name,by decide,Tryz.func123.trans (congrArg some (by kernel_rfl))⟩
  f64:=Tryz.func97.trans (congrArg some (by kernel_rfl))
  f68:=⟨Tryz.f98.name,by decide,Tryz.func98.trans (congrArg some (by kernel_rfl))⟩
  f70:=⟨Tryz.f148.name,by decide,Tryz.func148.trans (congrArg some (by kernel_rfl))⟩
  f71:=⟨Tryz.f149.name,by decide,Tryz.func149.trans (congrArg some (by kernel_rfl))⟩
  f72:=⟨Tryz.f150.name,by decide,Tryz.func150.trans (congrArg some (by kernel_rfl))⟩
  f73:=⟨Tryz.f151.name,by decide,Tryz.func151.trans (congrArg some (by kernel_rfl))⟩
  f74:=⟨Tryz.f152.name,by decide,Tryz.func152.trans (congrArg some (by kernel_rfl))⟩
  f75:=⟨Tryz.f153.name,by decide,Tryz.func153.trans (congrArg some (by kernel_rfl))⟩
  f76:=⟨Tryz.f155.name,by decide,Tryz.func155.trans (congrArg some (by kernel_rfl))⟩
  f77:=⟨Tryz.f156.name,by decide,Tryz.func156.trans (congrArg some (by kernel_rfl))⟩
  f78:=Tryz.func133.trans (congrArg some (by kernel_rfl))
  f79:=Tryz.func134.trans (congrArg some (by kernel_rfl))
  f88:=⟨Tryz.f173.name,by decide,Tryz.func173.trans (congrArg some (by kernel_rfl))⟩
  f89:=Tryz.func158.trans (congrArg some (by kernel_rfl))
  f90:=Tryz.func159.trans (congrArg some (by kernel_rfl))
  f91:=⟨Tryz.f174.name,by decide,Tryz.func174.trans (congrArg some (by kernel_rfl))⟩
  f92:=⟨Tryz.f175.name,by decide,Tryz.func175.trans (congrArg some (by kernel_rfl))⟩
  f96:=⟨Tryz.f183.name,by decide,Tryz.func183.trans (congrArg some (by kernel_rfl))⟩
  t0:=Tryz.underlying0
  a0:=Tryz.isAgg0
  z0:=Tryz.sizeOf0
  v0:=Tryz.zeroValue0
  t3:=Tryz.underlying3
  a3:=Tryz.isAgg3
  z3:=Tryz.sizeOf3
  v3:=Tryz.zeroValue3
  t4:=Tryz.underlying4
  a4:=Tryz.isAgg4
  z4:=Tryz.sizeOf4
  v4:=Tryz.zeroValue4
  t5:=Tryz.underlying5
  a5:=Tryz.isAgg5
  z5:=Tryz.sizeOf5
  v5:=Tryz.zeroValue5
  t9:=Tryz.underlying9
  a9:=Tryz.isAgg9
  z9:=Tryz.sizeOf9
  v9:=Tryz.zeroValue9
  t22:=Tryz.underlying25
  a22:=Tryz.isAgg25
  z22:=Tryz.sizeOf25
  v22:=Tryz.zeroValue25
  t23:=Tryz.underlying3
  a23:=Tryz.isAgg3
  z23:=Tryz.sizeOf3
  v23:=Tryz.zeroValue3
  t44:=Tryz.underlying174
  a44:=Tryz.isAgg174
  z44:=Tryz.sizeOf174
  v44:=Tryz.zeroValue174
  t51:=Tryz.underlying146
  a51:=Tryz.isAgg146
  z51:=Tryz.sizeOf146
  v51:=Tryz.zeroValue146
  t60:=Tryz.underlying169
  a60:=Tryz.isAgg169
  z60:=Tryz.sizeOf169
  v60:=Tryz.zeroValue169
  t61:=Tryz.underlying170
  a61:=Tryz.isAgg170
  z61:=Tryz.sizeOf170
  v61:=Tryz.zeroValue170
  t67:=Tryz.underlying177
  a67:=Tryz.isAgg177
  z67:=Tryz.sizeOf177
  v67:=Tryz.zeroValue177
  t69:=Tryz.underlying179
  a69:=Tryz.isAgg179
  z69:=Tryz.sizeOf179
  v69:=Tryz.zeroValue179
  t75:=Tryz.underlying195
  a75:=Tryz.isAgg195
  z75:=Tryz.sizeOf195
  v75:=Tryz.zeroValue195
  t79:=Tryz.underlying199
  a79:=Tryz.isAgg199
  z79:=Tryz.sizeOf199
  v79:=Tryz.zeroValue199
  t83:=Tryz.underlying208
  a83:=Tryz.isAgg208
  z83:=Tryz.sizeOf208
  v83:=Tryz.zeroValue208
  t84:=Tryz.underlying148
  a84:=Tryz.isAgg148
  z84:=Tryz.sizeOf148
  v84:=Tryz.zeroValue148}
def Tryz.Pa:Go.Shelf.Ren:=⟨fun|6=>60|15=>97|14=>96|28=>133|29=>134|20=>125|21=>126|22=>127|23=>128|24=>129|25=>130|26=>131|27=>132|46=>157|47=>158|48=>159|49=>160|50=>161|57=>176|n=>n,fun|22=>25|24=>3|25=>109|3=>3|39=>146|0=>0|53=>177|55=>179|4=>4|46=>170|45=>169|50=>174|5=>5|9=>9|66=>195|70=>199|76=>208|77=>148|n=>n,fun|n=>n⟩
theorem Tryz.Sq:Go.Proofs.SlLaysF.n6 Tryz.prog Tryz.Pa:={
  mixed:=by kernel_rfl
  f6:=⟨Tryz.f60.name,by decide,Tryz.func60.trans (congrArg some (by kernel_rfl))⟩
  f14:=⟨Tryz.f96.name,by decide,Tryz.func96.trans (congrArg some (by kernel_rfl))⟩
  f15:=Tryz.func97.trans (congrArg some (by kernel_rfl))
  f20:=⟨Tryz.f125.name,by decide,Tryz.func125.trans (congrArg some (by kernel_rfl))⟩
  f21:=⟨Tryz.f126.name,by decide,Tryz.func126.trans (congrArg some (by kernel_rfl))⟩
  f22:=⟨Tryz.f127.name,by decide,Tryz.func127.trans (congrArg some (by kernel_rfl))⟩
  f23:=⟨Tryz.f128.name,by decide,Tryz.func128.trans (congrArg some (by kernel_rfl))⟩
  f24:=⟨Tryz.f129.name,by decide,Tryz.func129.trans (congrArg some (by kernel_rfl))⟩
  f25:=⟨Tryz.f130.name,by decide,Tryz.func130.trans (congrArg some (by kernel_rfl))⟩
  f26:=⟨Tryz.f131.name,by decide,Tryz.func131.trans (congrArg some (by kernel_rfl))⟩
  f27:=⟨Tryz.f132.name,by decide,Tryz.func132.trans (congrArg some (by kernel_rfl))⟩
  f28:=Tryz.func133.trans (congrArg some (by kernel_rfl))
  f29:=Tryz.func134.trans (congrArg some (by kernel_rfl))
  f46:=⟨Tryz.f157.name,by decide,Tryz.func157.trans (congrArg some (by kernel_rfl))⟩
  f47:=Tryz.func158.trans (congrArg some (by kernel_rfl))
  f48:=Tryz.func159.trans (congrArg some (by kernel_rfl))
  f49:=⟨Tryz.f160.name,by decide,Tryz.func160.trans (congrArg some (by kernel_rfl))⟩
  f50:=⟨Tryz.f161.name,by decide,Tryz.func161.trans (congrArg some (by kernel_rfl))⟩
  f57:=⟨Tryz.f176.name,by decide,Tryz.func176.trans (congrArg some (by kernel_rfl))⟩
  t0:=Tryz.underlying0
  a0:=Tryz.isAgg0
  z0:=Tryz.sizeOf0
  v0:=Tryz.zeroValue0
  t3:=Tryz.underlying3
  a3:=Tryz.isAgg3
  z3:=Tryz.sizeOf3
  v3:=Tryz.zeroValue3
  t4:=Tryz.underlying4
  a4:=Tryz.isAgg4
  z4:=Tryz.sizeOf4
  v4:=Tryz.zeroValue4
  t5:=Tryz.underlying5
  a5:=Tryz.isAgg5
  z5:=Tryz.sizeOf5
  v5:=Tryz.zeroValue5
  t9:=Tryz.underlying9
  a9:=Tryz.isAgg9
  z9:=Tryz.sizeOf9
  v9:=Tryz.zeroValue9
  t22:=Tryz.underlying25
  a22:=Tryz.isAgg25
  z22:=Tryz.sizeOf25
  v22:=Tryz.zeroValue25
  a24:=Tryz.isAgg3
  z24:=Tryz.sizeOf3
  t25:=Tryz.underlying109
  a25:=Tryz.isAgg109
  z25:=Tryz.sizeOf109
  v25:=Tryz.zeroValue109
  t39:=Tryz.underlying146
  a39:=Tryz.isAgg146
  z39:=Tryz.sizeOf146
  v39:=Tryz.zeroValue146
  t45:=Tryz.underlying169
  a45:=Tryz.isAgg169
  z45:=Tryz.sizeOf169
  v45:=Tryz.zeroValue169
  t46:=Tryz.underlying170
  a46:=Tryz.isAgg170
  z46:=Tryz.sizeOf170
  v46:=Tryz.zeroValue170
  t50:=Tryz.underlying174
  a50:=Tryz.isAgg174
  z50:=Tryz.sizeOf174
  v50:=Tryz.zeroValue174
  t53:=Tryz.underlying177
  a53:=Tryz.isAgg177
  z53:=Tryz.sizeOf177
  v53:=Tryz.zeroValue177
  t55:=Tryz.underlying179
  a55:=Tryz.isAgg179
  z55:=Tryz.sizeOf179
  v55:=Tryz.zeroValue179
  t66:=Tryz.underlying195
  a66:=Tryz.isAgg195
  z66:=Tryz.sizeOf195
  v66:=Tryz.zeroValue195
  t70:=Tryz.underlying199
  a70:=Tryz.isAgg199
  z70:=Tryz.sizeOf199
  v70:=Tryz.zeroValue199
  t76:=Tryz.underlying208
  a76:=Tryz.isAgg208
  z76:=Tryz.sizeOf208
  v76:=Tryz.zeroValue208
  t77:=Tryz.underlying148
  a77:=Tryz.isAgg148
  z77:=Tryz.sizeOf148
  v77:=Tryz.zeroValue148}
def Tryz.O9:Go.Shelf.Ren:=⟨fun|5=>62|7=>98|n=>n,fun|22=>3|3=>3|4=>4|n=>n,fun|n=>n⟩
theorem Tryz.ZJ:Go.Proofs.SlLaysC2.n5 Tryz.prog Tryz.O9:={
  mixed:=by kernel_rfl
  f5:=⟨Tryz.f62.name,by decide,Tryz.func62.trans (congrArg some (by kernel_rfl))⟩
  f7:=⟨Tryz.f98.name,by decide,Tryz.func98.trans (congrArg some (by kernel_rfl))⟩
  t3:=Tryz.underlying3
  a3:=Tryz.isAgg3
  z3:=Tryz.sizeOf3
  v3:=Tryz.zeroValue3
  t4:=Tryz.underlying4
  a4:=Tryz.isAgg4
  z4:=Tryz.sizeOf4
  v4:=Tryz.zeroValue4
  t22:=Tryz.underlying3
  a22:=Tryz.isAgg3
  z22:=Tryz.sizeOf3
  v22:=Tryz.zeroValue3}
def Tryz.O_:Go.Shelf.Ren:=⟨fun|108=>63|n=>n,fun|28=>25|3=>3|0=>0|4=>4|n=>n,fun|n=>n⟩
theorem Tryz.ZK:Go.Proofs.Lays.n108 Tryz.prog Tryz.O_:={
  mixed:=by kernel_rfl
  f108:=Tryz.func63.trans (congrArg some (by kernel_rfl))
  t0:=Tryz.underlying0
  a0:=Tryz.isAgg0
  z0:=Tryz.sizeOf0
  v0:=Tryz.zeroValue0
  t3:=Tryz.underlying3
  a3:=Tryz.isAgg3
  z3:=Tryz.sizeOf3
  v3:=Tryz.zeroValue3
  t4:=Tryz.underlying4
  a4:=Tryz.isAgg4
  z4:=Tryz.sizeOf4
  v4:=Tryz.zeroValue4
  t28:=Tryz.underlying25
  a28:=Tryz.isAgg25
  z28:=Tryz.sizeOf25
  v28:=Tryz.zeroValue25}
end Go.Proofs

open Go Go.Av Go.Proofs
namespace Wk
theorem ark:UH Tryz.prog 92:=⟨oP Tryz.func92 (by kernel_rfl) rfl,fun p cap w=>AnyG.slices_Sort_int_none Tryz.Sr p cap w,fun fW off cap zs w h1 h2 h3=>AnyG.slices_Sort_int Tryz.Sr fW off cap zs w h1 h2 h3⟩
set_option maxHeartbeats 4000000 in
theorem aow(b1 o1 b2 o2 c2:Nat)(zs:List Int)(a b:Int)(W:World)(hbig:zs.length≤9223372036854775807)(k1:W.cell? ⟨b1,o1,none⟩=some (.slice (some ⟨b2,o2,none⟩) zs.length c2))(k2:∀j,j<zs.length→W.cell? ⟨b2,o2+j,none⟩=some (.int .i64 (zs.getD j 0))):Calls Tryz.prog 61 #[.int .i64 a,.int .i64 b,.pointer (some ⟨b1,o1,none⟩)] W fun e w'=>e=.returned (.int .i64 (Lib.compareInt (Lib.idxOf zs a) (Lib.idxOf zs b)))∧∃q os',w'=Sort.grow (W.drewN q) os':=by
  have hcon:=fun x1 x2 W'=>AnyG.cmp_Compare_int Tryz.ZJ x1 x2 W';change ∀x1 x2 W',Calls Tryz.prog 62 _ _ _ at hcon;have hix:=fun x q=>Any.slices_Index_int Tryz.ZK b2 o2 zs.length c2 zs x (W.drewN q) (Nat.le_refl _) hbig (fun j hj=>by rw[World.cell?_drewN];exact k2 j hj);change ∀x q,Calls Tryz.prog 63 _ _ _ at hix;simp only[List.take_length] at hix;clear k2
  go_enter Tryz.func61,Tryz.ntmps61
  go_wp2
  go_quiet (first|(go_at_call 63;refine Calls.quiet_of_same (hix _ _))|(go_at_call 62;refine Calls.quiet_of_same (hcon _ _ _)))
  go_wp2
  go_ret
  exact⟨rfl,_, #[],(Sort.grow_empty _).symm⟩
theorem Lt:Hg Tryz.prog 60 61:=RJ (oP Tryz.func60 (by kernel_rfl) rfl) (fun p cap fv w=>AnyF.slices_SortFunc_none {Tryz.Sq with} p cap fv w) (fun m v k cb fW off cap d w h1 eg hcmp hH hblk hsz hO hT=>Any.slices_SortFunc_total Tryz.Sq v h1 (fun i j=>Lib.compareInt (k i) (k j)) hO 61 cb fW off cap d w eg hcmp hH hblk hsz hT) (enters_of Tryz.func61 (by kernel_rfl) rfl) aow
end Wk
