/- What is known of the functions of the library that sort. -/
import Derived.Test.YtanbmobkolihaaaGreatDoorBase2
import Derived.BigQuiet
import Derived.Deep.QuietTactic
import Derived.Shelf.SlSortCmp.NoneTotal
import Derived.Shelf.Slices.Turned
import Derived.Shelf.SlicesG.Cmp
import Derived.Shelf.SlicesG.CompactI
import Derived.Shelf.SortG.Plain
import Derived.Shelf.SortG.SortNone
import Derived.Shelf.Strings.Split
import Derived.Test.YtanbmobkolihaaaGreatDoorRows
import Derived.KernelRfl
open Go.Proofs.Tryz renaming prog→abQ
namespace Go.Proofs
open Go.Shelf
def Tryz.OW:Go.Shelf.Ren:=⟨fun|43=>296|n=>n,fun|22=>30|23=>3|3=>3|4=>4|0=>0|n=>n,fun|n=>n⟩
theorem Tryz.Q_:Go.Proofs.SlLaysN.n43 abQ Tryz.OW:={
  mixed:=by kernel_rfl
  f43:=⟨Tryz.f296.name,by decide,Tryz.func296.trans (congrArg some (by kernel_rfl))⟩
  t0:=Tryz.underlying0
  a0:=Tryz.isAgg0
  z0:=Tryz.sizeOf0
  v0:=Tryz.zeroValue0
  t3:=Tryz.underlying3
  a3:=Tryz.isAgg3
  z3:=Tryz.sizeOf3
  v3:=Tryz.zeroValue3
  t4:=Tryz.underlying4
  a4:=Tryz.isAgg4
  z4:=Tryz.sizeOf4
  v4:=Tryz.zeroValue4
  t22:=Tryz.underlying30
  a22:=Tryz.isAgg30
  z22:=Tryz.sizeOf30
  v22:=Tryz.zeroValue30
  t23:=Tryz.underlying3
  a23:=Tryz.isAgg3
  z23:=Tryz.sizeOf3
  v23:=Tryz.zeroValue3
  i23:=by kernel_rfl}
def Tryz.O0:Go.Shelf.Ren:=⟨fun|53=>192|64=>195|63=>233|78=>242|79=>243|70=>280|71=>281|72=>282|73=>283|74=>284|75=>285|59=>286|76=>287|77=>288|88=>336|89=>290|90=>291|91=>337|92=>338|68=>151|96=>360|n=>n,fun|22=>30|23=>3|3=>3|51=>283|0=>0|67=>368|69=>287|4=>4|61=>362|60=>361|44=>121|5=>5|9=>9|75=>415|79=>179|83=>461|84=>428|n=>n,fun|n=>n⟩
theorem Tryz.Rb:Go.Proofs.SlLaysN.n53 abQ Tryz.O0:={
  mixed:=by kernel_rfl
  f53:=⟨Tryz.f192.name,by decide,Tryz.func192.trans (congrArg some (by kernel_rfl))⟩
  f59:=⟨Tryz.f286.name,by decide,Tryz.func286.trans (congrArg some (by kernel_rfl))⟩
  f63:=⟨Tryz.f233.name,by decide,Tryz.func233.trans (congrArg some (by kernel_rfl))⟩
  f64:=Tryz.func195.trans (congrArg some (by kernel_rfl))
  f68:=⟨Tryz.f151.name,by decide,Tryz.func151.trans (congrArg some (by kernel_rfl))⟩
  f70:=⟨Tryz.f280.name,by decide,Tryz.func280.trans (congrArg some (by kernel_rfl))⟩
  f71:=⟨Tryz.f281.name,by decide,Tryz.func281.trans (congrArg some (by kernel_rfl))⟩
  f72:=⟨Tryz.f282.name,by decide,Tryz.func282.trans (congrArg some (by kernel_rfl))⟩
  f73:=⟨Tryz.f283.name,by decide,Tryz.func283.trans (congrArg some (by kernel_rfl))⟩
  f74:=⟨Tryz.f284.name,by decide,Tryz.func284.trans (congrArg some (by kernel_rfl))⟩
  f75:=⟨Tryz.f285.name,by decide,Tryz.func285.trans (congrArg some (by kernel_rfl))⟩
  f76:=⟨Tryz.f287.name,by decide,Tryz.func287.trans (congrArg some (by kernel_rfl))⟩
  f77:=⟨Tryz.f288.name,by decide,Tryz.func288.trans (congrArg some (by kernel_rfl))⟩
  f78:=Tryz.func242.trans (congrArg some (by kernel_rfl))
  f79:=Tryz.func243.trans (congrArg some (by kernel_rfl))
  f88:=⟨Tryz.f336.name,by decide,Tryz.func336.trans (congrArg some (by kernel_rfl))⟩
  f89:=Tryz.func290.trans (congrArg some (by kernel_rfl))
  f90:=Tryz.func291.trans (congrArg some (by kernel_rfl))
  f91:=⟨Tryz.f337.name,by decide,Tryz.func337.trans (congrArg some (by kernel_rfl))⟩
  f92:=⟨Tryz.f338.name,by decide,Tryz.func338.trans (congrArg some (by kernel_rfl))⟩
  f96:=⟨Tryz.f360.name,by decide,Tryz.func360.trans (congrArg some (by kernel_rfl))⟩
  t0:=Tryz.underlying0
  a0:=Tryz.isAgg0
  z0:=Tryz.sizeOf0
  v0:=Tryz.zeroValue0
  t3:=Tryz.underlying3
  a3:=Tryz.isAgg3
  z3:=Tryz.sizeOf3
  v3:=Tryz.zeroValue3
  t4:=Tryz.underlying4
  a4:=Tryz.isAgg4
  z4:=Tryz.sizeOf4
  v4:=Tryz.zeroValue4
  t5:=Tryz.underlying5
  a5:=Tryz.isAgg5
  z5:=Tryz.sizeOf5
  v5:=Tryz.zeroValue5
  t9:=Tryz.underlying9
  a9:=Tryz.isAgg9
  z9:=Tryz.sizeOf9
  v9:=Tryz.zeroValue9
  t22:=Tryz.underlying30
  a22:=Tryz.isAgg30
  z22:=Tryz.sizeOf30
  v22:=Tryz.zeroValue30
  t23:=Tryz.underlying3
  a23:=Tryz.isAgg3
  z23:=Tryz.sizeOf3
  v23:=Tryz.zeroValue3
  t44:=Tryz.underlying121
  a44:=Tryz.isAgg121
  z44:=Tryz.sizeOf121
  v44:=Tryz.zeroValue121
  t51:=Tryz.underlying283
  a51:=Tryz.isAgg283
  z51:=Tryz.sizeOf283
  v51:=Tryz.zeroValue283
  t60:=Tryz.underlying361
  a60:=Tryz.isAgg361
  z60:=Tryz.sizeOf361
  v60:=Tryz.zeroValue361
  t61:=Tryz.underlying362
  a61:=Tryz.isAgg362
  z61:=Tryz.sizeOf362
  v61:=Tryz.zeroValue362
  t67:=Tryz.underlying368
  a67:=Tryz.isAgg368
  z67:=Tryz.sizeOf368
  v67:=Tryz.zeroValue368
  t69:=Tryz.underlying287
  a69:=Tryz.isAgg287
  z69:=Tryz.sizeOf287
  v69:=Tryz.zeroValue287
  t75:=Tryz.underlying415
  a75:=Tryz.isAgg415
  z75:=Tryz.sizeOf415
  v75:=Tryz.zeroValue415
  t79:=Tryz.underlying179
  a79:=Tryz.isAgg179
  z79:=Tryz.sizeOf179
  v79:=Tryz.zeroValue179
  t83:=Tryz.underlying461
  a83:=Tryz.isAgg461
  z83:=Tryz.sizeOf461
  v83:=Tryz.zeroValue461
  t84:=Tryz.underlying428
  a84:=Tryz.isAgg428
  z84:=Tryz.sizeOf428
  v84:=Tryz.zeroValue428}
def Tryz.Rc:Go.Shelf.Ren:=⟨fun|146=>68|221=>104|268=>148|138=>149|143=>150|195=>199|197=>200|218=>201|219=>202|260=>245|217=>246|225=>247|224=>248|267=>249|266=>294|314=>295|n=>n,fun|9=>9|31=>111|3=>3|4=>4|0=>0|105=>332|21=>21|5=>5|46=>283|119=>420|139=>423|138=>422|146=>424|51=>368|n=>n,fun|1=>2|3=>3|4=>4|n=>n⟩
theorem Tryz.ade:Go.Proofs.Lays.n146 abQ Tryz.Rc:={
  mixed:=by kernel_rfl
  f138:=Tryz.func149.trans (congrArg some (by kernel_rfl))
  f143:=Tryz.func150.trans (congrArg some (by kernel_rfl))
  f146:=Tryz.func68.trans (congrArg some (by kernel_rfl))
  f195:=Tryz.func199.trans (congrArg some (by kernel_rfl))
  f197:=Tryz.func200.trans (congrArg some (by kernel_rfl))
  f217:=Tryz.func246.trans (congrArg some (by kernel_rfl))
  f218:=Tryz.func201.trans (congrArg some (by kernel_rfl))
  f219:=Tryz.func202.trans (congrArg some (by kernel_rfl))
  f221:=Tryz.func104.trans (congrArg some (by kernel_rfl))
  f224:=Tryz.func248.trans (congrArg some (by kernel_rfl))
  f225:=Tryz.func247.trans (congrArg some (by kernel_rfl))
  f260:=Tryz.func245.trans (congrArg some (by kernel_rfl))
  f266:=Tryz.func294.trans (congrArg some (by kernel_rfl))
  f267:=Tryz.func249.trans (congrArg some (by kernel_rfl))
  f268:=Tryz.func148.trans (congrArg some (by kernel_rfl))
  f314:=Tryz.func295.trans (congrArg some (by kernel_rfl))
  t0:=Tryz.underlying0
  a0:=Tryz.isAgg0
  z0:=Tryz.sizeOf0
  v0:=Tryz.zeroValue0
  t3:=Tryz.underlying3
  a3:=Tryz.isAgg3
  z3:=Tryz.sizeOf3
  v3:=Tryz.zeroValue3
  t4:=Tryz.underlying4
  a4:=Tryz.isAgg4
  z4:=Tryz.sizeOf4
  v4:=Tryz.zeroValue4
  t5:=Tryz.underlying5
  a5:=Tryz.isAgg5
  z5:=Tryz.sizeOf5
  v5:=Tryz.zeroValue5
  t9:=Tryz.underlying9
  a9:=Tryz.isAgg9
  z9:=Tryz.sizeOf9
  v9:=Tryz.zeroValue9
  t21:=Tryz.underlying21
  a21:=Tryz.isAgg21
  z21:=Tryz.sizeOf21
  v21:=Tryz.zeroValue21
  t31:=Tryz.underlying111
  a31:=Tryz.isAgg111
  z31:=Tryz.sizeOf111
  v31:=Tryz.zeroValue111
  t46:=Tryz.underlying283
  a46:=Tryz.isAgg283
  z46:=Tryz.sizeOf283
  v46:=Tryz.zeroValue283
  t51:=Tryz.underlying368
  a51:=Tryz.isAgg368
  z51:=Tryz.sizeOf368
  v51:=Tryz.zeroValue368
  t105:=Tryz.underlying332
  a105:=Tryz.isAgg332
  z105:=Tryz.sizeOf332
  v105:=Tryz.zeroValue332
  t119:=Tryz.underlying420
  a119:=Tryz.isAgg420
  z119:=Tryz.sizeOf420
  t138:=Tryz.underlying422
  a138:=Tryz.isAgg422
  z138:=Tryz.sizeOf422
  v138:=Tryz.zeroValue422
  t139:=Tryz.underlying423
  a139:=Tryz.isAgg423
  z139:=Tryz.sizeOf423
  v139:=Tryz.zeroValue423
  t146:=Tryz.underlying424
  a146:=Tryz.isAgg424
  z146:=Tryz.sizeOf424
  v146:=Tryz.zeroValue424
  g1:=by kernel_rfl
  g3:=by kernel_rfl
  g4:=by kernel_rfl}
def Tryz.OZ:Go.Shelf.Ren:=⟨fun|6=>137|15=>195|14=>194|28=>242|29=>243|20=>234|21=>235|22=>236|23=>237|24=>238|25=>239|26=>240|27=>241|46=>289|47=>290|48=>291|49=>292|50=>293|57=>339|n=>n,fun|22=>30|24=>3|25=>241|3=>3|39=>283|0=>0|53=>368|55=>287|4=>4|46=>362|45=>361|50=>121|5=>5|9=>9|66=>415|70=>179|76=>461|77=>428|n=>n,fun|n=>n⟩
theorem Tryz.Ra:Go.Proofs.SlLaysF.n6 abQ Tryz.OZ:={
  mixed:=by kernel_rfl
  f6:=⟨Tryz.f137.name,by decide,Tryz.func137.trans (congrArg some (by kernel_rfl))⟩
  f14:=⟨Tryz.f194.name,by decide,Tryz.func194.trans (congrArg some (by kernel_rfl))⟩
  f15:=Tryz.func195.trans (congrArg some (by kernel_rfl))
  f20:=⟨Tryz.f234.name,by decide,Tryz.func234.trans (congrArg some (by kernel_rfl))⟩
  f21:=⟨Tryz.f235.name,by decide,Tryz.func235.trans (congrArg some (by kernel_rfl))⟩
  f22:=⟨Tryz.f236.name,by decide,Tryz.func236.trans (congrArg some (by kernel_rfl))⟩
  f23:=⟨Tryz.f237.name,by decide,Tryz.func237.trans (congrArg some (by kernel_rfl))⟩
  f24:=⟨Tryz.f238.name,by decide,Tryz.func238.trans (congrArg some (by kernel_rfl))⟩
  f25:=⟨Tryz.f239.name,by decide,Tryz.func239.trans (congrArg some (by kernel_rfl))⟩
  f26:=⟨Tryz.f240.name,by decide,Tryz.func240.trans (congrArg some (by kernel_rfl))⟩
  f27:=⟨Tryz.f241.name,by decide,Tryz.func241.trans (congrArg some (by kernel_rfl))⟩
  f28:=Tryz.func242.trans (congrArg some (by kernel_rfl))
  f29:=Tryz.func243.trans (congrArg some (by kernel_rfl))
  f46:=⟨Tryz.f289.name,by decide,Tryz.func289.trans (congrArg some (by kernel_rfl))⟩
  f47:=Tryz.func290.trans (congrArg some (by kernel_rfl))
  f48:=Tryz.func291.trans (congrArg some (by kernel_rfl))
  f49:=⟨Tryz.f292.name,by decide,Tryz.func292.trans (congrArg some (by kernel_rfl))⟩
  f50:=⟨Tryz.f293.name,by decide,Tryz.func293.trans (congrArg some (by kernel_rfl))⟩
  f57:=⟨Tryz.f339.name,by decide,Tryz.func339.trans (congrArg some (by kernel_rfl))⟩
  t0:=Tryz.underlying0
  a0:=Tryz.isAgg0
  z0:=Tryz.sizeOf0
  v0:=Tryz.zeroValue0
  t3:=Tryz.underlying3
  a3:=Tryz.isAgg3
  z3:=Tryz.sizeOf3
  v3:=Tryz.zeroValue3
  t4:=Tryz.underlying4
  a4:=Tryz.isAgg4
  z4:=Tryz.sizeOf4
  v4:=Tryz.zeroValue4
  t5:=Tryz.underlying5
  a5:=Tryz.isAgg5
  z5:=Tryz.sizeOf5
  v5:=Tryz.zeroValue5
  t9:=Tryz.underlying9
  a9:=Tryz.isAgg9
  z9:=Tryz.sizeOf9
  v9:=Tryz.zeroValue9
  t22:=Tryz.underlying30
  a22:=Tryz.isAgg30
  z22:=Tryz.sizeOf30
  v22:=Tryz.zeroValue30
  a24:=Tryz.isAgg3
  z24:=Tryz.sizeOf3
  t25:=Tryz.underlying241
  a25:=Tryz.isAgg241
  z25:=Tryz.sizeOf241
  v25:=Tryz.zeroValue241
  t39:=Tryz.underlying283
  a39:=Tryz.isAgg283
  z39:=Tryz.sizeOf283
  v39:=Tryz.zeroValue283
  t45:=Tryz.underlying361
  a45:=Tryz.isAgg361
  z45:=Tryz.sizeOf361
  v45:=Tryz.zeroValue361
  t46:=Tryz.underlying362
  a46:=Tryz.isAgg362
  z46:=Tryz.sizeOf362
  v46:=Tryz.zeroValue362
  t50:=Tryz.underlying121
  a50:=Tryz.isAgg121
  z50:=Tryz.sizeOf121
  v50:=Tryz.zeroValue121
  t53:=Tryz.underlying368
  a53:=Tryz.isAgg368
  z53:=Tryz.sizeOf368
  v53:=Tryz.zeroValue368
  t55:=Tryz.underlying287
  a55:=Tryz.isAgg287
  z55:=Tryz.sizeOf287
  v55:=Tryz.zeroValue287
  t66:=Tryz.underlying415
  a66:=Tryz.isAgg415
  z66:=Tryz.sizeOf415
  v66:=Tryz.zeroValue415
  t70:=Tryz.underlying179
  a70:=Tryz.isAgg179
  z70:=Tryz.sizeOf179
  v70:=Tryz.zeroValue179
  t76:=Tryz.underlying461
  a76:=Tryz.isAgg461
  z76:=Tryz.sizeOf461
  v76:=Tryz.zeroValue461
  t77:=Tryz.underlying428
  a77:=Tryz.isAgg428
  z77:=Tryz.sizeOf428
  v77:=Tryz.zeroValue428}
def Tryz.OX:Go.Shelf.Ren:=⟨fun|5=>108|7=>151|n=>n,fun|22=>3|3=>3|4=>4|n=>n,fun|n=>n⟩
theorem Tryz.ZJ:Go.Proofs.SlLaysC2.n5 abQ Tryz.OX:={
  mixed:=by kernel_rfl
  f5:=⟨Tryz.f108.name,by decide,Tryz.func108.trans (congrArg some (by kernel_rfl))⟩
  f7:=⟨Tryz.f151.name,by decide,Tryz.func151.trans (congrArg some (by kernel_rfl))⟩
  t3:=Tryz.underlying3
  a3:=Tryz.isAgg3
  z3:=Tryz.sizeOf3
  v3:=Tryz.zeroValue3
  t4:=Tryz.underlying4
  a4:=Tryz.isAgg4
  z4:=Tryz.sizeOf4
  v4:=Tryz.zeroValue4
  t22:=Tryz.underlying3
  a22:=Tryz.isAgg3
  z22:=Tryz.sizeOf3
  v22:=Tryz.zeroValue3}
def Tryz.OY:Go.Shelf.Ren:=⟨fun|108=>139|n=>n,fun|28=>30|3=>3|0=>0|4=>4|n=>n,fun|n=>n⟩
theorem Tryz.ZK:Go.Proofs.Lays.n108 abQ Tryz.OY:={
  mixed:=by kernel_rfl
  f108:=Tryz.func139.trans (congrArg some (by kernel_rfl))
  t0:=Tryz.underlying0
  a0:=Tryz.isAgg0
  z0:=Tryz.sizeOf0
  v0:=Tryz.zeroValue0
  t3:=Tryz.underlying3
  a3:=Tryz.isAgg3
  z3:=Tryz.sizeOf3
  v3:=Tryz.zeroValue3
  t4:=Tryz.underlying4
  a4:=Tryz.isAgg4
  z4:=Tryz.sizeOf4
  v4:=Tryz.zeroValue4
  t28:=Tryz.underlying30
  a28:=Tryz.isAgg30
  z28:=Tryz.sizeOf30
  v28:=Tryz.zeroValue30}
end Go.Proofs

open Go Go.Av Go.Proofs
namespace Wk
theorem akW:Nf abQ 296:=⟨iF Tryz.func296 (by kernel_rfl) rfl,fun p cap w=>AnyG.slices_Compact_int_empty Tryz.Q_ p cap w,fun de off cap zs w h1 h2 h3=>AnyG.slices_Compact_int Tryz.Q_ de off cap zs w h1 h2 h3⟩
theorem ao2:Ye abQ 192:=⟨iF Tryz.func192 (by kernel_rfl) rfl,fun p cap w=>AnyG.slices_Sort_int_none Tryz.Rb p cap w,fun de off cap zs w h1 h2 h3=>AnyG.slices_Sort_int Tryz.Rb de off cap zs w h1 h2 h3⟩
theorem auw:UE abQ 68 2 9:=⟨iF Tryz.func68 (by kernel_rfl) rfl,fun s sep m w h1 h2 h3=>Any.strings_Split Tryz.ade (by kernel_rfl) s sep m w h1 h2 h3⟩
set_option maxHeartbeats 4000000 in
theorem akU(b1 o1 b2 o2 c2:Nat)(zs:List Int)(a b:Int)(W:World)(hbig:zs.length≤9223372036854775807)(k1:W.cell? ⟨b1,o1,none⟩=some (.slice (some ⟨b2,o2,none⟩) zs.length c2))(k2:∀j,j<zs.length→W.cell? ⟨b2,o2+j,none⟩=some (.int .i64 (zs.getD j 0))):Calls abQ 138 #[.int .i64 a,.int .i64 b,.pointer (some ⟨b1,o1,none⟩)] W fun e w'=>e=.returned (.int .i64 (Lib.compareInt (Lib.idxOf zs a) (Lib.idxOf zs b)))∧∃q os',w'=Sort.grow (W.drewN q) os':=by
  have hcon:=fun x1 x2 W'=>AnyG.cmp_Compare_int Tryz.ZJ x1 x2 W';change ∀x1 x2 W',Calls abQ 108 _ _ _ at hcon;have hix:=fun x q=>Any.slices_Index_int Tryz.ZK b2 o2 zs.length c2 zs x (W.drewN q) (Nat.le_refl _) hbig (fun j hj=>by rw[World.cell?_drewN];exact k2 j hj);change ∀x q,Calls abQ 139 _ _ _ at hix;simp only[List.take_length] at hix;clear k2
  go_enter Tryz.func138,Tryz.ntmps138
  go_wp2
  go_quiet (first|(go_at_call 139;refine Calls.quiet_of_same (hix _ _))|(go_at_call 108;refine Calls.quiet_of_same (hcon _ _ _)))
  go_wp2
  go_ret
  exact⟨rfl,_, #[],(Sort.grow_empty _).symm⟩
theorem IJ:I6 abQ 137 138:=Ub (iF Tryz.func137 (by kernel_rfl) rfl) (fun p cap fv w=>AnyF.slices_SortFunc_none {Tryz.Ra with} p cap fv w) (fun m v k cb de off cap d w h1 eg hcmp hH hblk hsz hO hT=>Any.slices_SortFunc_total Tryz.Ra v h1 (fun i j=>Lib.compareInt (k i) (k j)) hO 138 cb de off cap d w eg hcmp hH hblk hsz hT) (enters_of Tryz.func138 (by kernel_rfl) rfl) akU
end Wk
