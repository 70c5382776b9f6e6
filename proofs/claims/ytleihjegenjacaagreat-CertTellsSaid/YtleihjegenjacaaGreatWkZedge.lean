/- That the functions of a package do what their plain functions say. -/
import Derived.Test.YtleihjegenjacaaGreatWkZhist
open Go Go.Av Go.Proofs G Go.Sh Go.Av.Sh
set_option linter.unusedVariables false
set_option maxHeartbeats 8000000
set_option maxRecDepth 20000
namespace Wk
variable {W0:World}
theorem zI{eM Dl oO nE r}(h:tc eM Dl oO nE=some r):F1 W0 203 [bO.av eM,af.av Dl,J oO,J nE] (bl r):=by
 refine cB Tryz.func203 Tryz.ntmps203 ?_;unfold tc at h;refine sr Z fun K1 eB=>E (r:=.any) Z (N6 Z)<|E (r:=.ref 0 0 0) Z (bI 1 [af.av Dl] Z Z Z (.inl ⟨Z,Z⟩))<|O Z<|ah<|eB _ (Y (aU.eo (fr':=[(2,J oO),(3,J nE),(5,.pp [sm ai.av Dl.aC] 0)])) ?_);refine az fun K2 b7=>b5 (fl 19 [] []) (by kernel_rfl) (by kernel_rfl) Z ?_;refine aS aL 3 [2,3,5,11] Z ?_;refine bt Z ?_;cases OH:(decide (oO<nE))
 ·replace h:=b_ h OH;refine aS aL 15 [8] Z ?_;refine bw<|b7 _ (Y (U [8] Z) ?_);cases h;exact aA rk
 ·replace h:=cg h OH;refine aS aL 2 [2,3,5,12,14] Z ?_;refine bt Z<|Sh.bi h fun x13 k14 aoJ apf h=>aJ Z (fun _=>aH ai.av Dl.aC aoJ apf Z Z Z fJ Z)<|aS aL 4 [3,12,18,20] Z ?_;refine bt Z<|Sh.bi h fun x15 k16 aoL aph h=>aJ Z (fun _=>aH ai.av Dl.aC aoL aph Z Z Z fJ Z)<|aS aL 5 [8] Z ?_;refine bw<|b7 _ (Y (U [8] Z) ?_);cases h;exact aA rk


theorem td{Hv oD uN yX r}(h:kC Hv oD uN yX=some r):F1 W0 185 [.ifc 211 (bO.av Hv),.pp [sm ai.av oD.aC] 0,.pp [J uN] 0,.pp [J yX] 0] (bl r):=by
 refine cB Tryz.func185 Tryz.ntmps185 ?_;unfold kC at h;refine aM aL 1 [0,1,2,3] Z ?_;refine sr Z fun K2 b7=>O Z<|bD (af.av oD) Z Z Z eS Z<|aB aL 1 [3,6,7,8] Z ?_;refine bD (J yX) Z Z Z sE Z<|Sh.bd h fun r3 CA h=>E (r:=bl r3) Z (iX (ys:=[bO.av Hv,af.av oD,J uN,J yX]) (xs:=[bO.av Hv,af.av oD,J uN,J yX]) (.iface Z Z Z TD (zI (W0:=W0) CA).call) (aU.refl _) Z (by simp) (zI CA))<|aG aL b7 1 [5] Z ?_;cases h;exact aA rk


theorem xV{yC oD r}(h:tO yC oD=some r):F1 W0 205 [an.av yC,.pp [J oD] 0] (bl r):=by
 refine cB Tryz.func205 Tryz.ntmps205 ?_;unfold tO at h;refine sr Z fun K1 eB=>E (r:=.ref 0 0 0) Z (bI 2 [an.av yC] Z Z Z (.inl ⟨Z,Z⟩))<|O Z<|ah<|eB _ (Y (aU.eo (fr':=[(1,.pp [J oD] 0),(2,.pp [J yC.Key,J yC.bT] 0)])) ?_);refine aM aL 5 [3] Z ?_;cases h;exact aA rk


theorem oC{b8 jO r}(h:dw b8 jO=some r):F1 W0 146 [sm an.av b8,.bS (.func 205) [.pp [J jO] 0]] (J r):=by
 refine cB Tryz.func146 Tryz.ntmps146 ?_;unfold dw at h;refine aM aL 1 [0,1] Z ?_;refine aO (fun(p:Unit)=>⟨[],.empty⟩) (fun p=>dc=some r) ?_ ?_
 ·rintro⟨⟩ h;unfold dc at h;refine sr Z fun K2 b7=>O Z<|ah<|b7 _ ?_;cases h;exact aA rk
 ·intro K3 dZ;refine sr Z fun K4 gB=>O Z<|E Z (aX an.av b8 Z Z qA)<|aG aL gB 1 [0,1,7,8] Z ?_;refine aF<|bq (fun(p:Int)=>cz b8 jO p) (fun p=>⟨[(0,sm an.av b8),(1,.bS (.func 205) [.pp [J jO] 0]),(7,J (Sh.len b8)),(8,J p)],.empty⟩) h (U [0,1,7,8] Z) ?_
  ·rintro v30 o1 h dM;unfold cz at h;refine sr Z fun K5 ec=>E Z (dD Z Z Z)<|ah<|ec _ ?_;refine az fun K6 eE=>aT Z h (fun h=> ?_) (fun h=> ?_)
   ·refine aD<|eE _ (Y (U [0,1,7,8] Z) ?_);refine az fun K7 f_=>aF<|aM aL 2 [0,1,7,8,5] Z ?_;refine sr Z fun K9 gU=>aB aL 3 [0,1,7,8,5,11,12,13] Z ?_;refine Sh.bi h fun Ff k39 QT QV h=>E Z (aH an.av b8 QT QV Z Z Z qA Z)<|bD (an.av Ff) Z Z Z EW Z<|Sh.bd h fun yx Dn h=>E (r:=bl yx) Z (iX (ys:=[an.av Ff,.pp [J jO] 0]) (xs:=[an.av Ff,.pp [J jO] 0]) (.bS (ys:=[an.av Ff]) (caps:=[.pp [J jO] 0]) Z Z Z (xV (W0:=W0) Dn).call) (aU.refl _) Z (by simp) (xV Dn))<|mu gU [0,1,7,8,5,16] Z ?_;refine aT Z h (fun h=> ?_) (fun h=> ?_)
    ·refine aM aL 2 [4] Z ?_;replace h:=aZ h dM;cases h;exact aA rk
    ·refine aD<|f_ _ (Y (U [0,1,7,8] Z) ?_);refine aW Z<|E Z (bA Z Z Z Z)<|O Z<|ah ?_;replace h:=bE h;exact⟨_,h,U [0,1,7,8] Z⟩
   ·refine bp ?_;replace h:=aZ h dM;exact dZ () _ h (U [] Z)


theorem ny{b8 jO r}(h:c8 b8 jO=some r):F1 W0 116 [sm an.av b8,.bS (.func 205) [.pp [J jO] 0]] (bl r):=by
 refine cB Tryz.func116 Tryz.ntmps116 ?_;unfold c8 at h;refine aM aL 1 [0,1] Z ?_;refine sr Z fun K2 b7=>O Z<|O Z<|Sh.bd h fun r3 CA h=>E (r:=J r3) Z (aK Z Z (by simp) (oC CA))<|aG aL b7 2 [4] Z ?_;cases h;exact aA rk


theorem Cl{eM Dl oO nE r}(h:vV eM Dl oO nE=some r):F1 W0 204 [cF.av eM,af.av Dl,J oO,J nE] (bl r):=by
 refine cB Tryz.func204 Tryz.ntmps204 ?_;unfold vV at h;refine sr Z fun K1 eB=>E (r:=.any) Z (N6 Z)<|E (r:=.ref 0 0 0) Z (bI 1 [af.av Dl] Z Z Z (.inl ⟨Z,Z⟩))<|E (r:=.ref 1 0 0) Z (bI 1 [J oO] Z Z Z (.inl ⟨Z,Z⟩))<|V [3,5,6] Z<|O Z<|ah ?_;refine eB _ (Y (aU.eo (fr':=[(3,J nE),(5,.pp [sm ai.av Dl.aC] 0),(6,.pp [J oO] 0)])) ?_);refine sr Z fun K2 b7=>aB aL 3 [6,10,11] Z ?_;refine Sh.bi h fun x7 k8 hi8 hl8 h=>E Z (aH ai.av Dl.aC hi8 hl8 Z Z Z fJ Z)<|aB aL 2 [6,14] Z ?_;refine E (r:=.bS (.func 205) [.pp [J oO] 0]) Z (eR Z Z)<|Sh.bd h fun r9 Tt h=>E (r:=bl r9) Z (aK Z Z (by simp) (ny Tt))<|aG aL b7 1 [8] Z ?_;cases h;exact aA rk


theorem uD{Hv oD uN yX r}(h:oF Hv oD uN yX=some r):F1 W0 185 [.ifc 212 (cF.av Hv),.pp [sm ai.av oD.aC] 0,.pp [J uN] 0,.pp [J yX] 0] (bl r):=by
 refine cB Tryz.func185 Tryz.ntmps185 ?_;unfold oF at h;refine aM aL 1 [0,1,2,3] Z ?_;refine sr Z fun K2 b7=>O Z<|bD (af.av oD) Z Z Z eS Z<|aB aL 1 [3,6,7,8] Z ?_;refine bD (J yX) Z Z Z sE Z<|Sh.bd h fun r3 CA h=>E (r:=bl r3) Z (iX (ys:=[cF.av Hv,af.av oD,J uN,J yX]) (xs:=[cF.av Hv,af.av oD,J uN,J yX]) (.iface Z Z Z TE (Cl (W0:=W0) CA).call) (aU.refl _) Z (by simp) (Cl CA))<|aG aL b7 1 [5] Z ?_;cases h;exact aA rk


theorem zJ{aQ Lw uS r}(h:tY aQ Lw uS=some r):F1 W0 209 [af.av aQ,J Lw,J uS] (bl r):=by
 refine cB Tryz.func209 Tryz.ntmps209 ?_;unfold tY at h;refine sr Z fun K1 eB=>E (r:=.ref 0 0 0) Z (bI 1 [af.av aQ] Z Z Z (.inl ⟨Z,Z⟩))<|O Z<|ah<|eB _ (Y (aU.eo (fr':=[(1,J Lw),(2,J uS),(3,.pp [sm ai.av aQ.aC] 0)])) ?_);refine sr Z fun K2 b7=>aB aL 3 [2,8,9] Z ?_;refine Sh.bi h fun x7 k8 hi8 hl8 h=>E Z (aH ai.av aQ.aC hi8 hl8 Z Z Z fJ Z)<|aB aL 2 [2,12] Z ?_;refine O Z<|Sh.bd h fun r9 Tt h=>E (r:=bl r9) Z (aK Z Z (by simp) (gR Tt))<|aG aL b7 1 [6] Z ?_;cases h;exact aA rk


theorem vt{bJ oD uN yX r}(h:mA bJ oD uN yX=some r):F1 W0 208 [aa.av bJ,.pp [J oD] 0,.pp [J uN] 0,.pp [sm ai.av yX.aC] 0] (bl r):=by
 refine cB Tryz.func208 Tryz.ntmps208 ?_;unfold mA at h;refine sr Z fun K1 eB=>E (r:=.ref 0 0 0) Z (bI 3 [aa.av bJ] Z Z Z (.inl ⟨Z,Z⟩))<|O Z<|ah<|eB _ (Y (aU.eo (fr':=[(1,.pp [J oD] 0),(2,.pp [J uN] 0),(3,.pp [sm ai.av yX.aC] 0),(4,.pp [J bJ.Key,J bJ.A,J bJ.B] 0)])) ?_);refine sr Z fun K2 b7=>aB aL 3 [1,2,3,4,7,8] Z ?_;refine E (r:=bl (decide (bJ.A=oD))) Z (F_ Z Z Z)<|O Z ?_;cases Gw:(decide (bJ.A=oD))
 ·replace h:=b_ h Gw;refine aG aL b7 25 [5] Z ?_;cases h;exact aA rk
 ·replace h:=cg h Gw;refine aB aL 4 [1,2,3,4,10,14] Z ?_;refine O Z<|O Z ?_;cases OJ:(decide (bJ.B=uN))
  ·replace h:=b_ h OJ;refine aG aL b7 19 [5] Z ?_;cases h;exact aA rk
  ·replace h:=cg h OJ;refine aB aL 4 [1,2,3,4,20] Z ?_;refine O Z ?_;cases U9:(decide (oD≠uN))
   ·replace h:=b_ h U9;refine aG aL b7 14 [5] Z ?_;cases h;exact aA rk
   ·replace h:=cg h U9;refine bD (af.av yX) Z Z Z eS Z<|aB aL 1 [2,3,4,21,22,23] Z ?_;refine jc Z Jy<|bD (J bJ.Key) Z Z Z sE Z<|Sh.bd h fun ER OW h=>E (r:=bl ER) Z (aK Z Z (by simp) (zJ OW))<|V [2,3,4,21,26] Z<|O Z<|O Z ?_;cases Iz:(ER)
    ·replace h:=b_ h Iz;refine aG aL b7 7 [5] Z ?_;cases h;exact aA rk
    ·replace h:=cg h Iz;refine bD (af.av yX) Z Z Z eS Z<|aB aL 3 [28,29,30,32] Z ?_;refine Sh.bd h fun FL M_ h=>E (r:=bl FL) Z (aK Z Z (by simp) (zJ M_))<|aG aL b7 2 [5] Z ?_;cases h;exact aA rk


theorem j8{b8 jO uL uF r}(h:cI b8 jO uL uF=some r):F1 W0 210 [sm aa.av b8,.bS (.func 208) [.pp [J jO] 0,.pp [J uL] 0,.pp [sm ai.av uF.aC] 0]] (J r):=by
 refine cB Tryz.func210 Tryz.ntmps210 ?_;unfold cI at h;refine aM aL 1 [0,1] Z ?_;refine aO (fun(p:Unit)=>⟨[],.empty⟩) (fun p=>cD=some r) ?_ ?_
 ·rintro⟨⟩ h;unfold cD at h;refine sr Z fun K2 b7=>O Z<|ah<|b7 _ ?_;cases h;exact aA rk
 ·intro K3 dZ;refine sr Z fun K4 gB=>O Z<|E Z (aX aa.av b8 Z Z aaL)<|aG aL gB 1 [0,1,7,8] Z ?_;refine aF<|bq (fun(p:Int)=>bY b8 jO uL uF p) (fun p=>⟨[(0,sm aa.av b8),(1,.bS (.func 208) [.pp [J jO] 0,.pp [J uL] 0,.pp [sm ai.av uF.aC] 0]),(7,J (Sh.len b8)),(8,J p)],.empty⟩) h (U [0,1,7,8] Z) ?_
  ·rintro v30 o1 h dM;unfold bY at h;refine sr Z fun K5 ec=>E Z (dD Z Z Z)<|ah<|ec _ ?_;refine az fun K6 eE=>aT Z h (fun h=> ?_) (fun h=> ?_)
   ·refine aD<|eE _ (Y (U [0,1,7,8] Z) ?_);refine az fun K7 f_=>aF<|aM aL 2 [0,1,7,8,5] Z ?_;refine sr Z fun K9 gU=>aB aL 3 [0,1,7,8,5,11,12,13] Z ?_;refine Sh.bi h fun Ff k39 QT QV h=>E Z (aH aa.av b8 QT QV Z Z Z aaL Z)<|bD (aa.av Ff) Z Z Z xB Z<|Sh.bd h fun yx Dn h=>E (r:=bl yx) Z (iX (ys:=[aa.av Ff,.pp [J jO] 0,.pp [J uL] 0,.pp [sm ai.av uF.aC] 0]) (xs:=[aa.av Ff,.pp [J jO] 0,.pp [J uL] 0,.pp [sm ai.av uF.aC] 0]) (.bS (ys:=[aa.av Ff]) (caps:=[.pp [J jO] 0,.pp [J uL] 0,.pp [sm ai.av uF.aC] 0]) Z Z Z (vt (W0:=W0) Dn).call) (aU.refl _) Z (by simp) (vt Dn))<|mu gU [0,1,7,8,5,16] Z ?_;refine aT Z h (fun h=> ?_) (fun h=> ?_)
    ·refine aM aL 2 [4] Z ?_;replace h:=aZ h dM;cases h;exact aA rk
    ·refine aD<|f_ _ (Y (U [0,1,7,8] Z) ?_);refine aW Z<|E Z (bA Z Z Z Z)<|O Z<|ah ?_;replace h:=bE h;exact⟨_,h,U [0,1,7,8] Z⟩
   ·refine bp ?_;replace h:=aZ h dM;exact dZ () _ h (U [] Z)


theorem jI{b8 jO uL uF r}(h:cC b8 jO uL uF=some r):F1 W0 207 [sm aa.av b8,.bS (.func 208) [.pp [J jO] 0,.pp [J uL] 0,.pp [sm ai.av uF.aC] 0]] (bl r):=by
 refine cB Tryz.func207 Tryz.ntmps207 ?_;unfold cC at h;refine aM aL 1 [0,1] Z ?_;refine sr Z fun K2 b7=>O Z<|O Z<|Sh.bd h fun r3 CA h=>E (r:=J r3) Z (aK Z Z (by simp) (j8 CA))<|aG aL b7 2 [4] Z ?_;cases h;exact aA rk


theorem zK{cK Dl oO nE r}(h:tg cK Dl oO nE=some r):F1 W0 206 [sm aa.av cK,af.av Dl,J oO,J nE] (bl r):=by
 refine cB Tryz.func206 Tryz.ntmps206 ?_;unfold tg at h;refine sr Z fun K1 eB=>E (r:=.ref 0 0 0) Z (bI 1 [af.av Dl] Z Z Z (.inl ⟨Z,Z⟩))<|E (r:=.ref 1 0 0) Z (bI 1 [J oO] Z Z Z (.inl ⟨Z,Z⟩))<|E (r:=.ref 2 0 0) Z (bI 1 [J nE] Z Z Z (.inl ⟨Z,Z⟩))<|V [0,5,6,7] Z<|O Z<|ah ?_;refine eB _ (Y (aU.eo (fr':=[(0,sm aa.av cK),(5,.pp [sm ai.av Dl.aC] 0),(6,.pp [J oO] 0),(7,.pp [J nE] 0)])) ?_);refine sr Z fun K2 b7=>O Z<|E (r:=.bS (.func 208) [.pp [J oO] 0,.pp [J nE] 0,.pp [sm ai.av Dl.aC] 0]) Z (eR Z Z)<|Sh.bd h fun r3 CA h=>E (r:=bl r3) Z (aK Z Z (by simp) (jI CA))<|aG aL b7 1 [8] Z ?_;cases h;exact aA rk


theorem tf{Hv oD uN yX r}(h:kD Hv oD uN yX=some r):F1 W0 185 [.ifc 213 (sm aa.av Hv),.pp [sm ai.av oD.aC] 0,.pp [J uN] 0,.pp [J yX] 0] (bl r):=by
 refine cB Tryz.func185 Tryz.ntmps185 ?_;unfold kD at h;refine aM aL 1 [0,1,2,3] Z ?_;refine sr Z fun K2 b7=>O Z<|bD (af.av oD) Z Z Z eS Z<|aB aL 1 [3,6,7,8] Z ?_;refine bD (J yX) Z Z Z sE Z<|Sh.bd h fun r3 CA h=>E (r:=bl r3) Z (iX (ys:=[sm aa.av Hv,af.av oD,J uN,J yX]) (xs:=[sm aa.av Hv,af.av oD,J uN,J yX]) (.iface Z Z Z TF (zK (W0:=W0) CA).call) (aU.refl _) Z (by simp) (zK CA))<|aG aL b7 1 [5] Z ?_;cases h;exact aA rk


theorem mo{b8 T4 Fa uF LY LZ r}(h:cW b8 T4 Fa uF LY LZ=some r):F1 W0 186 [.clip [.ifc 211 (bO.av b8),.ifc 212 (cF.av T4),.ifc 213 (sm aa.av Fa)],.bS (.func 185) [.pp [sm ai.av uF.aC] 0,.pp [J LY] 0,.pp [J LZ] 0]] (J r):=by
 refine cB Tryz.func186 Tryz.ntmps186 ?_;unfold cW at h;refine aM aL 1 [0,1] Z ?_;refine aO (fun(p:Unit)=>⟨[],.empty⟩) (fun p=>cO=some r) ?_ ?_
 ·rintro⟨⟩ h;unfold cO at h;refine sr Z fun K2 b7=>O Z<|ah<|b7 _ ?_;cases h;exact aA rk
 ·intro K3 dZ;refine sr Z fun K4 gB=>O Z<|E (r:=J 3) Z ((MB Z Z Z H8).conv Z)<|aG aL gB 1 [0,1,7,8] Z ?_;refine aF<|R8 4 ?_;refine Y (U [0,1,7,8] Z) ?_;refine sr Z fun K5 ec=>E (r:=bl true) Z ((dD Z Z Z).tt (by decide))<|ah<|ec _ ?_;refine az fun K6 eE=>nV Z ?_;refine aD<|eE _ (Y (U [0,1,7,8] Z) ?_);refine az fun K7 f_=>aF<|aM aL 2 [0,1,7,8,5] Z ?_;refine sr Z fun K9 gU=>aB aL 3 [0,1,7,8,5,11,12,13] Z ?_;refine E Z (vS Z Z (.inr Z) Z H8 Z Z Z)<|bD (.ifc 211 (bO.av b8)) Z Z Z SU Z<|Sh.bd h fun Cs Gy h=>E (r:=bl Cs) Z (iX (ys:=[.ifc 211 (bO.av b8),.pp [sm ai.av uF.aC] 0,.pp [J LY] 0,.pp [J LZ] 0]) (xs:=[.ifc 211 (bO.av b8),.pp [sm ai.av uF.aC] 0,.pp [J LY] 0,.pp [J LZ] 0]) (.bS (ys:=[.ifc 211 (bO.av b8)]) (caps:=[.pp [sm ai.av uF.aC] 0,.pp [J LY] 0,.pp [J LZ] 0]) Z Z Z (td (W0:=W0) Gy).call) (aU.refl _) Z (by simp) (td Gy))<|mu gU [0,1,7,8,5,16] Z ?_;refine aT Z h (fun h=> ?_) (fun h=> ?_)
  ·refine aM aL 2 [4] Z ?_;cases h;exact aA rk
  ·refine aD<|f_ _ (Y (U [0,1,7,8] Z) ?_);refine aW Z<|E (r:=J 1) Z ((bA Z Z Z Z).conv (congrArg J (by decide)))<|O Z<|ah<|Gf ?_;refine Y (U [0,1,7,8] Z) ?_;refine sr Z fun zh eC=>E (r:=bl true) Z ((dD Z Z Z).tt (by decide))<|ah<|eC _ ?_;refine az fun Am eV=>nV Z ?_;refine aD<|eV _ (Y (U [0,1,7,8] Z) ?_);refine az fun Ae eD=>aF<|aM aL 2 [0,1,7,8,5] Z ?_;refine sr Z fun Fh h_=>aB aL 3 [0,1,7,8,5,11,12,13] Z ?_;refine E Z (vS Z Z (.inr Z) Z H8 Z Z Z)<|bD (.ifc 212 (cF.av T4)) Z Z Z SU Z<|Sh.bd h fun IF IA h=>E (r:=bl IF) Z (iX (ys:=[.ifc 212 (cF.av T4),.pp [sm ai.av uF.aC] 0,.pp [J LY] 0,.pp [J LZ] 0]) (xs:=[.ifc 212 (cF.av T4),.pp [sm ai.av uF.aC] 0,.pp [J LY] 0,.pp [J LZ] 0]) (.bS (ys:=[.ifc 212 (cF.av T4)]) (caps:=[.pp [sm ai.av uF.aC] 0,.pp [J LY] 0,.pp [J LZ] 0]) Z Z Z (uD (W0:=W0) IA).call) (aU.refl _) Z (by simp) (uD IA))<|mu h_ [0,1,7,8,5,16] Z ?_;refine aT Z h (fun h=> ?_) (fun h=> ?_)
   ·refine aM aL 2 [4] Z ?_;cases h;exact aA rk
   ·refine aD<|eD _ (Y (U [0,1,7,8] Z) ?_);refine aW Z<|E (r:=J 2) Z ((bA Z Z Z Z).conv (congrArg J (by decide)))<|O Z<|ah<|Gf ?_;refine Y (U [0,1,7,8] Z) ?_;refine sr Z fun G9 ic=>E (r:=bl true) Z ((dD Z Z Z).tt (by decide))<|ah<|ic _ ?_;refine az fun IS iZ=>nV Z ?_;refine aD<|iZ _ (Y (U [0,1,7,8] Z) ?_);refine az fun IT gV=>aF<|aM aL 2 [0,1,7,8,5] Z ?_;refine sr Z fun Qu uG=>aB aL 3 [0,1,7,8,5,11,12,13] Z ?_;refine E Z (vS Z Z (.inr Z) Z H8 Z Z Z)<|bD (.ifc 213 (sm aa.av Fa)) Z Z Z SU Z<|Sh.bd h fun xK IB h=>E (r:=bl xK) Z (iX (ys:=[.ifc 213 (sm aa.av Fa),.pp [sm ai.av uF.aC] 0,.pp [J LY] 0,.pp [J LZ] 0]) (xs:=[.ifc 213 (sm aa.av Fa),.pp [sm ai.av uF.aC] 0,.pp [J LY] 0,.pp [J LZ] 0]) (.bS (ys:=[.ifc 213 (sm aa.av Fa)]) (caps:=[.pp [sm ai.av uF.aC] 0,.pp [J LY] 0,.pp [J LZ] 0]) Z Z Z (tf (W0:=W0) IB).call) (aU.refl _) Z (by simp) (tf IB))<|mu uG [0,1,7,8,5,16] Z ?_;refine aT Z h (fun h=> ?_) (fun h=> ?_)
    ·refine aM aL 2 [4] Z ?_;cases h;exact aA rk
    ·refine aD<|gV _ (Y (U [0,1,7,8] Z) ?_);refine aW Z<|E (r:=J 3) Z ((bA Z Z Z Z).conv (congrArg J (by decide)))<|O Z<|ah<|Gf ?_;refine Y (U [0,1,7,8] Z) ?_;refine sr Z fun Yw Ag=>E (r:=bl false) Z ((dD Z Z Z).ff (by decide))<|ah<|Ag _ ?_;refine az fun YM AO=>lF Z ?_;refine bp ?_;exact dZ () _ h (U [] Z)


theorem kB{b8 T4 Fa uF LY LZ r}(h:cM b8 T4 Fa uF LY LZ=some r):F1 W0 184 [.clip [.ifc 211 (bO.av b8),.ifc 212 (cF.av T4),.ifc 213 (sm aa.av Fa)],.bS (.func 185) [.pp [sm ai.av uF.aC] 0,.pp [J LY] 0,.pp [J LZ] 0]] (bl r):=by
 refine cB Tryz.func184 Tryz.ntmps184 ?_;unfold cM at h;refine aM aL 1 [0,1] Z ?_;refine sr Z fun K2 b7=>O Z<|O Z<|Sh.bd h fun r3 CA h=>E (r:=J r3) Z (aK Z Z (by simp) (mo CA))<|aG aL b7 2 [4] Z ?_;cases h;exact aA rk


theorem Fp{aQ zp Ad j3 we wg r}(h:u6 aQ zp Ad j3 we wg=some r):F1 W0 177 [af.av aQ,J zp,J Ad,.clip [.ifc 211 (bO.av j3),.ifc 212 (cF.av we),.ifc 213 (sm aa.av wg)]] (bl r):=by
 refine cB Tryz.func177 Tryz.ntmps177 ?_;unfold u6 at h;refine sr Z fun K1 eB=>E (r:=.ref 0 0 0) Z (bI 1 [af.av aQ] Z Z Z (.inl ⟨Z,Z⟩))<|E (r:=.ref 1 0 0) Z (bI 1 [J zp] Z Z Z (.inl ⟨Z,Z⟩))<|E (r:=.ref 2 0 0) Z (bI 1 [J Ad] Z Z Z (.inl ⟨Z,Z⟩))<|V [3,4,5,6] Z<|O Z<|ah ?_;refine eB _ (Y (aU.eo (fr':=[(3,.clip [.ifc 211 (bO.av j3),.ifc 212 (cF.av we),.ifc 213 (sm aa.av wg)]),(4,.pp [sm ai.av aQ.aC] 0),(5,.pp [J zp] 0),(6,.pp [J Ad] 0)])) ?_);refine az fun K2 b7=>aO (fun(p:Bool)=>⟨[(3,.clip [.ifc 211 (bO.av j3),.ifc 212 (cF.av we),.ifc 213 (sm aa.av wg)]),(4,.pp [sm ai.av aQ.aC] 0),(5,.pp [J zp] 0),(6,.pp [J Ad] 0),(26,bl p)],.empty⟩) (fun p=>lJ aQ zp Ad j3 we wg p=some r) ?_ ?_
 ·rintro v13 h;unfold lJ at h;refine aT Z h (fun h=> ?_) (fun h=> ?_)
  ·refine aM aL 1 [8] Z ?_;cases h;exact aA rk
  ·refine aD<|b7 _ (Y (U [3,4,5,6] Z) ?_);refine sr Z fun K4 gB=>O Z<|E (r:=.bS (.func 185) [.pp [sm ai.av aQ.aC] 0,.pp [J zp] 0,.pp [J Ad] 0]) Z (eR Z Z)<|Sh.bd h fun IF IA h=>E (r:=bl IF) Z (aK Z Z (by simp) (kB IA))<|aG aL gB 1 [8] Z ?_;cases h;exact aA rk
 ·intro K5 ec;refine aW Z<|bD (af.av aQ) Z Z Z eS Z<|Sh.bd h fun ER OW h=>E (r:=bl ER) Z (aK Z Z (by simp) (tF OW))<|aB aL 1 [3,4,5,6,11] Z ?_;refine O Z ?_;cases Iz:(!ER)
  ·replace h:=b_ h Iz;refine aB aL 2 [3,4,5,6,12,13,14] Z ?_;refine E (r:=J (Sh.min zp Ad)) Z (N8 Z Z Z)<|aB aL 2 [3,4,5,6,17] Z ?_;refine O Z ?_;cases OK:(decide ((Sh.min zp Ad)<0))
   ·replace h:=b_ h OK;refine aB aL 2 [3,4,5,6,18,19,20] Z ?_;refine E (r:=J (Sh.max zp Ad)) Z (Jn Z Z Z)<|aB aL 2 [3,4,5,6,18,21,23] Z ?_;refine E Z (aX ai.av aQ.aC Z Z fJ)<|aB aL 2 [3,4,5,6,26] Z ?_;refine ah ?_;exact ec (decide ((Sh.len aQ.aC)≤(Sh.max zp Ad))) _ h (U [3,4,5,6,26] Z)
   ·replace h:=cg h OK;refine aB aL 8 [3,4,5,6,26] Z ?_;refine ah ?_;exact ec true _ h (U [3,4,5,6,26] Z)
  ·replace h:=cg h Iz;refine aB aL 14 [3,4,5,6,26] Z ?_;refine ah ?_;exact ec true _ h (U [3,4,5,6,26] Z)


theorem Dg{aQ di oO nE r}(h:vr aQ di oO nE=some r):F1 W0 162 [af.av aQ,sm aa.av di,J oO,J nE] (bl r):=by
 refine cB Tryz.func162 Tryz.ntmps162 ?_;unfold vr at h;refine sr Z fun K1 eB=>E (r:=.ref 0 0 0) Z (bI 1 [af.av aQ] Z Z Z (.inl ⟨Z,Z⟩))<|O Z<|ah<|eB _ (Y (aU.eo (fr':=[(1,sm aa.av di),(2,J oO),(3,J nE),(4,.pp [sm ai.av aQ.aC] 0)])) ?_);refine sr Z fun K2 b7=>bD (af.av aQ) Z Z Z eS Z<|aB aL 2 [1,9,10,11] Z ?_;refine E (r:=.agg []) Z (cm Z agF Z Z Z)<|E (r:=.ifc 211 (.agg [])) Z (nG Z Z Tryz.underlying211 (fun _ h=>by cases h))<|E (r:=.agg []) Z (cm Z agG Z Z Z)<|V [1,9,10,11,13,14] Z<|E (r:=.ifc 212 (.agg [])) Z (nG Z Z Tryz.underlying212 (fun _ h=>by cases h))<|O Z<|E (r:=.ifc 213 (sm aa.av di)) Z (nG Z Z Tryz.underlying213 (fun _ h=>by cases h))<|V [9,10,11,13,15,17] Z ?_;refine E (r:=.clip [.ifc 211 (.agg []),.ifc 212 (.agg []),.ifc 213 (sm aa.av di)]) Z (bu Z (xo:=[.tmp 13,.tmp 15,.tmp 17]) Z Z Z (by simp[AV.dH]) (by simp[AV.flat]) H8 acV (by decide))<|Sh.bd h fun r3 CA h=>E (r:=bl r3) Z (oV Z (ys:=[af.av aQ,J oO,J nE,.clip [.ifc 211 (.agg []),.ifc 212 (.agg []),.ifc 213 (sm aa.av di)]]) (xs:=[af.av aQ,J oO,J nE,.clip [.ifc 211 (bO.av bO.mk),.ifc 212 (cF.av cF.mk),.ifc 213 (sm aa.av di)]]) Z (aU.eo (fr':=cQ 0 [af.av aQ,J oO,J nE,.clip [.ifc 211 (bO.av bO.mk),.ifc 212 (cF.av cF.mk),.ifc 213 (sm aa.av di)]])) Z (by simp) (Fp CA))<|aG aL b7 1 [8] Z ?_;cases h;exact aA rk


theorem xU{yC oD uN yX r}(h:qN yC oD uN yX=some r):F1 W0 212 [an.av yC,.pp [sm ai.av oD.aC] 0,.pp [J uN] 0,.pp [sm aa.av yX] 0] (bl r):=by
 refine cB Tryz.func212 Tryz.ntmps212 ?_;unfold qN at h;refine sr Z fun K1 eB=>E (r:=.ref 0 0 0) Z (bI 2 [an.av yC] Z Z Z (.inl ⟨Z,Z⟩))<|O Z<|ah<|eB _ (Y (aU.eo (fr':=[(1,.pp [sm ai.av oD.aC] 0),(2,.pp [J uN] 0),(3,.pp [sm aa.av yX] 0),(4,.pp [J yC.Key,J yC.bT] 0)])) ?_);refine sr Z fun K2 b7=>bD (af.av oD) Z Z Z eS Z<|aB aL 2 [2,3,4,6,7,8] Z ?_;refine bD (J yC.Key) Z Z Z sE Z<|Sh.bd h fun Cs Gy h=>E (r:=bl Cs) Z (aK Z Z (by simp) (zJ Gy))<|aB aL 1 [2,3,4,11] Z ?_;cases OI:(Cs)
 ·replace h:=b_ h OI;refine aG aL b7 21 [5] Z ?_;cases h;exact aA rk
 ·replace h:=cg h OI;refine aB aL 3 [2,3,4,11,14] Z ?_;refine O Z ?_;cases Gw:(decide (yC.bT<0))
  ·replace h:=b_ h Gw;refine aB aL 5 [2,3,4,11,15,20] Z ?_;cases OJ:(decide (yC.bT≠uN))
   ·replace h:=b_ h OJ;refine aG aL b7 12 [5] Z ?_;cases h;exact aA rk
   ·replace h:=cg h OJ;refine aB aL 6 [11,15,20,21,23,25,26] Z ?_;refine E (r:=.agg [J yC.Key,J yC.bT,J uN]) Z (cm Z Oe Z Z Z)<|Sh.bd h fun IF IA h=>E (r:=bl IF) Z (oV Z (ys:=[sm aa.av yX,.agg [J yC.Key,J yC.bT,J uN]]) (xs:=[sm aa.av yX,aa.av (aa.mk yC.Key yC.bT uN)]) Z (aU.eo (fr':=cQ 0 [sm aa.av yX,aa.av (aa.mk yC.Key yC.bT uN)])) Z (by simp) (tV IA))<|aG aL b7 4 [5] Z ?_;cases h;exact aA rk
  ·replace h:=cg h Gw;refine aG aL b7 17 [5] Z ?_;cases h;exact aA rk


theorem oB{b8 jO uL uF r}(h:dr b8 jO uL uF=some r):F1 W0 146 [sm an.av b8,.bS (.func 212) [.pp [sm ai.av jO.aC] 0,.pp [J uL] 0,.pp [sm aa.av uF] 0]] (J r):=by
 refine cB Tryz.func146 Tryz.ntmps146 ?_;unfold dr at h;refine aM aL 1 [0,1] Z ?_;refine aO (fun(p:Unit)=>⟨[],.empty⟩) (fun p=>c_=some r) ?_ ?_
 ·rintro⟨⟩ h;unfold c_ at h;refine sr Z fun K2 b7=>O Z<|ah<|b7 _ ?_;cases h;exact aA rk
 ·intro K3 dZ;refine sr Z fun K4 gB=>O Z<|E Z (aX an.av b8 Z Z qA)<|aG aL gB 1 [0,1,7,8] Z ?_;refine aF<|bq (fun(p:Int)=>cw b8 jO uL uF p) (fun p=>⟨[(0,sm an.av b8),(1,.bS (.func 212) [.pp [sm ai.av jO.aC] 0,.pp [J uL] 0,.pp [sm aa.av uF] 0]),(7,J (Sh.len b8)),(8,J p)],.empty⟩) h (U [0,1,7,8] Z) ?_
  ·rintro v30 o1 h dM;unfold cw at h;refine sr Z fun K5 ec=>E Z (dD Z Z Z)<|ah<|ec _ ?_;refine az fun K6 eE=>aT Z h (fun h=> ?_) (fun h=> ?_)
   ·refine aD<|eE _ (Y (U [0,1,7,8] Z) ?_);refine az fun K7 f_=>aF<|aM aL 2 [0,1,7,8,5] Z ?_;refine sr Z fun K9 gU=>aB aL 3 [0,1,7,8,5,11,12,13] Z ?_;refine Sh.bi h fun Ff k39 QT QV h=>E Z (aH an.av b8 QT QV Z Z Z qA Z)<|bD (an.av Ff) Z Z Z EW Z<|Sh.bd h fun yx Dn h=>E (r:=bl yx) Z (iX (ys:=[an.av Ff,.pp [sm ai.av jO.aC] 0,.pp [J uL] 0,.pp [sm aa.av uF] 0]) (xs:=[an.av Ff,.pp [sm ai.av jO.aC] 0,.pp [J uL] 0,.pp [sm aa.av uF] 0]) (.bS (ys:=[an.av Ff]) (caps:=[.pp [sm ai.av jO.aC] 0,.pp [J uL] 0,.pp [sm aa.av uF] 0]) Z Z Z (xU (W0:=W0) Dn).call) (aU.refl _) Z (by simp) (xU Dn))<|mu gU [0,1,7,8,5,16] Z ?_;refine aT Z h (fun h=> ?_) (fun h=> ?_)
    ·refine aM aL 2 [4] Z ?_;replace h:=aZ h dM;cases h;exact aA rk
    ·refine aD<|f_ _ (Y (U [0,1,7,8] Z) ?_);refine aW Z<|E Z (bA Z Z Z Z)<|O Z<|ah ?_;replace h:=bE h;exact⟨_,h,U [0,1,7,8] Z⟩
   ·refine bp ?_;replace h:=aZ h dM;exact dZ () _ h (U [] Z)


theorem nv{b8 jO uL uF r}(h:c7 b8 jO uL uF=some r):F1 W0 116 [sm an.av b8,.bS (.func 212) [.pp [sm ai.av jO.aC] 0,.pp [J uL] 0,.pp [sm aa.av uF] 0]] (bl r):=by
 refine cB Tryz.func116 Tryz.ntmps116 ?_;unfold c7 at h;refine aM aL 1 [0,1] Z ?_;refine sr Z fun K2 b7=>O Z<|O Z<|Sh.bd h fun r3 CA h=>E (r:=J r3) Z (aK Z Z (by simp) (oB CA))<|aG aL b7 2 [4] Z ?_;cases h;exact aA rk


theorem Ck{cK Dl oO nE r}(h:vU cK Dl oO nE=some r):F1 W0 211 [sm aa.av cK,af.av Dl,J oO,J nE] (bl r):=by
 refine cB Tryz.func211 Tryz.ntmps211 ?_;unfold vU at h;refine sr Z fun K1 eB=>E (r:=.ref 0 0 0) Z (bI 1 [sm aa.av cK] Z Z Z (.inl ⟨Z,Z⟩))<|E (r:=.ref 1 0 0) Z (bI 1 [af.av Dl] Z Z Z (.inl ⟨Z,Z⟩))<|E (r:=.ref 2 0 0) Z (bI 1 [J nE] Z Z Z (.inl ⟨Z,Z⟩))<|V [2,4,5,7] Z<|O Z<|ah ?_;refine eB _ (Y (aU.eo (fr':=[(2,J oO),(4,.pp [sm aa.av cK] 0),(5,.pp [sm ai.av Dl.aC] 0),(7,.pp [J nE] 0)])) ?_);refine sr Z fun K2 b7=>aB aL 3 [2,4,5,7,11] Z ?_;refine O Z ?_;cases M4:(decide (oO≠nE))
 ·replace h:=b_ h M4;refine aG aL b7 10 [8] Z ?_;cases h;exact aA rk
 ·replace h:=cg h M4;refine aB aL 2 [2,4,5,7,12,14] Z ?_;refine O Z<|Sh.bi h fun x11 k12 aoI ape h=>E Z (aH ai.av Dl.aC aoI ape Z Z Z fJ Z)<|aB aL 1 [4,5,7,12,17] Z ?_;refine bD (sm an.av x11.Reads) Z Z Z Lv Z<|E (r:=.bS (.func 212) [.pp [sm ai.av Dl.aC] 0,.pp [J nE] 0,.pp [sm aa.av cK] 0]) Z (eR Z Z)<|Sh.bd h fun IE Tr h=>E (r:=bl IE) Z (aK Z Z (by simp) (nv Tr))<|aG aL b7 2 [8] Z ?_;cases h;exact aA rk


theorem uC{Hv oD uN yX r}(h:oE Hv oD uN yX=some r):F1 W0 185 [.ifc 214 (sm aa.av Hv),.pp [sm ai.av oD.aC] 0,.pp [J uN] 0,.pp [J yX] 0] (bl r):=by
 refine cB Tryz.func185 Tryz.ntmps185 ?_;unfold oE at h;refine aM aL 1 [0,1,2,3] Z ?_;refine sr Z fun K2 b7=>O Z<|bD (af.av oD) Z Z Z eS Z<|aB aL 1 [3,6,7,8] Z ?_;refine bD (J yX) Z Z Z sE Z<|Sh.bd h fun r3 CA h=>E (r:=bl r3) Z (iX (ys:=[sm aa.av Hv,af.av oD,J uN,J yX]) (xs:=[sm aa.av Hv,af.av oD,J uN,J yX]) (.iface Z Z Z TG (Ck (W0:=W0) CA).call) (aU.refl _) Z (by simp) (Ck CA))<|aG aL b7 1 [5] Z ?_;cases h;exact aA rk


theorem mm{b8 jO uL uF r}(h:cV b8 jO uL uF=some r):F1 W0 186 [.clip [.ifc 214 (sm aa.av b8)],.bS (.func 185) [.pp [sm ai.av jO.aC] 0,.pp [J uL] 0,.pp [J uF] 0]] (J r):=by
 refine cB Tryz.func186 Tryz.ntmps186 ?_;unfold cV at h;refine aM aL 1 [0,1] Z ?_;refine aO (fun(p:Unit)=>⟨[],.empty⟩) (fun p=>cN=some r) ?_ ?_
 ·rintro⟨⟩ h;unfold cN at h;refine sr Z fun K2 b7=>O Z<|ah<|b7 _ ?_;cases h;exact aA rk
 ·intro K3 dZ;refine sr Z fun K4 gB=>O Z<|E (r:=J 1) Z ((MB Z Z Z H8).conv Z)<|aG aL gB 1 [0,1,7,8] Z ?_;refine aF<|R8 2 ?_;refine Y (U [0,1,7,8] Z) ?_;refine sr Z fun K5 ec=>E (r:=bl true) Z ((dD Z Z Z).tt (by decide))<|ah<|ec _ ?_;refine az fun K6 eE=>nV Z ?_;refine aD<|eE _ (Y (U [0,1,7,8] Z) ?_);refine az fun K7 f_=>aF<|aM aL 2 [0,1,7,8,5] Z ?_;refine sr Z fun K9 gU=>aB aL 3 [0,1,7,8,5,11,12,13] Z ?_;refine E Z (vS Z Z (.inr Z) Z H8 Z Z Z)<|bD (.ifc 214 (sm aa.av b8)) Z Z Z SU Z<|Sh.bd h fun r6 Wu h=>E (r:=bl r6) Z (iX (ys:=[.ifc 214 (sm aa.av b8),.pp [sm ai.av jO.aC] 0,.pp [J uL] 0,.pp [J uF] 0]) (xs:=[.ifc 214 (sm aa.av b8),.pp [sm ai.av jO.aC] 0,.pp [J uL] 0,.pp [J uF] 0]) (.bS (ys:=[.ifc 214 (sm aa.av b8)]) (caps:=[.pp [sm ai.av jO.aC] 0,.pp [J uL] 0,.pp [J uF] 0]) Z Z Z (uC (W0:=W0) Wu).call) (aU.refl _) Z (by simp) (uC Wu))<|mu gU [0,1,7,8,5,16] Z ?_;refine aT Z h (fun h=> ?_) (fun h=> ?_)
  ·refine aM aL 2 [4] Z ?_;cases h;exact aA rk
  ·refine aD<|f_ _ (Y (U [0,1,7,8] Z) ?_);refine aW Z<|E (r:=J 1) Z ((bA Z Z Z Z).conv (congrArg J (by decide)))<|O Z<|ah<|Gf ?_;refine Y (U [0,1,7,8] Z) ?_;refine sr Z fun zh eC=>E (r:=bl false) Z ((dD Z Z Z).ff (by decide))<|ah<|eC _ ?_;refine az fun Am eV=>lF Z ?_;refine bp ?_;exact dZ () _ h (U [] Z)


theorem kz{b8 jO uL uF r}(h:cL b8 jO uL uF=some r):F1 W0 184 [.clip [.ifc 214 (sm aa.av b8)],.bS (.func 185) [.pp [sm ai.av jO.aC] 0,.pp [J uL] 0,.pp [J uF] 0]] (bl r):=by
 refine cB Tryz.func184 Tryz.ntmps184 ?_;unfold cL at h;refine aM aL 1 [0,1] Z ?_;refine sr Z fun K2 b7=>O Z<|O Z<|Sh.bd h fun r3 CA h=>E (r:=J r3) Z (aK Z Z (by simp) (mm CA))<|aG aL b7 2 [4] Z ?_;cases h;exact aA rk


theorem Fo{aQ zp Ad j3 r}(h:u5 aQ zp Ad j3=some r):F1 W0 177 [af.av aQ,J zp,J Ad,.clip [.ifc 214 (sm aa.av j3)]] (bl r):=by
 refine cB Tryz.func177 Tryz.ntmps177 ?_;unfold u5 at h;refine sr Z fun K1 eB=>E (r:=.ref 0 0 0) Z (bI 1 [af.av aQ] Z Z Z (.inl ⟨Z,Z⟩))<|E (r:=.ref 1 0 0) Z (bI 1 [J zp] Z Z Z (.inl ⟨Z,Z⟩))<|E (r:=.ref 2 0 0) Z (bI 1 [J Ad] Z Z Z (.inl ⟨Z,Z⟩))<|V [3,4,5,6] Z<|O Z<|ah ?_;refine eB _ (Y (aU.eo (fr':=[(3,.clip [.ifc 214 (sm aa.av j3)]),(4,.pp [sm ai.av aQ.aC] 0),(5,.pp [J zp] 0),(6,.pp [J Ad] 0)])) ?_);refine az fun K2 b7=>aO (fun(p:Bool)=>⟨[(3,.clip [.ifc 214 (sm aa.av j3)]),(4,.pp [sm ai.av aQ.aC] 0),(5,.pp [J zp] 0),(6,.pp [J Ad] 0),(26,bl p)],.empty⟩) (fun p=>lI aQ zp Ad j3 p=some r) ?_ ?_
 ·rintro v13 h;unfold lI at h;refine aT Z h (fun h=> ?_) (fun h=> ?_)
  ·refine aM aL 1 [8] Z ?_;cases h;exact aA rk
  ·refine aD<|b7 _ (Y (U [3,4,5,6] Z) ?_);refine sr Z fun K4 gB=>O Z<|E (r:=.bS (.func 185) [.pp [sm ai.av aQ.aC] 0,.pp [J zp] 0,.pp [J Ad] 0]) Z (eR Z Z)<|Sh.bd h fun IF IA h=>E (r:=bl IF) Z (aK Z Z (by simp) (kz IA))<|aG aL gB 1 [8] Z ?_;cases h;exact aA rk
 ·intro K5 ec;refine aW Z<|bD (af.av aQ) Z Z Z eS Z<|Sh.bd h fun ER OW h=>E (r:=bl ER) Z (aK Z Z (by simp) (tF OW))<|aB aL 1 [3,4,5,6,11] Z ?_;refine O Z ?_;cases Iz:(!ER)
  ·replace h:=b_ h Iz;refine aB aL 2 [3,4,5,6,12,13,14] Z ?_;refine E (r:=J (Sh.min zp Ad)) Z (N8 Z Z Z)<|aB aL 2 [3,4,5,6,17] Z ?_;refine O Z ?_;cases OK:(decide ((Sh.min zp Ad)<0))
   ·replace h:=b_ h OK;refine aB aL 2 [3,4,5,6,18,19,20] Z ?_;refine E (r:=J (Sh.max zp Ad)) Z (Jn Z Z Z)<|aB aL 2 [3,4,5,6,18,21,23] Z ?_;refine E Z (aX ai.av aQ.aC Z Z fJ)<|aB aL 2 [3,4,5,6,26] Z ?_;refine ah ?_;exact ec (decide ((Sh.len aQ.aC)≤(Sh.max zp Ad))) _ h (U [3,4,5,6,26] Z)
   ·replace h:=cg h OK;refine aB aL 8 [3,4,5,6,26] Z ?_;refine ah ?_;exact ec true _ h (U [3,4,5,6,26] Z)
  ·replace h:=cg h Iz;refine aB aL 14 [3,4,5,6,26] Z ?_;refine ah ?_;exact ec true _ h (U [3,4,5,6,26] Z)


theorem Gi{aQ di oO nE r}(h:zj aQ di oO nE=some r):F1 W0 163 [af.av aQ,sm aa.av di,J oO,J nE] (bl r):=by
 refine cB Tryz.func163 Tryz.ntmps163 ?_;unfold zj at h;refine sr Z fun K1 eB=>E (r:=.ref 0 0 0) Z (bI 1 [af.av aQ] Z Z Z (.inl ⟨Z,Z⟩))<|O Z<|ah<|eB _ (Y (aU.eo (fr':=[(1,sm aa.av di),(2,J oO),(3,J nE),(4,.pp [sm ai.av aQ.aC] 0)])) ?_);refine sr Z fun K2 b7=>bD (af.av aQ) Z Z Z eS Z<|aB aL 2 [1,9,10,11] Z ?_;refine O Z<|E (r:=.ifc 214 (sm aa.av di)) Z (nG Z Z Tryz.underlying214 (fun _ h=>by cases h))<|E (r:=.clip [.ifc 214 (sm aa.av di)]) Z (bu Z (xo:=[.tmp 13]) Z Z Z (by simp[AV.dH]) (by simp[AV.flat]) H8 acV (by decide))<|V [9,10,11,14] Z<|Sh.bd h fun r3 CA h=>E (r:=bl r3) Z (aK Z Z (by simp) (Fo CA))<|aG aL b7 1 [8] Z ?_;cases h;exact aA rk


theorem QI{aQ bf gz F4 Fg r}(h:Gj aQ bf gz F4 Fg=some r):F1 W0 135 [af.av aQ,J bf,sm aa.av gz,J F4,J Fg] (bl r):=by
 refine cB Tryz.func135 Tryz.ntmps135 ?_;unfold Gj at h;refine sr Z fun K1 eB=>E (r:=.ref 0 0 0) Z (bI 1 [af.av aQ] Z Z Z (.inl ⟨Z,Z⟩))<|O Z<|ah<|eB _ (Y (aU.eo (fr':=[(1,J bf),(2,sm aa.av gz),(3,J F4),(4,J Fg),(5,.pp [sm ai.av aQ.aC] 0)])) ?_);refine aO (fun(p:Unit)=>⟨[],.empty⟩) (fun p=>xl=some r) ?_ ?_
 ·rintro⟨⟩ h;unfold xl at h;refine sr Z fun K2 b7=>O Z<|ah<|b7 _ ?_;cases h;exact aA rk
 ·intro K3 dZ;refine aM aL 1 [2,3,4,5,12] Z ?_;refine aF<|aM aL 2 [2,3,4,5,12,13] Z ?_;refine aT Z h (fun h=> ?_) (fun h=> ?_)
  ·refine sr Z fun K6 eE=>bD (af.av aQ) Z Z Z eS Z<|aB aL 2 [2,3,4,5,15,16,17] Z ?_;refine O Z<|Sh.bd h fun KV ad7 h=>E (r:=bl KV) Z (aK Z Z (by simp) (Dg ad7))<|aB aL 1 [2,3,4,5,20] Z ?_;cases Vn:(KV)
   ·replace h:=b_ h Vn;refine bD (af.av aQ) Z Z Z eS Z<|aB aL 2 [4,20,21,22,23] Z ?_;refine O Z<|Sh.bd h fun Ii Wt h=>E (r:=bl Ii) Z (aK Z Z (by simp) (Gi Wt))<|aG aL eE 2 [10] Z ?_;cases h;exact aA rk
   ·replace h:=cg h Vn;refine aG aL eE 7 [10] Z ?_;cases h;exact aA rk
  ·refine aM aL 2 [2,3,4,5,27] Z ?_;refine aT Z h (fun h=> ?_) (fun h=> ?_)
   ·refine sr Z fun K8 gd=>jc Z rN<|bD (sm ai.av aQ.aC) Z Z Z ze Z<|E Z (aX ai.av aQ.aC Z Z fJ)<|V [2,3,4,5,31] Z<|O Z<|ah ?_;refine gd _ ?_;refine aF<|bq (fun(p:Int)=>zH aQ gz F4 Fg p) (fun p=>⟨[(2,sm aa.av gz),(3,J F4),(4,J Fg),(5,.pp [sm ai.av aQ.aC] 0),(31,J (Sh.len aQ.aC)),(32,J p)],.empty⟩) h (U [2,3,4,5,31,32] Z) ?_
    ·rintro IL o1 h dM;unfold zH at h;refine sr Z fun K9 gU=>E Z (dD Z Z Z)<|ah<|gU _ ?_;refine az fun vQ dh=>aT Z h (fun h=> ?_) (fun h=> ?_)
     ·refine aD<|dh _ (Y (U [2,3,4,5,31,32] Z) ?_);refine az fun zh eC=>aF<|aM aL 2 [2,3,4,5,31,32,11] Z ?_;refine aO (fun(p:Bool)=>⟨[(2,sm aa.av gz),(3,J F4),(4,J Fg),(5,.pp [sm ai.av aQ.aC] 0),(31,J (Sh.len aQ.aC)),(32,J IL),(51,bl p)],.empty⟩) (fun p=>xm IL p=some o1) ?_ ?_
      ·rintro v73 h;unfold xm at h;refine aT Z h (fun h=> ?_) (fun h=> ?_)
       ·refine aM aL 1 [10] Z ?_;replace h:=aZ h dM;cases h;exact aA rk
       ·refine aD<|eC _ (Y (U [2,3,4,5,31,32] Z) ?_);refine aW Z<|E Z (bA Z Z Z Z)<|O Z<|ah ?_;replace h:=bE h;exact⟨_,h,U [2,3,4,5,31,32] Z⟩
      ·intro BH e9;refine aW Z<|bD (af.av aQ) Z Z Z eS Z<|aB aL 2 [2,3,4,5,31,32,11,35,36,37] Z ?_;refine O Z<|Sh.bd h fun qw Ts h=>E (r:=bl qw) Z (aK Z Z (by simp) (Dg Ts))<|aB aL 1 [2,3,4,5,31,32,11,40] Z ?_;cases ahx:(qw)
       ·replace h:=b_ h ahx;refine aB aL 11 [2,3,4,5,31,32,51] Z ?_;refine ah ?_;exact e9 false _ h (U [2,3,4,5,31,32,51] Z)
       ·replace h:=cg h ahx;refine aB aL 3 [2,3,4,5,31,32,11,40,41,42,43] Z ?_;refine O Z ?_;cases Vp:(decide (IL=Fg))
        ·replace h:=b_ h Vp;refine bD (af.av aQ) Z Z Z eS Z<|aB aL 1 [2,3,4,5,31,32,11,40,41,42,43,44,45,46] Z ?_;refine O Z<|O Z<|Sh.bd h fun r78 apW h=>E (r:=bl r78) Z (aK Z Z (by simp) (Gi apW))<|aB aL 2 [2,3,4,5,31,32,51] Z ?_;refine ah ?_;exact e9 r78 _ h (U [2,3,4,5,31,32,51] Z)
        ·replace h:=cg h Vp;refine aB aL 7 [2,3,4,5,31,32,51] Z ?_;refine ah ?_;exact e9 true _ h (U [2,3,4,5,31,32,51] Z)
     ·refine bp ?_;replace h:=aZ h dM;exact dZ () _ h (U [] Z)
   ·exact aD<|dZ () _ h (U [] Z)


theorem La{aQ bf gz eH r}(h:zG aQ bf gz eH=some r):F1 W0 104 [af.av aQ,J bf,sm aa.av gz,sm J eH] (bl r):=by
 refine cB Tryz.func104 Tryz.ntmps104 ?_;unfold zG at h;refine sr Z fun K1 eB=>E (r:=.ref 0 0 0) Z (bI 1 [af.av aQ] Z Z Z (.inl ⟨Z,Z⟩))<|O Z<|ah<|eB _ (Y (aU.eo (fr':=[(1,J bf),(2,sm aa.av gz),(3,sm J eH),(4,.pp [sm ai.av aQ.aC] 0)])) ?_);refine aO (fun(p:Unit)=>⟨[(3,sm J eH)],.empty⟩) (fun p=>xG eH=some r) ?_ ?_
 ·rintro⟨⟩ h;unfold xG at h;refine sr Z fun K2 b7=>O Z<|E Z (aX J eH Z Z bX)<|aG aL b7 2 [8] Z ?_;cases h;exact aA rk
 ·intro K3 dZ;refine sr Z fun K4 gB=>O Z<|E Z (aX J eH Z Z bX)<|O Z<|ah<|gB _ ?_;refine aF<|bq (fun(p:Int)=>uP aQ bf gz eH p) (fun p=>⟨[(1,J bf),(2,sm aa.av gz),(3,sm J eH),(4,.pp [sm ai.av aQ.aC] 0),(11,sm J eH),(12,J (Sh.len eH)),(13,J p)],.empty⟩) h (U [1,2,3,4,11,12,13] Z) ?_
  ·rintro Yg o1 h dM;unfold uP at h;refine sr Z fun K5 ec=>E Z (dD Z Z Z)<|ah<|ec _ ?_;refine az fun K6 eE=>aT Z h (fun h=> ?_) (fun h=> ?_)
   ·refine aD<|eE _ (Y (U [1,2,3,4,11,12,13] Z) ?_);refine az fun K7 f_=>aF<|sr Z fun K8 gd=>O Z<|Sh.bi h fun afx asX ahJ ajn h=>E Z (aH J eH ahJ ajn Z Z Z bX Z)<|aG aL gd 3 [1,2,3,4,11,12,13,9,10] Z ?_;refine aO (fun(p:Bool)=>⟨[(1,J bf),(2,sm aa.av gz),(3,sm J eH),(4,.pp [sm ai.av aQ.aC] 0),(11,sm J eH),(12,J (Sh.len eH)),(13,J Yg),(38,bl p)],.empty⟩) (fun p=>tE Yg p=some o1) ?_ ?_
    ·rintro v109 h;unfold tE at h;refine aT Z h (fun h=> ?_) (fun h=> ?_)
     ·refine aM aL 1 [8] Z ?_;replace h:=aZ h dM;cases h;exact aA rk
     ·refine aD<|f_ _ (Y (U [1,2,3,4,11,12,13] Z) ?_);refine aW Z<|E Z (bA Z Z Z Z)<|O Z<|ah ?_;replace h:=bE h;exact⟨_,h,U [1,2,3,4,11,12,13] Z⟩
    ·intro vQ dh;refine b5 (fl 21 [] []) (by kernel_rfl) (by kernel_rfl) Z ?_;refine bt Z<|bt Z<|Sh.bd h fun Jg Wh h=>aJ (r:=sm J Jg) Z (fun _=>SV J eH Jg Wh (fun _=>Z) Z Z (.inl Z) (.inl ⟨Z,Z⟩) (.inr ⟨_,_,Z,Z⟩) bX)<|bP [1,2,3,4,11,12,13,9,10,20] Z<|bt Z<|Sh.bd h fun ZY akZ h=>aJ (r:=bl ZY) Z (fun _=>aK Z Z (by simp) (gR akZ)) ?_;refine aS aL 1 [1,2,3,4,11,12,13,9,10,23] Z ?_;cases aaT:(ZY)
     ·replace h:=b_ h aaT;refine bQ (af.av aQ) Z Z Z eS Z<|aS aL 5 [1,2,3,4,11,12,13,23,24,25,26,27,28,29] Z ?_;refine aJ Z (fun _=>bA Z Z Z Z)<|bt Z<|aJ Z (fun _=>aX J eH Z Z bX)<|bP [1,2,3,4,11,12,13,23,24,25,26,27,28,29,30,31,32] Z<|Sh.bd h fun aeO ab_ h=>aJ (r:=J aeO) Z (fun _=>BI Z Z Z (tv ab_).1 (tv ab_).2)<|Sh.bi h fun ane as4 ahP ajt h=>aJ Z (fun _=>aH J eH ahP ajt Z Z Z bX Z) ?_;refine aS aL 1 [1,2,3,4,11,12,13,23,24,25,26,27,28,29,30,31,32,33,34,35] Z ?_;refine Sh.bd h fun Z0 ak1 h=>aJ (r:=bl Z0) Z (fun _=>aK Z Z (by simp) (QI ak1))<|aS aL 2 [1,2,3,4,11,12,13,38] Z ?_;refine bw ?_;exact dh (!Z0) _ h (U [1,2,3,4,11,12,13,38] Z)
     ·replace h:=cg h aaT;refine aS aL 15 [1,2,3,4,11,12,13,38] Z ?_;refine bw ?_;exact dh true _ h (U [1,2,3,4,11,12,13,38] Z)
   ·refine bp ?_;replace h:=aZ h dM;exact dZ () _ h (U [3] Z)

end Wk
