/- That the functions of a package do what their plain functions say. -/
import Derived.Test.YtleihjegenjacaaGreatWkZinquestref18
open Go Go.Av Go.Proofs G Go.Sh Go.Av.Sh
set_option linter.unusedVariables false
set_option maxHeartbeats 8000000
set_option maxRecDepth 20000
namespace Wk
variable {W0:World}
theorem yP{aQ zp Ad r}(h:o4 aQ zp Ad=some r):F1 W0 178 [af.av aQ,J zp,J Ad] (bl r):=by
 refine cB Tryz.func178 Tryz.ntmps178 ?_;unfold o4 at h;refine sr Z fun K1 eB=>E (r:=.ref 0 0 0) Z (bI 1 [af.av aQ] Z Z Z (.inl ⟨Z,Z⟩))<|O Z<|ah<|eB _ (Y (aU.eo (fr':=[(1,J zp),(2,J Ad),(3,.pp [sm ai.av aQ.aC] 0)])) ?_);refine sr Z fun K2 b7=>bD (af.av aQ) Z Z Z eS Z<|Sh.bd h fun r8 ZA h=>E (r:=bl r8) Z (aK Z Z (by simp) (fo ZA))<|aG aL b7 1 [1,2,3,7] Z ?_;refine sr Z fun K3 dZ=>O Z<|O Z ?_;cases OI:(r8)
 ·replace h:=b_ h OI;refine aG aL dZ 22 [6] Z ?_;cases h;exact aA rk
 ·replace h:=cg h OI;refine aB aL 4 [1,2,3,15] Z ?_;cases Gw:(decide ((0:Int)≤zp))
  ·replace h:=b_ h Gw;refine aG aL dZ 18 [6] Z ?_;cases h;exact aA rk
  ·replace h:=cg h Gw;refine aB aL 3 [2,3,15,16,18] Z ?_;refine E Z (aX ai.av aQ.aC Z Z fJ)<|aB aL 2 [2,3,21] Z ?_;refine O Z ?_;cases OJ:(decide (zp<(Sh.len aQ.aC)))
   ·replace h:=b_ h OJ;refine aG aL dZ 11 [6] Z ?_;cases h;exact aA rk
   ·replace h:=cg h OJ;refine aB aL 2 [2,3,22,24] Z ?_;refine O Z<|O Z ?_;cases U9:(decide ((0:Int)≤Ad))
    ·replace h:=b_ h U9;refine aG aL dZ 7 [6] Z ?_;cases h;exact aA rk
    ·replace h:=cg h U9;refine aB aL 1 [3,26,27] Z ?_;refine jc Z rN<|bD (sm ai.av aQ.aC) Z Z Z ze Z<|E Z (aX ai.av aQ.aC Z Z fJ)<|aG aL dZ 3 [6] Z ?_;cases h;exact aA rk


theorem v_{aQ di oO nE r}(h:kf aQ di oO nE=some r):F1 W0 164 [af.av aQ,sm aa.av di,J oO,J nE] (bl r):=by
 refine cB Tryz.func164 Tryz.ntmps164 ?_;unfold kf at h;refine sr Z fun K1 eB=>E (r:=.ref 0 0 0) Z (bI 1 [af.av aQ] Z Z Z (.inl ⟨Z,Z⟩))<|O Z<|ah<|eB _ (Y (aU.eo (fr':=[(1,sm aa.av di),(2,J oO),(3,J nE),(4,.pp [sm ai.av aQ.aC] 0)])) ?_);refine sr Z fun K2 b7=>bD (af.av aQ) Z Z Z eS Z<|aB aL 2 [1,2,3,4,13,14,15] Z ?_;refine Sh.bd h fun r58 apR h=>E (r:=bl r58) Z (aK Z Z (by simp) (yP apR))<|aG aL b7 1 [1,2,3,4,9] Z ?_;refine az fun K3 dZ=>aM aL 2 [1,2,3,4,18] Z ?_;refine aT Z h (fun h=> ?_) (fun h=> ?_)
 ·refine aM aL 1 [8] Z ?_;cases h;exact aA rk
 ·refine aD<|dZ _ (Y (U [1,2,3,4] Z) ?_);refine az fun K6 eE=>aO (fun(p:Bool)=>⟨[(1,sm aa.av di),(2,J oO),(3,J nE),(4,.pp [sm ai.av aQ.aC] 0),(36,bl p)],.empty⟩) (fun p=>gZ aQ di oO nE p=some r) ?_ ?_
  ·rintro Yd h;unfold gZ at h;refine aT Z h (fun h=> ?_) (fun h=> ?_)
   ·refine aM aL 1 [8] Z ?_;cases h;exact aA rk
   ·refine aD<|eE _ (Y (U [1,2,3,4] Z) ?_);refine aO (fun(p:Unit)=>⟨[(1,sm aa.av di),(2,J oO),(3,J nE),(4,.pp [sm ai.av aQ.aC] 0)],.empty⟩) (fun p=>jW aQ di oO nE=some r) ?_ ?_
    ·rintro⟨⟩ h;unfold jW at h;refine aO (fun(p:Unit)=>⟨[],.empty⟩) (fun p=>oL=some r) ?_ ?_
     ·rintro⟨⟩ h;unfold oL at h;refine sr Z fun K8 gd=>O Z<|ah<|gd _ ?_;cases h;exact aA rk
     ·intro K9 gU;refine sr Z fun vQ dh=>O Z<|ah<|dh _ ?_;refine aF<|bq (fun(p:Int)=>jU aQ di oO nE p) (fun p=>⟨[(1,sm aa.av di),(2,J oO),(3,J nE),(4,.pp [sm ai.av aQ.aC] 0),(11,J p)],.empty⟩) h (U [1,2,3,4,11] Z) ?_
      ·rintro i141 o1 h dM;unfold jU at h;refine az fun zh eC=>sr Z fun Am eV=>O Z<|O Z<|E Z (aX aa.av di Z Z vJ)<|aG aL eV 1 [1,2,3,4,11,63] Z ?_;refine aT Z h (fun h=> ?_) (fun h=> ?_)
       ·refine aD<|eC _ (Y (U [1,2,3,4,11] Z) ?_);refine aO (fun(p:Unit)=>⟨[(1,sm aa.av di),(2,J oO),(3,J nE),(4,.pp [sm ai.av aQ.aC] 0),(11,J i141)],.empty⟩) (fun p=>jX i141=some o1) ?_ ?_
        ·rintro⟨⟩ h;unfold jX at h;refine aW Z<|O Z<|E Z (bA Z Z Z Z)<|O Z<|ah ?_;replace h:=bE h;exact⟨_,h,U [1,2,3,4,11] Z⟩
        ·intro Ae eD;refine aF<|az fun BH e9=>aO (fun(p:Bool)=>⟨[(1,sm aa.av di),(2,J oO),(3,J nE),(4,.pp [sm ai.av aQ.aC] 0),(11,J i141),(81,bl p)],.empty⟩) (fun p=>jY aQ di i141 p=some o1) ?_ ?_
         ·rintro KE h;unfold jY at h;refine aT Z h (fun h=> ?_) (fun h=> ?_)
          ·refine bp ?_;exact eD () _ h (U [1,2,3,4,11] Z)
          ·refine aD<|e9 _ (Y (U [1,2,3,4,11] Z) ?_);refine az fun Fh h_=>b5 (fl 7 [] []) (by kernel_rfl) (by kernel_rfl) Z ?_;refine bQ (af.av aQ) Z Z Z eS Z<|aS aL 2 [1,2,3,4,11,82,83,84] Z ?_;refine Sh.bi h fun afB atb ah0 ajB h=>aJ Z (fun _=>aH aa.av di ah0 ajB Z Z Z vJ Z)<|bQ (aa.av afB) Z Z Z xB Z<|Sh.bd h fun Rs Wo h=>aJ (r:=bl Rs) Z (fun _=>aK Z Z (by simp) (yO Wo))<|bP [1,2,3,4,11,87] Z<|bt Z<|bw ?_;refine h_ _ (Y (U [1,2,3,4,11,12] Z) ?_);refine aM aL 1 [1,2,3,4,11,88] Z ?_;refine aT Z h (fun h=> ?_) (fun h=> ?_)
           ·refine aM aL 1 [8] Z ?_;replace h:=aZ h dM;cases h;exact aA rk
           ·exact aD<|eD () _ h (U [1,2,3,4,11] Z)
         ·intro IS iZ;refine aW Z<|O Z<|O Z<|Sh.bi h fun aas atd ah2 ajD h=>E Z (aH aa.av di ah2 ajD Z Z Z vJ Z)<|aB aL 3 [1,2,3,4,11,70,71] Z ?_;refine E (r:=bl (decide (aas.A≠oO))) Z (IU Z Z Z)<|O Z ?_;cases aa8:(decide (aas.A≠oO))
          ·replace h:=b_ h aa8;refine aB aL 1 [1,2,3,4,11,73,74] Z ?_;refine O Z<|Sh.bi h fun afD atf ah4 ajF h=>E Z (aH aa.av di ah4 ajF Z Z Z vJ Z)<|aB aL 5 [1,2,3,4,11,81] Z ?_;refine ah ?_;exact iZ (decide (afD.B≠nE)) _ h (U [1,2,3,4,11,81] Z)
          ·replace h:=cg h aa8;refine aB aL 8 [1,2,3,4,11,81] Z ?_;refine ah ?_;exact iZ true _ h (U [1,2,3,4,11,81] Z)
       ·refine bp ?_;replace h:=aZ h dM;exact gU () _ h (U [] Z)
    ·intro IT gV;refine sr Z fun N5 tT=>O Z<|ah<|tT _ ?_;refine aF<|bq (fun(p:Int)=>jV aQ di oO nE p) (fun p=>⟨[(1,sm aa.av di),(2,J oO),(3,J nE),(4,.pp [sm ai.av aQ.aC] 0),(10,J p)],.empty⟩) h (U [1,2,3,4,10] Z) ?_
     ·rintro i190 o2 h tj;unfold jV at h;refine az fun Qu uG=>sr Z fun S4 uv=>aB aL 3 [1,2,3,4,10,37,39] Z ?_;refine O Z<|Sh.bi h fun aat ati ah7 ajI h=>E Z (aH ai.av aQ.aC ah7 ajI Z Z Z fJ Z)<|aB aL 1 [1,2,3,4,10,37,42] Z ?_;refine bD (sm an.av aat.Reads) Z Z Z Lv Z<|E Z (aX an.av aat.Reads Z Z qA)<|aG aL uv 1 [1,2,3,4,10,45] Z ?_;refine aT Z h (fun h=> ?_) (fun h=> ?_)
      ·refine aD<|uG _ (Y (U [1,2,3,4,10] Z) ?_);refine az fun Yw Ag=>aF<|sr Z fun YM AO=>aB aL 3 [1,2,3,4,10,49,50] Z ?_;refine Sh.bi h fun afE atj ah8 ajK h=>E Z (aH ai.av aQ.aC ah8 ajK Z Z Z fJ Z)<|aB aL 2 [1,2,3,4,10,53] Z ?_;refine O Z<|Sh.bi h fun anm atk ah9 ajL h=>E Z (aH an.av afE.Reads ah9 ajL Z Z Z qA Z)<|aG aL AO 4 [1,2,3,4,10,59] Z ?_;refine aT Z h (fun h=> ?_) (fun h=> ?_)
       ·refine aM aL 1 [8] Z ?_;replace h:=aZ h tj;cases h;exact aA rk
       ·refine aD<|Ag _ (Y (U [1,2,3,4,10] Z) ?_);refine aW Z<|O Z<|E Z (bA Z Z Z Z)<|O Z<|ah ?_;replace h:=bE h;exact⟨_,h,U [1,2,3,4,10] Z⟩
      ·refine bp ?_;replace h:=aZ h tj;exact gV () _ h (U [1,2,3,4] Z)
  ·intro K26 Gu;refine b5 (fl 18 [] []) (by kernel_rfl) (by kernel_rfl) Z ?_;refine aS aL 3 [1,2,3,4,21] Z ?_;refine bt Z ?_;cases aa_:(decide (oO<nE))
   ·replace h:=b_ h aa_;refine aS aL 14 [1,2,3,4,36] Z ?_;refine bw ?_;exact Gu false _ h (U [1,2,3,4,36] Z)
   ·replace h:=cg h aa_;refine aS aL 2 [1,2,3,4,22,24] Z ?_;refine bt Z<|Sh.bi h fun afF atl ah_ ajM h=>aJ Z (fun _=>aH ai.av aQ.aC ah_ ajM Z Z Z fJ Z)<|aS aL 4 [1,2,3,4,22,28,30] Z ?_;refine bt Z<|Sh.bi h fun afG atm aia ajN h=>aJ Z (fun _=>aH ai.av aQ.aC aia ajN Z Z Z fJ Z)<|aS aL 4 [1,2,3,4,36] Z ?_;refine bw ?_;exact Gu (decide (afF.bB=afG.bB)) _ h (U [1,2,3,4,36] Z)


theorem x8{aQ di oO nE r}(h:nM aQ di oO nE=some r):F1 W0 165 [af.av aQ,sm aa.av di,J oO,J nE] (bl r):=by
 refine cB Tryz.func165 Tryz.ntmps165 ?_;unfold nM at h;refine sr Z fun K1 eB=>E (r:=.ref 0 0 0) Z (bI 1 [af.av aQ] Z Z Z (.inl ⟨Z,Z⟩))<|O Z<|ah<|eB _ (Y (aU.eo (fr':=[(1,sm aa.av di),(2,J oO),(3,J nE),(4,.pp [sm ai.av aQ.aC] 0)])) ?_);refine sr Z fun K2 b7=>bD (af.av aQ) Z Z Z eS Z<|aB aL 2 [1,2,3,4,14,15,16] Z ?_;refine Sh.bd h fun Ii Wt h=>E (r:=bl Ii) Z (aK Z Z (by simp) (yP Wt))<|aG aL b7 1 [1,2,3,4,9] Z ?_;refine az fun K3 dZ=>aO (fun(p:Bool)=>⟨[(1,sm aa.av di),(2,J oO),(3,J nE),(4,.pp [sm ai.av aQ.aC] 0),(24,bl p)],.empty⟩) (fun p=>js aQ di oO nE p=some r) ?_ ?_
 ·rintro v53 h;unfold js at h;refine aT Z h (fun h=> ?_) (fun h=> ?_)
  ·refine aM aL 1 [8] Z ?_;cases h;exact aA rk
  ·refine aD<|dZ _ (Y (U [1,2,3,4] Z) ?_);refine aO (fun(p:Unit)=>⟨[],.empty⟩) (fun p=>q8=some r) ?_ ?_
   ·rintro⟨⟩ h;unfold q8 at h;refine sr Z fun K5 ec=>O Z<|ah<|ec _ ?_;cases h;exact aA rk
   ·intro K6 eE;refine sr Z fun K7 f_=>O Z<|ah<|f_ _ ?_;refine aF<|bq (fun(p:Int)=>mK aQ di oO nE p) (fun p=>⟨[(1,sm aa.av di),(2,J oO),(3,J nE),(4,.pp [sm ai.av aQ.aC] 0),(10,J p)],.empty⟩) h (U [1,2,3,4,10] Z) ?_
    ·rintro i128 o1 h dM;unfold mK at h;refine az fun K8 gd=>sr Z fun K9 gU=>aB aL 3 [1,2,3,4,10,25,27] Z ?_;refine O Z<|Sh.bi h fun NS aqr Vy VX h=>E Z (aH ai.av aQ.aC Vy VX Z Z Z fJ Z)<|aB aL 1 [1,2,3,4,10,25,30] Z ?_;refine bD (sm an.av NS.Reads) Z Z Z Lv Z<|E Z (aX an.av NS.Reads Z Z qA)<|aG aL gU 1 [1,2,3,4,10,33] Z ?_;refine aT Z h (fun h=> ?_) (fun h=> ?_)
     ·refine aD<|gd _ (Y (U [1,2,3,4,10] Z) ?_);refine az fun vQ dh=>aF<|sr Z fun zh eC=>aB aL 3 [1,2,3,4,10,37,38] Z ?_;refine Sh.bi h fun afA as8 ahW ajx h=>E Z (aH ai.av aQ.aC ahW ajx Z Z Z fJ Z)<|aB aL 2 [1,2,3,4,10,41] Z ?_;refine O Z<|Sh.bi h fun A3 as9 ahX ajy h=>E Z (aH an.av afA.Reads ahX ajy Z Z Z qA Z)<|bD (an.av A3) Z Z Z EW Z<|V [1,2,3,4,10,44] Z<|E (r:=.ref 0 0 0) Z (bF 2 [.agg [J 0,J 0]] Z aaE (by kernel_rfl) (.inl ⟨Z,Z⟩))<|E Z (a_ (e':=an.av A3) Z Z Z Z Z Z EW Z dt Z)<|ah ?_;refine eC _ (Y (aU.eo (fr':=[(1,sm aa.av di),(2,J oO),(3,J nE),(4,.pp [sm ai.av aQ.aC] 0),(10,J i128),(11,.pp [J A3.Key,J A3.bT] 0)])) ?_);refine az fun Am eV=>b5 (fl 9 [] []) (by kernel_rfl) (by kernel_rfl) Z ?_;refine aS aL 3 [1,2,3,4,10,11,46,47] Z ?_;refine Sh.bi h fun NU aqv VB V1 h=>aJ Z (fun _=>aH ai.av aQ.aC VB V1 Z Z Z fJ Z)<|bQ (ai.av NU) Z Z Z G0 Z<|aS aL 1 [1,2,3,4,10,11,49,50] Z ?_;refine bQ (J A3.Key) Z Z Z sE Z<|Sh.bd h fun Z4 ala h=>aJ (r:=bl Z4) Z (fun _=>aK Z Z (by simp) (eZ ala))<|bt Z<|bw<|eV _ (Y (U [1,2,3,4,10,11,12] Z) ?_);refine sr Z fun Ae eD=>aB aL 6 [1,2,3,4,10,11,12,53,55,57,58] Z ?_;refine E (r:=.agg [J A3.Key,J A3.bT,J nE]) Z (cm Z Oe Z Z Z)<|Sh.bd h fun Z5 alb h=>E (r:=bl Z5) Z (oV Z (ys:=[sm aa.av di,.agg [J A3.Key,J A3.bT,J nE]]) (xs:=[sm aa.av di,aa.av (aa.mk A3.Key A3.bT nE)]) Z (aU.eo (fr':=cQ 0 [sm aa.av di,aa.av (aa.mk A3.Key A3.bT nE)])) Z (by simp) (Fv alb))<|aG aL eD 1 [1,2,3,4,10,11,12,13] Z ?_;refine aO (fun(p:Bool)=>⟨[(1,sm aa.av di),(2,J oO),(3,J nE),(4,.pp [sm ai.av aQ.aC] 0),(10,J i128),(75,bl p)],.empty⟩) (fun p=>gP i128 p=some o1) ?_ ?_
      ·rintro v167 h;unfold gP at h;refine aT Z h (fun h=> ?_) (fun h=> ?_)
       ·refine aM aL 1 [8] Z ?_;replace h:=aZ h dM;cases h;exact aA rk
       ·refine aD<|dh _ (Y (U [1,2,3,4,10] Z) ?_);refine aW Z<|O Z<|E Z (bA Z Z Z Z)<|O Z<|ah ?_;replace h:=bE h;exact⟨_,h,U [1,2,3,4,10] Z⟩
      ·intro Fh h_;refine aW Z<|O Z<|O Z ?_;cases aa4:(Z4)
       ·replace h:=b_ h aa4;refine aB aL 13 [1,2,3,4,10,75] Z ?_;refine ah ?_;exact h_ false _ h (U [1,2,3,4,10,75] Z)
       ·replace h:=cg h aa4;refine aB aL 4 [1,2,3,4,10,11,13,62,63,64,65,66] Z ?_;cases aa5:(decide (A3.bT=(-1)))
        ·replace h:=b_ h aa5;refine O Z<|O Z ?_;cases aa6:(Z5)
         ·replace h:=b_ h aa6;refine aB aL 7 [1,2,3,4,10,75] Z ?_;refine ah ?_;exact h_ false _ h (U [1,2,3,4,10,75] Z)
         ·replace h:=cg h aa6;refine aB aL 7 [1,2,3,4,10,75] Z ?_;refine ah ?_;exact h_ (decide (A3.bT≠nE)) _ h (U [1,2,3,4,10,75] Z)
        ·replace h:=cg h aa5;refine aB aL 9 [1,2,3,4,10,75] Z ?_;refine ah ?_;exact h_ true _ h (U [1,2,3,4,10,75] Z)
     ·refine bp ?_;replace h:=aZ h dM;exact eE () _ h (U [] Z)
 ·intro FY iQ;refine aW Z<|aB aL 3 [1,2,3,4,20] Z ?_;cases aa7:(!Ii)
  ·replace h:=b_ h aa7;refine aB aL 4 [1,2,3,4,24] Z ?_;refine ah ?_;exact iQ (decide (oO=nE)) _ h (U [1,2,3,4,24] Z)
  ·replace h:=cg h aa7;refine aB aL 4 [1,2,3,4,24] Z ?_;refine ah ?_;exact iQ true _ h (U [1,2,3,4,24] Z)


theorem Fz{aQ bf gz F4 Fg r}(h:tq aQ bf gz F4 Fg=some r):F1 W0 137 [af.av aQ,J bf,sm aa.av gz,J F4,J Fg] (bl r):=by
 refine cB Tryz.func137 Tryz.ntmps137 ?_;unfold tq at h;refine sr Z fun K1 eB=>E (r:=.ref 0 0 0) Z (bI 1 [af.av aQ] Z Z Z (.inl ⟨Z,Z⟩))<|O Z<|ah<|eB _ (Y (aU.eo (fr':=[(1,J bf),(2,sm aa.av gz),(3,J F4),(4,J Fg),(5,.pp [sm ai.av aQ.aC] 0)])) ?_);refine az fun K2 b7=>aO (fun(p:Bool)=>⟨[(1,J bf),(2,sm aa.av gz),(3,J F4),(4,J Fg),(5,.pp [sm ai.av aQ.aC] 0),(21,bl p)],.empty⟩) (fun p=>pP aQ bf gz F4 Fg p=some r) ?_ ?_
 ·rintro v16 h;unfold pP at h;refine aT Z h (fun h=> ?_) (fun h=> ?_)
  ·refine aM aL 1 [10] Z ?_;cases h;exact aA rk
  ·refine aD<|b7 _ (Y (U [1,2,3,4,5] Z) ?_);refine sr Z fun K4 gB=>bD (af.av aQ) Z Z Z eS Z<|aB aL 2 [1,2,3,4,5,22,23,24] Z ?_;refine O Z<|Sh.bd h fun FL M_ h=>E (r:=bl FL) Z (aK Z Z (by simp) (v_ M_))<|aG aL gB 1 [1,2,3,4,5,11] Z ?_;refine az fun K5 ec=>aM aL 1 [1,2,3,4,5,27] Z ?_;refine aT Z h (fun h=> ?_) (fun h=> ?_)
   ·refine aM aL 1 [10] Z ?_;cases h;exact aA rk
   ·refine aD<|ec _ (Y (U [1,2,3,4,5] Z) ?_);refine az fun K8 gd=>aM aL 2 [2,3,4,5,29] Z ?_;refine aT Z h (fun h=> ?_) (fun h=> ?_)
    ·refine sr Z fun vQ dh=>bD (af.av aQ) Z Z Z eS Z<|aB aL 2 [4,30,31,32] Z ?_;refine O Z<|Sh.bd h fun Kl Wp h=>E (r:=bl Kl) Z (aK Z Z (by simp) (x8 Wp))<|aG aL dh 1 [12] Z ?_;refine aM aL 2 [10] Z ?_;cases h;exact aA rk
    ·refine aD<|gd _ (Y (U [2,3,4,5] Z) ?_);refine aO (fun(p:Unit)=>⟨[],.empty⟩) (fun p=>sZ=some r) ?_ ?_
     ·rintro⟨⟩ h;unfold sZ at h;refine sr Z fun Am eV=>O Z<|ah<|eV _ ?_;cases h;exact aA rk
     ·intro Ae eD;refine sr Z fun BH e9=>O Z<|ah<|e9 _ ?_;refine aF<|bq (fun(p:Int)=>pO aQ gz F4 Fg p) (fun p=>⟨[(2,sm aa.av gz),(3,J F4),(4,J Fg),(5,.pp [sm ai.av aQ.aC] 0),(13,J p)],.empty⟩) h (U [2,3,4,5,13] Z) ?_
      ·rintro YD o1 h dM;unfold pO at h;refine az fun Fh h_=>sr Z fun FY iQ=>aB aL 3 [2,3,4,5,13,36,38] Z ?_;refine E Z (aX ai.av aQ.aC Z Z fJ)<|aG aL iQ 1 [2,3,4,5,13,40] Z ?_;refine aT Z h (fun h=> ?_) (fun h=> ?_)
       ·refine aD<|h_ _ (Y (U [2,3,4,5,13] Z) ?_);refine aO (fun(p:Unit)=>⟨[(2,sm aa.av gz),(3,J F4),(4,J Fg),(5,.pp [sm ai.av aQ.aC] 0),(13,J YD)],.empty⟩) (fun p=>pQ YD=some o1) ?_ ?_
        ·rintro⟨⟩ h;unfold pQ at h;refine aW Z<|O Z<|E Z (bA Z Z Z Z)<|O Z<|ah ?_;replace h:=bE h;exact⟨_,h,U [2,3,4,5,13] Z⟩
        ·intro G9 ic;refine aF<|sr Z fun IS iZ=>bD (af.av aQ) Z Z Z eS Z<|aB aL 2 [2,3,4,5,13,43,44,45] Z ?_;refine O Z<|Sh.bd h fun Lm OX h=>E (r:=bl Lm) Z (aK Z Z (by simp) (v_ OX))<|aG aL iZ 1 [2,3,4,5,13,14] Z ?_;refine az fun IT gV=>aM aL 2 [2,3,4,5,13,49] Z ?_;refine aT Z h (fun h=> ?_) (fun h=> ?_)
         ·refine bp ?_;exact ic () _ h (U [2,3,4,5,13] Z)
         ·refine aD<|gV _ (Y (U [2,3,4,5,13] Z) ?_);refine sr Z fun Qu uG=>bD (af.av aQ) Z Z Z eS Z<|aB aL 2 [2,3,4,5,13,50,51,52] Z ?_;refine O Z<|Sh.bd h fun DP Q0 h=>E (r:=bl DP) Z (aK Z Z (by simp) (x8 Q0))<|aG aL uG 1 [2,3,4,5,13,15] Z ?_;refine aM aL 1 [2,3,4,5,13,55] Z ?_;refine aT Z h (fun h=> ?_) (fun h=> ?_)
          ·refine aM aL 1 [10] Z ?_;replace h:=aZ h dM;cases h;exact aA rk
          ·exact aD<|ic () _ h (U [2,3,4,5,13] Z)
       ·refine bp ?_;replace h:=aZ h dM;exact eD () _ h (U [] Z)
 ·intro YM AO;refine aW Z<|aB aL 3 [1,2,3,4,5,18] Z ?_;cases Vn:(decide (bf≠0))
  ·replace h:=b_ h Vn;refine aB aL 3 [1,2,3,4,5,21] Z ?_;refine ah ?_;exact AO false _ h (U [1,2,3,4,5,21] Z)
  ·replace h:=cg h Vn;refine aB aL 3 [1,2,3,4,5,21] Z ?_;refine ah ?_;exact AO (decide (bf≠1)) _ h (U [1,2,3,4,5,21] Z)


theorem CK{aQ bf gz eH r}(h:pN aQ bf gz eH=some r):F1 W0 109 [af.av aQ,J bf,sm aa.av gz,sm J eH] (bl r):=by
 refine cB Tryz.func109 Tryz.ntmps109 ?_;unfold pN at h;refine sr Z fun K1 eB=>E (r:=.ref 0 0 0) Z (bI 1 [af.av aQ] Z Z Z (.inl ⟨Z,Z⟩))<|O Z<|ah<|eB _ (Y (aU.eo (fr':=[(1,J bf),(2,sm aa.av gz),(3,sm J eH),(4,.pp [sm ai.av aQ.aC] 0)])) ?_);refine aO (fun(p:Unit)=>⟨[(3,sm J eH)],.empty⟩) (fun p=>qn eH=some r) ?_ ?_
 ·rintro⟨⟩ h;unfold qn at h;refine sr Z fun K2 b7=>O Z<|E Z (aX J eH Z Z bX)<|aG aL b7 2 [8] Z ?_;cases h;exact aA rk
 ·intro K3 dZ;refine sr Z fun K4 gB=>O Z<|ah<|gB _ ?_;refine aF<|bq (fun(p:Int)=>kW aQ bf gz eH p) (fun p=>⟨[(1,J bf),(2,sm aa.av gz),(3,sm J eH),(4,.pp [sm ai.av aQ.aC] 0),(9,J p)],.empty⟩) h (U [1,2,3,4,9] Z) ?_
  ·rintro i124 o1 h dM;unfold kW at h;refine az fun K5 ec=>sr Z fun K6 eE=>O Z<|O Z<|E Z (aX J eH Z Z bX)<|aG aL eE 1 [1,2,3,4,9,15] Z ?_;refine aT Z h (fun h=> ?_) (fun h=> ?_)
   ·refine aD<|ec _ (Y (U [1,2,3,4,9] Z) ?_);refine aO (fun(p:Unit)=>⟨[(1,J bf),(2,sm aa.av gz),(3,sm J eH),(4,.pp [sm ai.av aQ.aC] 0),(9,J i124)],.empty⟩) (fun p=>qo i124=some o1) ?_ ?_
    ·rintro⟨⟩ h;unfold qo at h;refine aW Z<|O Z<|E Z (bA Z Z Z Z)<|O Z<|ah ?_;replace h:=bE h;exact⟨_,h,U [1,2,3,4,9] Z⟩
    ·intro K7 f_;refine aF<|aO (fun(p:Unit)=>⟨[(1,J bf),(2,sm aa.av gz),(3,sm J eH),(4,.pp [sm ai.av aQ.aC] 0),(9,J i124)],.empty⟩) (fun p=>kY aQ bf gz eH i124=some o1) ?_ ?_
     ·rintro⟨⟩ h;unfold kY at h;refine az fun K8 gd=>b5 (fl 17 [] []) (by kernel_rfl) (by kernel_rfl) Z ?_;refine bQ (af.av aQ) Z Z Z eS Z<|aS aL 2 [1,2,3,4,9,32,33,34] Z ?_;refine bt Z<|bt Z<|Sh.bi h fun Ym aqw VC V2 h=>aJ Z (fun _=>aH J eH VC V2 Z Z Z bX Z)<|aS aL 3 [1,2,3,4,9,32,33,34,38,39,40] Z ?_;refine aJ Z (fun _=>bA Z Z Z Z)<|bt Z<|aJ Z (fun _=>aX J eH Z Z bX)<|bP [1,2,3,4,9,32,33,34,38,39,41,43] Z<|Sh.bd h fun aeP acd h=>aJ (r:=J aeP) Z (fun _=>BI Z Z Z (tv acd).1 (tv acd).2)<|Sh.bi h fun ani atc ah1 ajC h=>aJ Z (fun _=>aH J eH ah1 ajC Z Z Z bX Z) ?_;refine aS aL 1 [1,2,3,4,9,32,33,34,38,46] Z ?_;refine Sh.bd h fun aeU alc h=>aJ (r:=bl aeU) Z (fun _=>aK Z Z (by simp) (Fz alc))<|bt Z<|bw<|gd _ (Y (U [1,2,3,4,9,11] Z) ?_);refine aM aL 2 [1,2,3,4,9,49] Z ?_;refine aT Z h (fun h=> ?_) (fun h=> ?_)
      ·refine aM aL 1 [8] Z ?_;replace h:=aZ h dM;cases h;exact aA rk
      ·exact aD<|f_ () _ h (U [1,2,3,4,9] Z)
     ·intro zh eC;refine sr Z fun Am eV=>O Z<|ah<|eV _ ?_;refine aF<|bq (fun(p:Int)=>kX aQ bf gz eH i124 p) (fun p=>⟨[(1,J bf),(2,sm aa.av gz),(3,sm J eH),(4,.pp [sm ai.av aQ.aC] 0),(9,J i124),(10,J p)],.empty⟩) h (U [1,2,3,4,9,10] Z) ?_
      ·rintro ZF o2 h tj;unfold kX at h;refine az fun Ae eD=>aM aL 3 [1,2,3,4,9,10,20] Z ?_;refine aT Z h (fun h=> ?_) (fun h=> ?_)
       ·refine aD<|eD _ (Y (U [1,2,3,4,9,10] Z) ?_);refine az fun Fh h_=>aF<|az fun FY iQ=>b5 (fl 9 [] []) (by kernel_rfl) (by kernel_rfl) Z ?_;refine bt Z<|bt Z<|Sh.bi h fun ank atg ah5 ajG h=>aJ Z (fun _=>aH J eH ah5 ajG Z Z Z bX Z)<|aS aL 3 [1,2,3,4,9,10,26,27,28] Z ?_;refine Sh.bi h fun anl ath ah6 ajH h=>aJ Z (fun _=>aH J eH ah6 ajH Z Z Z bX Z)<|aS aL 2 [1,2,3,4,9,10,31] Z ?_;refine bw<|iQ _ (Y (U [1,2,3,4,9,10,31] Z) ?_);refine aT Z h (fun h=> ?_) (fun h=> ?_)
        ·refine aM aL 1 [8] Z ?_;replace h:=aZ h tj;replace h:=aZ h dM;cases h;exact aA rk
        ·refine aD<|h_ _ (Y (U [1,2,3,4,9,10] Z) ?_);refine aW Z<|O Z<|E Z (bA Z Z Z Z)<|O Z<|ah ?_;replace h:=bE h;exact⟨_,h,U [1,2,3,4,9,10] Z⟩
       ·refine bp ?_;replace h:=aZ h tj;exact eC () _ h (U [1,2,3,4,9] Z)
   ·refine bp ?_;replace h:=aZ h dM;exact dZ () _ h (U [3] Z)

end Wk
