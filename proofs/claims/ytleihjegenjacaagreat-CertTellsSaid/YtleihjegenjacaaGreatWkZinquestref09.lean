/- That the functions of a package do what their plain functions say. -/
import Derived.Test.YtleihjegenjacaaGreatWkZinquestref08
open Go Go.Av Go.Proofs G Go.Sh Go.Av.Sh
set_option linter.unusedVariables false
set_option maxHeartbeats 8000000
set_option maxRecDepth 20000
namespace Wk
variable {W0:World}
theorem AQ{aQ e_ r}(h:fL aQ e_=some r):F2 W0 86 [af.av aQ,J e_] (.view 0 0 (List.map J r).length) ⟨1,[(0,(1,List.map J r))],[]⟩:=by
 refine kn Tryz.func86 Tryz.ntmps86 ?_;unfold fL at h;refine sr Z fun K1 eB=>E (r:=.ref 0 0 0) Z (bI 1 [af.av aQ] Z Z Z (.inl ⟨Z,Z⟩))<|O Z<|ah<|eB _ (Y (aU.eo (fr':=[(1,J e_),(2,.pp [sm ai.av aQ.aC] 0)])) ?_);refine sr Z fun K2 b7=>O Z<|ah<|b7 _ ?_;refine sr Z fun K3 dZ=>bD (af.av aQ) Z Z Z eS Z<|Sh.bd h fun Qq ad5 h=>E (r:=bl Qq) Z (aK Z Z (by simp) (fo ad5))<|aG aL dZ 1 [1,2,5,6] Z ?_;refine aO (fun(p:(List Int))=>⟨[(5,.view 0 0 (List.map J p).length)],⟨1,[(0,(1,List.map J p))],[]⟩⟩) (fun p=>ji p=some r) ?_ ?_
 ·rintro W9 h;unfold ji at h;refine aM aL 2 [4] Z ?_;refine aA ?_;obtain rfl:=D h;exact⟨.inr Z,.view 0 0 (List.map J W9).length,Z,aU.ra [(0,0)] []⟩
 ·intro K5 ec;refine sr Z fun K6 eE=>O Z<|ah<|eE _ ?_;refine aF<|bq (fun(p:(List Int)×Bool×Int)=>gF aQ e_ p.1 p.2.1 p.2.2) (fun p=>⟨[(1,J e_),(2,.pp [sm ai.av aQ.aC] 0),(5,.view 0 0 (List.map J p.1).length),(6,bl p.2.1),(7,J p.2.2)],⟨1,[(0,(1,List.map J p.1))],[]⟩⟩) h (aU.ra [] [0]) ?_
  ·rintro⟨uf,WO,t86⟩ o1 h dM;unfold gF at h;refine az fun K7 f_=>aO (fun(p:Bool×Bool)=>⟨[(1,J e_),(2,.pp [sm ai.av aQ.aC] 0),(5,.view 0 0 (List.map J uf).length),(6,bl p.1),(7,J t86),(18,bl p.2)],⟨1,[(0,(1,List.map J uf))],[]⟩⟩) (fun p=>fF aQ e_ uf t86 p.1 p.2=some o1) ?_ ?_
   ·rintro⟨JV,v92⟩ h;unfold fF at h;refine aT Z h (fun h=> ?_) (fun h=> ?_)
    ·refine aD<|f_ _ (Y (U [1,2,5,6,7] Z) ?_);refine aO (fun(p:(List Int))=>⟨[(1,J e_),(2,.pp [sm ai.av aQ.aC] 0),(6,bl JV),(7,J t86),(5,.view 0 0 (List.map J p).length)],⟨1,[(0,(1,List.map J p))],[]⟩⟩) (fun p=>gG t86 JV p=some o1) ?_ ?_
     ·rintro Ie h;unfold gG at h;refine aW Z<|O Z<|E Z (bA Z Z Z Z)<|O Z<|ah ?_;replace h:=bE h;exact⟨_,h,U [1,2,5,6,7] Z⟩
     ·intro K8 gd;refine aF<|sr Z fun K9 gU=>aB aL 3 [1,2,5,6,7,22,23] Z ?_;refine Sh.bi h fun Qj asZ ahL VR h=>E Z (aH ai.av aQ.aC ahL VR Z Z Z fJ Z)<|bD (ai.av Qj) Z Z Z G0 Z<|aB aL 1 [1,2,5,6,7,25,26] Z ?_;refine Sh.bd h fun aeR akY h=>E (r:=bl aeR) Z (aK Z Z (by simp) (eZ akY))<|aG aL gU 1 [1,2,5,6,7,8] Z ?_;refine aM aL 1 [1,2,5,6,7,28] Z ?_;refine aT Z h (fun h=> ?_) (fun h=> ?_)
      ·refine aW Z<|O Z<|O Z<|E (r:=.clip (List.map J [t86])) Z (bu Z (xo:=[.tmp 30]) Z Z Z (by simp[AV.dH]) (by simp[AV.flat]) bX wP (by decide))<|V [1,2,6,7,29,31] Z<|Sh.bd h fun B3 Ze h=>E (r:=.view 1 0 (List.map J B3).length) Z (bV J uf [t86] B3 Ze Z vK (fun _=>Z) Z Z Z Z Z Z Z)<|O Z ?_;refine ah ?_;exact gd B3 _ h (aU.ra [(0,1)] [])
      ·exact aD<|gd uf _ h (U [1,2,6,7,5] Z)
    ·refine bp ?_;replace h:=aZ h dM;exact ec uf _ h (U [5] Z)
   ·intro zh eC;refine aW Z<|O Z<|O Z ?_;cases aaS:(WO)
    ·replace h:=b_ h aaS;refine aB aL 6 [1,2,5,6,7,18] Z ?_;refine ah ?_;exact eC (false,false) _ h (U [1,2,5,6,7,18] Z)
    ·replace h:=cg h aaS;refine aB aL 1 [1,2,5,6,7,12,13] Z ?_;refine jc Z rN<|bD (sm ai.av aQ.aC) Z Z Z ze Z<|E Z (aX ai.av aQ.aC Z Z fJ)<|aB aL 2 [1,2,5,6,7,18] Z ?_;refine ah ?_;exact eC (true,decide (t86<(Sh.len aQ.aC))) _ h (U [1,2,5,6,7,18] Z)
theorem su{aQ e_ r}(h:fL aQ e_=some r):F1 W0 86 [af.av aQ,J e_] (sm J r):=
 (AQ h).wR (aU.ra [] []) (by simp)


theorem CD{aQ r}(h:jR aQ=some r):F2 W0 83 [af.av aQ] (.view 0 0 (List.map J r).length) ⟨1,[(0,(1,List.map J r))],[]⟩:=by
 refine kn Tryz.func83 Tryz.ntmps83 ?_;unfold jR at h;refine sr Z fun K1 eB=>E (r:=.ref 0 0 0) Z (bI 1 [af.av aQ] Z Z Z (.inl ⟨Z,Z⟩))<|O Z<|ah<|eB _ (Y (aU.eo (fr':=[(1,.pp [sm ai.av aQ.aC] 0)])) ?_);refine sr Z fun K2 b7=>O Z<|ah<|b7 _ ?_;refine aO (fun(p:(List Int))=>⟨[(3,.view 0 0 (List.map J p).length)],⟨1,[(0,(1,List.map J p))],[]⟩⟩) (fun p=>tZ p=some r) ?_ ?_
 ·rintro W2 h;unfold tZ at h;refine aM aL 2 [2] Z ?_;refine aA ?_;obtain rfl:=D h;exact⟨.inr Z,.view 0 0 (List.map J W2).length,Z,aU.ra [(0,0)] []⟩
 ·intro K4 gB;refine sr Z fun K5 ec=>O Z<|ah<|ec _ ?_;refine aF<|bq (fun(p:(List Int)×Int)=>mD aQ p.1 p.2) (fun p=>⟨[(1,.pp [sm ai.av aQ.aC] 0),(3,.view 0 0 (List.map J p.1).length),(4,J p.2)],⟨1,[(0,(1,List.map J p.1))],[]⟩⟩) h (aU.ra [] [0]) ?_
  ·rintro⟨J2,Cn⟩ o1 h dM;unfold mD at h;refine az fun K6 eE=>aM aL 2 [1,3,4,7] Z ?_;refine aT Z h (fun h=> ?_) (fun h=> ?_)
   ·refine aD<|eE _ (Y (U [1,3,4] Z) ?_);refine aO (fun(p:(List Int))=>⟨[(1,.pp [sm ai.av aQ.aC] 0),(4,J Cn),(3,.view 0 0 (List.map J p).length)],⟨1,[(0,(1,List.map J p))],[]⟩⟩) (fun p=>mE Cn p=some o1) ?_ ?_
    ·rintro GB h;unfold mE at h;refine aW Z<|O Z<|E Z (bA Z Z Z Z)<|O Z<|ah ?_;replace h:=bE h;exact⟨_,h,U [1,3,4] Z⟩
    ·intro K8 gd;refine aF<|sr Z fun K9 gU=>bD (af.av aQ) Z Z Z eS Z<|O Z<|Sh.bd h fun Lm OX h=>E (r:=sm J Lm) Z (aK Z Z (by simp) (su OX))<|aG aL gU 1 [1,3,4,5] Z ?_;refine sr Z fun vQ dh=>O Z<|E Z (aX J Lm Z Z bX)<|aG aL dh 1 [1,3,4,15] Z ?_;refine aT Z h (fun h=> ?_) (fun h=> ?_)
     ·refine aW Z<|O Z<|O Z<|E (r:=.clip (List.map J [Cn])) Z (bu Z (xo:=[.tmp 17]) Z Z Z (by simp[AV.dH]) (by simp[AV.flat]) bX wP (by decide))<|V [1,4,16,18] Z<|Sh.bd h fun Pj adN h=>E (r:=.view 1 0 (List.map J Pj).length) Z (bV J J2 [Cn] Pj adN Z vK (fun _=>Z) Z Z Z Z Z Z Z)<|O Z ?_;refine ah ?_;exact gd Pj _ h (aU.ra [(0,1)] [])
     ·exact aD<|gd J2 _ h (U [1,4,3] Z)
   ·refine bp ?_;replace h:=aZ h dM;exact gB J2 _ h (U [3] Z)
theorem xZ{aQ r}(h:jR aQ=some r):F1 W0 83 [af.av aQ] (sm J r):=
 (CD h).wR (aU.ra [] []) (by simp)


theorem Dq{aQ Lw uS r}(h:qR aQ Lw uS=some r):F1 W0 182 [af.av aQ,J Lw,J uS] (.tuple [J r.1,bl r.2]):=by
 refine cB Tryz.func182 Tryz.ntmps182 ?_;unfold qR at h;refine sr Z fun K1 eB=>E (r:=.ref 0 0 0) Z (bI 1 [af.av aQ] Z Z Z (.inl ⟨Z,Z⟩))<|O Z<|O Z<|ah<|eB _ (Y (aU.eo (fr':=[(1,J Lw),(2,J uS),(3,.pp [sm ai.av aQ.aC] 0)])) ?_);refine sr Z fun K2 b7=>bD (af.av aQ) Z Z Z eS Z<|Sh.bd h fun yA Le h=>E (r:=bl yA) Z (aK Z Z (by simp) (fo Le))<|aG aL b7 1 [1,2,3,8] Z ?_;refine az fun K3 dZ=>aO (fun(p:Bool)=>⟨[(1,J Lw),(2,J uS),(3,.pp [sm ai.av aQ.aC] 0),(25,bl p)],.empty⟩) (fun p=>e7 aQ Lw uS p=some r) ?_ ?_
 ·rintro v28 h;unfold e7 at h;refine aT Z h (fun h=> ?_) (fun h=> ?_)
  ·refine aM aL 2 [6,7] Z ?_;refine aA ?_;obtain rfl:=D h;exact⟨.inr Z,.tuple [J 0,bl false],Z,aU.ra [] []⟩
  ·refine aD<|dZ _ (Y (U [1,2,3] Z) ?_);refine sr Z fun K5 ec=>aB aL 3 [2,27,28] Z ?_;refine Sh.bi h fun SX k33 ads adE h=>E Z (aH ai.av aQ.aC ads adE Z Z Z fJ Z)<|aG aL ec 3 [2,9] Z ?_;refine aO (fun(p:Unit)=>⟨[],.empty⟩) (fun p=>qS=some r) ?_ ?_
   ·rintro⟨⟩ h;unfold qS at h;refine sr Z fun K6 eE=>O Z<|O Z<|ah<|eE _ ?_;refine aA ?_;obtain rfl:=D h;exact⟨.inr Z,.tuple [J 0,bl false],Z,aU.ra [] []⟩
   ·intro K7 f_;refine sr Z fun K8 gd=>O Z<|ah<|gd _ ?_;refine aF<|bq (fun(p:Int)=>mC uS SX p) (fun p=>⟨[(2,J uS),(9,sm an.av SX.Reads),(10,J p)],.empty⟩) h (U [2,9,10] Z) ?_
    ·rintro i57 o1 h dM;unfold mC at h;refine az fun K9 gU=>sr Z fun vQ dh=>O Z<|O Z<|E Z (aX an.av SX.Reads Z Z qA)<|aG aL dh 1 [2,9,10,35] Z ?_;refine aT Z h (fun h=> ?_) (fun h=> ?_)
     ·refine aD<|gU _ (Y (U [2,9,10] Z) ?_);refine az fun zh eC=>aF<|sr Z fun Am eV=>O Z<|O Z<|Sh.bi h fun x65 k66 aoU apt h=>E Z (aH an.av SX.Reads aoU apt Z Z Z qA Z) ?_;refine aG aL eV 4 [2,9,10,44] Z ?_;refine aT Z h (fun h=> ?_) (fun h=> ?_)
      ·refine sr Z fun Ae eD=>O Z<|O Z<|Sh.bi h fun x70 k71 adu adI h=>E Z (aH an.av SX.Reads adu adI Z Z Z qA Z)<|aB aL 3 [6] Z ?_;refine O Z<|ah<|eD _ ?_;refine aA ?_;replace h:=aZ h dM;obtain rfl:=D h;exact⟨.inr Z,.tuple [J x70.bT,bl true],Z,aU.ra [] []⟩
      ·refine aD<|eC _ (Y (U [2,9,10] Z) ?_);refine aW Z<|O Z<|E Z (bA Z Z Z Z)<|O Z<|ah ?_;replace h:=bE h;exact⟨_,h,U [2,9,10] Z⟩
     ·refine bp ?_;replace h:=aZ h dM;exact f_ () _ h (U [] Z)
 ·intro BH e9;refine aW Z<|aB aL 3 [1,2,3,15] Z ?_;cases OO:(!yA)
  ·replace h:=b_ h OO;refine aB aL 3 [1,2,3,18] Z ?_;refine O Z ?_;cases Vo:(decide (Lw<0))
   ·replace h:=b_ h Vo;refine aB aL 2 [1,2,3,19,20,21] Z ?_;refine bD (sm ai.av aQ.aC) Z Z Z ze Z<|E Z (aX ai.av aQ.aC Z Z fJ)<|aB aL 2 [1,2,3,25] Z ?_;refine ah ?_;exact e9 (decide ((Sh.len aQ.aC)≤Lw)) _ h (U [1,2,3,25] Z)
   ·replace h:=cg h Vo;refine aB aL 6 [1,2,3,25] Z ?_;refine ah ?_;exact e9 true _ h (U [1,2,3,25] Z)
  ·replace h:=cg h OO;refine aB aL 10 [1,2,3,25] Z ?_;refine ah ?_;exact e9 true _ h (U [1,2,3,25] Z)


theorem AP{aQ e_ vc r}(h:jg aQ e_ vc=some r):F2 W0 172 [af.av aQ,J e_,J vc] (.view 0 0 (List.map J r).length) ⟨1,[(0,(1,List.map J r))],[]⟩:=by
 refine kn Tryz.func172 Tryz.ntmps172 ?_;unfold jg at h;refine sr Z fun K1 eB=>E (r:=.ref 0 0 0) Z (bI 1 [af.av aQ] Z Z Z (.inl ⟨Z,Z⟩))<|O Z<|ah<|eB _ (Y (aU.eo (fr':=[(1,J e_),(2,J vc),(3,.pp [sm ai.av aQ.aC] 0)])) ?_);refine sr Z fun K2 b7=>O Z<|ah<|b7 _ ?_;refine aO (fun(p:(List Int))=>⟨[(7,.view 0 0 (List.map J p).length)],⟨1,[(0,(1,List.map J p))],[]⟩⟩) (fun p=>nH p=some r) ?_ ?_
 ·rintro zT h;unfold nH at h;refine aM aL 2 [6] Z ?_;refine aA ?_;obtain rfl:=D h;exact⟨.inr Z,.view 0 0 (List.map J zT).length,Z,aU.ra [(0,0)] []⟩
 ·intro K4 gB;refine sr Z fun K5 ec=>O Z<|ah<|ec _ ?_;refine aF<|bq (fun(p:(List Int)×Int)=>jh aQ e_ vc p.1 p.2) (fun p=>⟨[(1,J e_),(2,J vc),(3,.pp [sm ai.av aQ.aC] 0),(7,.view 0 0 (List.map J p.1).length),(8,J p.2)],⟨1,[(0,(1,List.map J p.1))],[]⟩⟩) h (aU.ra [] [0]) ?_
  ·rintro⟨ud,t53⟩ o1 h dM;unfold jh at h;refine az fun K6 eE=>sr Z fun K7 f_=>aB aL 3 [1,2,3,7,8,11,13] Z ?_;refine E Z (aX ai.av aQ.aC Z Z fJ)<|aG aL f_ 1 [1,2,3,7,8,15] Z ?_;refine aT Z h (fun h=> ?_) (fun h=> ?_)
   ·refine aD<|eE _ (Y (U [1,2,3,7,8] Z) ?_);refine aO (fun(p:(List Int))=>⟨[(1,J e_),(2,J vc),(3,.pp [sm ai.av aQ.aC] 0),(8,J t53),(7,.view 0 0 (List.map J p).length)],⟨1,[(0,(1,List.map J p))],[]⟩⟩) (fun p=>gD t53 p=some o1) ?_ ?_
    ·rintro Pk h;unfold gD at h;refine aW Z<|O Z<|E Z (bA Z Z Z Z)<|O Z<|ah ?_;replace h:=bE h;exact⟨_,h,U [1,2,3,7,8] Z⟩
    ·intro K8 gd;refine aF<|sr Z fun K9 gU=>bD (af.av aQ) Z Z Z eS Z<|aB aL 2 [1,2,3,7,8,19,20,21] Z ?_;refine Sh.bd h fun Ln aea h=>E (r:=.tuple [J Ln.1,bl Ln.2]) Z (aK Z Z (by simp) (Dq aea))<|aG aL gU 5 [1,2,3,7,8,9,10] Z ?_;refine aO (fun(p:Bool)=>⟨[(1,J e_),(2,J vc),(3,.pp [sm ai.av aQ.aC] 0),(7,.view 0 0 (List.map J ud).length),(8,J t53),(30,bl p)],⟨1,[(0,(1,List.map J ud))],[]⟩⟩) (fun p=>gE ud t53 p=some o1) ?_ ?_
     ·rintro v63 h;unfold gE at h;refine aT Z h (fun h=> ?_) (fun h=> ?_)
      ·refine aW Z<|O Z<|O Z<|E (r:=.clip (List.map J [t53])) Z (bu Z (xo:=[.tmp 32]) Z Z Z (by simp[AV.dH]) (by simp[AV.flat]) bX wP (by decide))<|V [1,2,3,8,31,33] Z<|Sh.bd h fun GC adQ h=>E (r:=.view 1 0 (List.map J GC).length) Z (bV J ud [t53] GC adQ Z vK (fun _=>Z) Z Z Z Z Z Z Z)<|O Z ?_;refine ah ?_;exact gd GC _ h (aU.ra [(0,1)] [])
      ·exact aD<|gd ud _ h (U [1,2,3,8,7] Z)
     ·intro vQ dh;refine aW Z<|O Z<|O Z ?_;cases ON:(Ln.2)
      ·replace h:=b_ h ON;refine aB aL 4 [1,2,3,7,8,30] Z ?_;refine ah ?_;exact dh false _ h (U [1,2,3,7,8,30] Z)
      ·replace h:=cg h ON;refine aB aL 4 [1,2,3,7,8,30] Z ?_;refine ah ?_;exact dh (decide (Ln.1=vc)) _ h (U [1,2,3,7,8,30] Z)
   ·refine bp ?_;replace h:=aZ h dM;exact gB ud _ h (U [7] Z)
theorem Ba{aQ e_ vc r}(h:jg aQ e_ vc=some r):F1 W0 172 [af.av aQ,J e_,J vc] (sm J r):=
 (AP h).wR (aU.ra [] []) (by simp)


theorem BU{aQ r}(h:lM aQ=some r):F2 W0 47 [af.av aQ] (.view 0 0 (List.map aa.av r).length) ⟨1,[(0,(3,List.map aa.av r))],[]⟩:=by
 refine kn Tryz.func47 Tryz.ntmps47 ?_;unfold lM at h;refine sr Z fun K1 eB=>E (r:=.ref 0 0 0) Z (bI 1 [af.av aQ] Z Z Z (.inl ⟨Z,Z⟩))<|O Z<|ah<|eB _ (Y (aU.eo (fr':=[(1,.pp [sm ai.av aQ.aC] 0)])) ?_);refine sr Z fun K2 b7=>O Z<|ah<|b7 _ ?_;refine aO (fun(p:(List aa))=>⟨[(3,.view 0 0 (List.map aa.av p).length)],⟨1,[(0,(3,List.map aa.av p))],[]⟩⟩) (fun p=>qa p=some r) ?_ ?_
 ·rintro Rj h;unfold qa at h;refine aM aL 2 [2] Z ?_;refine aA ?_;obtain rfl:=D h;exact⟨.inr Z,.view 0 0 (List.map aa.av Rj).length,Z,aU.ra [(0,0)] []⟩
 ·intro K4 gB;refine sr Z fun K5 ec=>O Z<|ah<|ec _ ?_;refine aF<|bq (fun(p:(List aa)×Int)=>kJ aQ p.1 p.2) (fun p=>⟨[(1,.pp [sm ai.av aQ.aC] 0),(3,.view 0 0 (List.map aa.av p.1).length),(4,J p.2)],⟨1,[(0,(3,List.map aa.av p.1))],[]⟩⟩) h (aU.ra [] [0]) ?_
  ·rintro⟨Nn,qB⟩ o1 h dM;unfold kJ at h;refine az fun K6 eE=>aM aL 2 [1,3,4,9] Z ?_;refine aT Z h (fun h=> ?_) (fun h=> ?_)
   ·refine aD<|eE _ (Y (U [1,3,4] Z) ?_);refine aO (fun(p:(List aa))=>⟨[(1,.pp [sm ai.av aQ.aC] 0),(3,.view 0 0 (List.map aa.av p).length),(4,J qB)],⟨1,[(0,(3,List.map aa.av p))],[]⟩⟩) (fun p=>qb qB p=some o1) ?_ ?_
    ·rintro W7 h;unfold qb at h;refine aW Z<|O Z<|E Z (bA Z Z Z Z)<|O Z<|ah ?_;replace h:=bE h;exact⟨_,h,U [1,3,4] Z⟩
    ·intro K8 gd;refine aF<|sr Z fun K9 gU=>bD (af.av aQ) Z Z Z eS Z<|O Z<|Sh.bd h fun Bo alv h=>E (r:=sm J Bo) Z (aK Z Z (by simp) (su alv))<|aG aL gU 1 [1,3,4,5] Z ?_;refine sr Z fun vQ dh=>O Z<|ah<|dh _ ?_;refine aF<|bq (fun(p:(List aa)×Int)=>kK qB Bo p.1 p.2) (fun p=>⟨[(1,.pp [sm ai.av aQ.aC] 0),(3,.view 0 0 (List.map aa.av p.1).length),(4,J qB),(5,sm J Bo),(6,J p.2)],⟨1,[(0,(3,List.map aa.av p.1))],[]⟩⟩) h (U [1,3,4,5,6] Z) ?_
     ·rintro⟨No,Gz⟩ o2 h tj;unfold kK at h;refine az fun zh eC=>sr Z fun Am eV=>O Z<|O Z<|E Z (aX J Bo Z Z bX)<|aG aL eV 1 [1,3,4,5,6,18] Z ?_;refine aT Z h (fun h=> ?_) (fun h=> ?_)
      ·refine aD<|eC _ (Y (U [1,3,4,5,6] Z) ?_);refine aO (fun(p:(List aa))=>⟨[(1,.pp [sm ai.av aQ.aC] 0),(3,.view 0 0 (List.map aa.av p).length),(4,J qB),(5,sm J Bo),(6,J Gz)],⟨1,[(0,(3,List.map aa.av p))],[]⟩⟩) (fun p=>qc Gz p=some o2) ?_ ?_
       ·rintro W8 h;unfold qc at h;refine aW Z<|O Z<|E Z (bA Z Z Z Z)<|O Z<|ah ?_;replace h:=bE h;exact⟨_,h,U [1,3,4,5,6] Z⟩
       ·intro Ae eD;refine aF<|aM aL 3 [1,3,4,5,6,7] Z ?_;refine aF<|bq (fun(p:(List aa)×Int)=>kL qB Bo Gz p.1 p.2) (fun p=>⟨[(1,.pp [sm ai.av aQ.aC] 0),(3,.view 0 0 (List.map aa.av p.1).length),(4,J qB),(5,sm J Bo),(6,J Gz),(7,J p.2)],⟨1,[(0,(3,List.map aa.av p.1))],[]⟩⟩) h (U [1,3,4,5,6,7] Z) ?_
        ·rintro⟨J6,WE⟩ o3 h Na;unfold kL at h;refine az fun Fh h_=>sr Z fun FY iQ=>O Z<|O Z<|E Z (aX J Bo Z Z bX)<|aG aL iQ 1 [1,3,4,5,6,7,26] Z ?_;refine aT Z h (fun h=> ?_) (fun h=> ?_)
         ·refine aD<|h_ _ (Y (U [1,3,4,5,6,7] Z) ?_);refine az fun G9 ic=>aF<|b5 (fl 14 [] [12]) (by kernel_rfl) (by kernel_rfl) Z ?_;refine aS aL 3 [1,4,5,6,7,29,30,31] Z ?_;refine bt Z<|Sh.bi h fun Yu aug ai5 akF h=>aJ Z (fun _=>aH J Bo ai5 akF Z Z Z bX Z)<|aS aL 1 [1,4,5,6,7,29,30,34] Z ?_;refine bt Z<|bt Z<|Sh.bi h fun Uu auh ai6 akG h=>aJ Z (fun _=>aH J Bo ai6 akG Z Z Z bX Z)<|bP [1,4,5,6,7,29,30,34,37] Z<|bQ (J Uu) Z Z Z sE Z<|aJ (r:=.agg [J qB,J Yu,J Uu]) Z (fun _=>cm Z Oe Z Z Z)<|aJ (r:=.clip (List.map aa.av ([(aa.mk qB Yu Uu)]:List aa))) Z (fun _=>bu Z (xo:=[.tmp 39]) Z Z Z (by simp) (by simp) vJ Yv (by decide)) ?_;refine bP [1,4,5,6,7,29,40] Z<|Sh.bd h fun HB Zr h=>dI (r:=.view 1 0 (List.map aa.av HB).length) Z Z (bV aa.av J6 ([(aa.mk qB Yu Uu)]:List aa) HB Zr Z Tf (fun _=>Z) Z Z Z Z Z Z Z)<|bt Z<|bw<|ic _ (Y (aU.ra (fr':=[(1,.pp [sm ai.av aQ.aC] 0),(4,J qB),(5,sm J Bo),(6,J Gz),(7,J WE),(3,.view 0 0 (List.map aa.av HB).length)]) (H':=⟨1,[(0,(3,List.map aa.av HB))],[]⟩) [(0,1)] []) ?_);refine aW Z<|O Z<|E Z (bA Z Z Z Z)<|O Z<|ah ?_;replace h:=bE h;exact⟨_,h,U [1,3,4,5,6,7] Z⟩
         ·refine bp ?_;replace h:=aZ h Na;exact eD J6 _ h (U [1,3,4,5,6] Z)
      ·refine bp ?_;replace h:=aZ h tj;exact gd No _ h (U [1,3,4] Z)
   ·refine bp ?_;replace h:=aZ h dM;exact gB Nn _ h (U [3] Z)
theorem CE{aQ r}(h:lM aQ=some r):F1 W0 47 [af.av aQ] (sm aa.av r):=
 (BU h).wR (aU.ra [] []) (by simp)

end Wk
