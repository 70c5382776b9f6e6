/- That the functions of a package do what their plain functions say. -/
import Derived.Test.YtleihjegenjacaaGreatWkZinquestref08
open Go Go.Av Go.Proofs G Go.Sh Go.Av.Sh
set_option linter.unusedVariables false
set_option maxHeartbeats 8000000
set_option maxRecDepth 20000
namespace Wk
theorem yz{W0:World}(hT:dc W0){aO:af}{eM:Int}{r:(List Int)}(h:je aO eM=some r):dX Tryz.prog W0 86 [af.av aO,J eM] (.view 0 0 (List.map J r).length) ⟨1,[(0,(1,List.map J r))],[]⟩:=by
 refine aU Tryz.func86 Z (by kernel_rfl) Tryz.ntmps86 (by simp) ?_;unfold je at h;show ec _ _ _ _ ⟨[(0,af.av aO),(1,J eM)],.empty⟩ _;refine sr Z fun K1 c4=>E (r:=.ref 0 0 0) Z (bP 1 [af.av aO] Z Z Z (.inl ⟨Z,Z⟩))<|O Z<|an<|c4 _ (Y (bq.e (fr':=[(1,J eM),(2,.pp [sm ah.av aO.az] 0)]) (H':=.empty) ⟨.k,⟨_,Z,.ee Z Z Z Z (by simp)⟩,trivial⟩) ?_);refine sr Z fun K2 cT=>O Z<|an<|cT _ ?_;refine sr Z fun K3 eN=>aT (af.av aO) Z Z Z gz Z ?_;obtain⟨Qf,TE,h⟩:=ai h;refine E (r:=bl Qf) Z (aZ Z Z (by simp) (j7 hT TE))<|O Z<|aH eN [1,2,5,6] Z ?_;refine aX (fun(p:(List Int))=>⟨[(5,.view 0 0 (List.map J p).length)],⟨1,[(0,(1,List.map J p))],[]⟩⟩) (fun p=>jf p=some r) ?_ ?_
 ·rintro Uj h;unfold jf at h;refine sr Z fun K4 e_=>O Z<|O Z<|aH e_ [4] Z ?_;refine aL ?_;obtain rfl:=D h;exact⟨.inr Z,.view 0 0 (List.map J Uj).length,Z,aB [(0,0)] [] Z Z Z (.cons Z Z (.same (by simp)) dt trivial) ⟨⟨_,Z,.view Z⟩,trivial⟩⟩
 ·intro K5 eV;refine sr Z fun K6 fN=>O Z<|an<|fN _ ?_;refine aI<|bG (fun(p:(List Int)×Bool×Int)=>gD aO eM p.1 p.2.1 p.2.2) (fun p=>⟨[(1,J eM),(2,.pp [sm ah.av aO.az] 0),(5,.view 0 0 (List.map J p.1).length),(6,bl p.2.1),(7,J p.2.2)],⟨1,[(0,(1,List.map J p.1))],[]⟩⟩) h (aB [] [0] Z Z Z (.fresh (by simp) dt trivial) ⟨.k,.k,⟨_,Z,.nil (by simp)⟩,.k,.k,trivial⟩) ?_
  ·rintro⟨rW,T6,t86⟩ o1 h fe;unfold gD at h;refine aD fun K7 gx=>aX (fun(p:Bool×Bool)=>⟨[(1,J eM),(2,.pp [sm ah.av aO.az] 0),(5,.view 0 0 (List.map J rW).length),(6,bl p.1),(7,J t86),(18,bl p.2)],⟨1,[(0,(1,List.map J rW))],[]⟩⟩) (fun p=>fL aO eM rW t86 p.1 p.2=some o1) ?_ ?_
   ·rintro⟨H9,v92⟩ h;unfold fL at h;refine a_ Z h (fun h=> ?_) (fun h=> ?_)
    ·refine aM<|gx _ (Y (U [1,2,5,6,7] Z) ?_);refine aX (fun(p:(List Int))=>⟨[(1,J eM),(2,.pp [sm ah.av aO.az] 0),(6,bl H9),(7,J t86),(5,.view 0 0 (List.map J p).length)],⟨1,[(0,(1,List.map J p))],[]⟩⟩) (fun p=>gE t86 H9 p=some o1) ?_ ?_
     ·rintro Yi h;unfold gE at h;refine bf Z<|O Z<|E Z (bK Z Z Z Z)<|O Z<|an ?_;replace h:=bO h;exact⟨_,h,U [1,2,5,6,7] Z⟩
     ·intro K8 gT;refine aI<|sr Z fun K9 iC=>bJ Z c_<|aT (sm ah.av aO.az) Z Z Z iH Z<|O Z<|V [1,2,5,6,7,22,23] Z ?_;obtain⟨aaH,afp,h⟩:=ai h;obtain⟨amR,ach,Tc⟩:=aV afp;refine E Z (aR ah.av aO.az ach Tc Z Z Z hU Z)<|aT (ah.av aaH) Z Z Z Jt Z<|O Z<|V [1,2,5,6,7,25,26] Z ?_;obtain⟨aaa,aeD,h⟩:=ai h;refine E (r:=bl aaa) Z (aZ Z Z (by simp) (m_ hT aeD))<|O Z<|aH iC [1,2,5,6,7,8] Z ?_;refine sr Z fun tR dD=>O Z<|aH dD [1,2,5,6,7,28] Z ?_;refine a_ Z h (fun h=> ?_) (fun h=> ?_)
      ·refine bf Z<|O Z<|O Z<|E (r:=.clip (List.map J [t86])) Z (bB Z (xo:=[.tmp 30]) Z Z Z (by simp[AV.eY]) (by simp[AV.flat]) dH Bk (by decide))<|V [1,2,6,7,29,31] Z ?_;obtain⟨Ae,V9,h⟩:=ai h;refine E (r:=.view 1 0 (List.map J Ae).length) Z (cm J rW [t86] Ae V9 Z AU (fun _=>Z) Z Z Z Z Z Z Z)<|O Z<|an ?_;exact gT Ae _ h (aB [(0,1)] [] Z Z Z (.cons Z Z (.same (by simp)) dt trivial) ⟨.k,.k,.k,.k,⟨_,Z,.view Z⟩,trivial⟩)
      ·exact aM<|gT rW _ h (U [1,2,6,7,5] Z)
    ·refine bz ?_;replace h:=bp h fe;exact eV rW _ h (U [5] Z)
   ·intro xu eR;refine bf Z<|O Z<|O Z ?_;rcases tf (T6) with Mc|Mc
    ·rw[Mc];replace h:=dN h Mc;refine O Z<|V [1,2,5,6,7,12,13] Z<|bJ Z c_<|aT (sm ah.av aO.az) Z Z Z iH Z<|E Z (bg ah.av aO.az Z Z hU)<|V [1,2,5,6,7,12,13,14,15,16] Z<|E Z (bE Z Z Z)<|O Z ?_;refine an ?_;exact eR (true,decide (t86<(Sh.len aO.az))) _ h (U [1,2,5,6,7,18] Z)
    ·rw[Mc];replace h:=dM h Mc;refine cu Z<|V [1,2,5,6,7,12,13] Z<|cr Z Z Z<|V [1,2,5,6,7,12,13,14,15,16] Z<|cu Z<|O Z ?_;refine an ?_;exact eR (false,false) _ h (U [1,2,5,6,7,18] Z)
theorem y7{W0:World}(hT:dc W0){aO:af}{eM:Int}{r:(List Int)}(h:je aO eM=some r):bW Tryz.prog W0 86 [af.av aO,J eM] (sm J r):=
 (yz hT h).yu (bq.e ⟨⟨_,Z,.dn Z Z (by simp)⟩,trivial⟩) (by simp)


theorem AZ{W0:World}(hT:dc W0){aO:af}{Fo:Int}{oK:Int}{r:Int×Bool}(h:mc aO Fo oK=some r):dX Tryz.prog W0 182 [af.av aO,J Fo,J oK] (.tuple [J r.1,bl r.2]) .empty:=by
 refine aU Tryz.func182 Z (by kernel_rfl) Tryz.ntmps182 (by simp) ?_;unfold mc at h;show ec _ _ _ _ ⟨[(0,af.av aO),(1,J Fo),(2,J oK)],.empty⟩ _;refine sr Z fun K1 c4=>E (r:=.ref 0 0 0) Z (bP 1 [af.av aO] Z Z Z (.inl ⟨Z,Z⟩))<|O Z<|O Z<|an<|c4 _ (Y (bq.e (fr':=[(1,J Fo),(2,J oK),(3,.pp [sm ah.av aO.az] 0)]) (H':=.empty) ⟨.k,.k,⟨_,Z,.ee Z Z Z Z (by simp)⟩,trivial⟩) ?_);refine sr Z fun K2 cT=>aT (af.av aO) Z Z Z gz Z ?_;obtain⟨wq,QV,h⟩:=ai h;refine E (r:=bl wq) Z (aZ Z Z (by simp) (j7 hT QV))<|O Z<|aH cT [1,2,3,8] Z ?_;refine aD fun K3 eN=>aX (fun(p:Bool)=>⟨[(1,J Fo),(2,J oK),(3,.pp [sm ah.av aO.az] 0),(25,bl p)],.empty⟩) (fun p=>fh aO Fo oK p=some r) ?_ ?_
 ·rintro v28 h;unfold fh at h;refine a_ Z h (fun h=> ?_) (fun h=> ?_)
  ·refine sr Z fun K4 e_=>O Z<|O Z<|aH e_ [6,7] Z ?_;refine aL ?_;obtain rfl:=D h;exact⟨.inr Z,.tuple [J 0,bl false],Z,bq.e ⟨⟨.tuple [J 0,bl false],Z,.tp ⟨.sm,.sm,trivial⟩⟩,trivial⟩⟩
  ·refine aM<|eN _ (Y (U [1,2,3] Z) ?_);refine sr Z fun K5 eV=>bJ Z c_<|aT (sm ah.av aO.az) Z Z Z iH Z<|O Z<|V [2,27,28] Z ?_;obtain⟨Og,ZE,h⟩:=ai h;obtain⟨k33,YX,Y7⟩:=aV ZE;refine E Z (aR ah.av aO.az YX Y7 Z Z Z hU Z)<|bJ Z rH<|aT (sm ak.av Og.Reads) Z Z Z yN Z<|V [2,31] Z<|O Z<|aH eV [2,9] Z ?_;refine aX (fun(p:Unit)=>⟨[],.empty⟩) (fun p=>o5=some r) ?_ ?_
   ·rintro⟨⟩ h;unfold o5 at h;refine sr Z fun K6 fN=>O Z<|O Z<|an<|fN _ ?_;refine aL ?_;obtain rfl:=D h;exact⟨.inr Z,.tuple [J 0,bl false],Z,bq.e ⟨⟨.tuple [J 0,bl false],Z,.tp ⟨.sm,.sm,trivial⟩⟩,trivial⟩⟩
   ·intro K7 gx;refine sr Z fun K8 gT=>O Z<|an<|gT _ ?_;refine aI<|bG (fun(p:Int)=>lG oK Og p) (fun p=>⟨[(2,J oK),(9,sm ak.av Og.Reads),(10,J p)],.empty⟩) h (U [2,9,10] Z) ?_
    ·rintro i57 o1 h fe;unfold lG at h;refine aD fun K9 iC=>sr Z fun tR dD=>O Z<|O Z<|E Z (bg ak.av Og.Reads Z Z p7)<|V [2,9,10,32,34] Z<|E Z (bE Z Z Z) ?_;refine aH dD [2,9,10,35] Z ?_;refine a_ Z h (fun h=> ?_) (fun h=> ?_)
     ·refine aM<|iC _ (Y (U [2,9,10] Z) ?_);refine aD fun xu eR=>aI<|sr Z fun xy eX=>O Z<|O Z ?_;obtain⟨x65,akn,h⟩:=ai h;obtain⟨k66,aiY,ajt⟩:=aV akn;refine E Z (aR ak.av Og.Reads aiY ajt Z Z Z p7 Z)<|V [2,9,10,40] Z<|bJ Z rG<|aT (J x65.Key) Z Z Z dS Z<|O Z<|V [2,9,10,42,43] Z<|E (r:=bl (decide (x65.Key=oK))) Z (dP Z Z Z)<|an ?_;refine eX _ (Y (U [2,9,10,44] Z) ?_);refine a_ Z h (fun h=> ?_) (fun h=> ?_)
      ·refine sr Z fun yR fB=>O Z<|O Z ?_;obtain⟨Vz,ZI,h⟩:=ai h;obtain⟨k71,Y0,Za⟩:=aV ZI;refine E Z (aR ak.av Og.Reads Y0 Za Z Z Z p7 Z)<|V [47] Z<|bJ Z mY<|aT (J Vz.bY) Z Z Z dS Z<|O Z<|V [6] Z<|O Z<|an ?_;refine fB _ ?_;refine aL ?_;replace h:=bp h fe;obtain rfl:=D h;exact⟨.inr Z,.tuple [J Vz.bY,bl true],Z,bq.e ⟨⟨.tuple [J Vz.bY,bl true],Z,.tp ⟨.sm,.sm,trivial⟩⟩,trivial⟩⟩
      ·refine aM<|eR _ (Y (U [2,9,10] Z) ?_);refine bf Z<|O Z<|E Z (bK Z Z Z Z)<|O Z<|an ?_;replace h:=bO h;exact⟨_,h,U [2,9,10] Z⟩
     ·refine bz ?_;replace h:=bp h fe;exact gx () _ h (U [] Z)
 ·intro CH gw;refine bf Z<|O Z<|E (r:=bl (!wq)) Z (cR Z Z)<|O Z<|V [1,2,3,15] Z ?_;rcases tf (!wq) with BT|BT
  ·rw[BT];replace h:=dN h BT;refine c9 Z Z<|O Z<|V [1,2,3,18] Z<|O Z<|c9 Z Z<|V [1,2,3,19,20,21] Z ?_;refine cr Z Z Z<|V [1,2,3,19,24] Z<|O Z<|an ?_;exact gw true _ h (U [1,2,3,25] Z)
  ·rw[BT];replace h:=dM h BT;refine O Z<|E Z (bE Z Z Z)<|O Z<|V [1,2,3,18] Z<|O Z ?_;rcases tf (decide (Fo<0)) with HQ|HQ
   ·rw[HQ];replace h:=dN h HQ;refine c9 Z Z<|V [1,2,3,19,20,21] Z<|cr Z Z Z<|V [1,2,3,19,24] Z<|O Z ?_;refine an ?_;exact gw true _ h (U [1,2,3,25] Z)
   ·rw[HQ];replace h:=dM h HQ;refine O Z<|bJ Z c_<|V [1,2,3,19,20,21] Z<|aT (sm ah.av aO.az) Z Z Z iH Z<|E Z (bg ah.av aO.az Z Z hU)<|E Z (gI Z Z Z)<|V [1,2,3,19,24] Z<|O Z ?_;refine an ?_;exact gw (decide ((Sh.len aO.az)≤Fo)) _ h (U [1,2,3,25] Z)
theorem B0{W0:World}(hT:dc W0){aO:af}{Fo:Int}{oK:Int}{r:Int×Bool}(h:mc aO Fo oK=some r):bW Tryz.prog W0 182 [af.av aO,J Fo,J oK] (.tuple [J r.1,bl r.2]):=bW.two (AZ hT h) (by simp)


theorem yy{W0:World}(hT:dc W0){aO:af}{eM:Int}{rI:Int}{r:(List Int)}(h:jc aO eM rI=some r):dX Tryz.prog W0 172 [af.av aO,J eM,J rI] (.view 0 0 (List.map J r).length) ⟨1,[(0,(1,List.map J r))],[]⟩:=by
 refine aU Tryz.func172 Z (by kernel_rfl) Tryz.ntmps172 (by simp) ?_;unfold jc at h;show ec _ _ _ _ ⟨[(0,af.av aO),(1,J eM),(2,J rI)],.empty⟩ _;refine sr Z fun K1 c4=>E (r:=.ref 0 0 0) Z (bP 1 [af.av aO] Z Z Z (.inl ⟨Z,Z⟩))<|O Z<|an<|c4 _ (Y (bq.e (fr':=[(1,J eM),(2,J rI),(3,.pp [sm ah.av aO.az] 0)]) (H':=.empty) ⟨.k,.k,⟨_,Z,.ee Z Z Z Z (by simp)⟩,trivial⟩) ?_);refine sr Z fun K2 cT=>O Z<|an<|cT _ ?_;refine aX (fun(p:(List Int))=>⟨[(7,.view 0 0 (List.map J p).length)],⟨1,[(0,(1,List.map J p))],[]⟩⟩) (fun p=>me p=some r) ?_ ?_
 ·rintro Ib h;unfold me at h;refine sr Z fun K3 eN=>O Z<|O Z<|aH eN [6] Z ?_;refine aL ?_;obtain rfl:=D h;exact⟨.inr Z,.view 0 0 (List.map J Ib).length,Z,aB [(0,0)] [] Z Z Z (.cons Z Z (.same (by simp)) dt trivial) ⟨⟨_,Z,.view Z⟩,trivial⟩⟩
 ·intro K4 e_;refine sr Z fun K5 eV=>O Z<|an<|eV _ ?_;refine aI<|bG (fun(p:(List Int)×Int)=>jd aO eM rI p.1 p.2) (fun p=>⟨[(1,J eM),(2,J rI),(3,.pp [sm ah.av aO.az] 0),(7,.view 0 0 (List.map J p.1).length),(8,J p.2)],⟨1,[(0,(1,List.map J p.1))],[]⟩⟩) h (aB [] [0] Z Z Z (.fresh (by simp) dt trivial) ⟨.k,.k,.k,⟨_,Z,.nil (by simp)⟩,.k,trivial⟩) ?_
  ·rintro⟨rU,t53⟩ o1 h fe;unfold jd at h;refine aD fun K6 fN=>sr Z fun K7 gx=>O Z<|bJ Z c_<|aT (sm ah.av aO.az) Z Z Z iH Z<|V [1,2,3,7,8,11,13] Z<|E Z (bg ah.av aO.az Z Z hU) ?_;refine E Z (bE Z Z Z)<|aH gx [1,2,3,7,8,15] Z ?_;refine a_ Z h (fun h=> ?_) (fun h=> ?_)
   ·refine aM<|fN _ (Y (U [1,2,3,7,8] Z) ?_);refine aX (fun(p:(List Int))=>⟨[(1,J eM),(2,J rI),(3,.pp [sm ah.av aO.az] 0),(8,J t53),(7,.view 0 0 (List.map J p).length)],⟨1,[(0,(1,List.map J p))],[]⟩⟩) (fun p=>gB t53 p=some o1) ?_ ?_
    ·rintro Nn h;unfold gB at h;refine bf Z<|O Z<|E Z (bK Z Z Z Z)<|O Z<|an ?_;replace h:=bO h;exact⟨_,h,U [1,2,3,7,8] Z⟩
    ·intro K8 gT;refine aI<|sr Z fun K9 iC=>aT (af.av aO) Z Z Z gz Z<|O Z<|O Z<|V [1,2,3,7,8,19,20,21] Z ?_;obtain⟨VH,ajW,h⟩:=ai h;refine E (r:=.tuple [J VH.1,bl VH.2]) Z (aZ Z Z (by simp) (B0 hT ajW))<|O Z<|E (r:=J VH.1) Z (dA Z Z Z)<|V [1,2,3,7,8,18,23] Z<|E (r:=bl VH.2) Z (dA Z Z Z)<|O Z<|O Z<|an ?_;refine iC _ (Y (U [1,2,3,7,8,9,10] Z) ?_);refine aX (fun(p:Bool)=>⟨[(1,J eM),(2,J rI),(3,.pp [sm ah.av aO.az] 0),(7,.view 0 0 (List.map J rU).length),(8,J t53),(30,bl p)],⟨1,[(0,(1,List.map J rU))],[]⟩⟩) (fun p=>gC rU t53 p=some o1) ?_ ?_
     ·rintro v63 h;unfold gC at h;refine a_ Z h (fun h=> ?_) (fun h=> ?_)
      ·refine bf Z<|O Z<|O Z<|E (r:=.clip (List.map J [t53])) Z (bB Z (xo:=[.tmp 32]) Z Z Z (by simp[AV.eY]) (by simp[AV.flat]) dH Bk (by decide))<|V [1,2,3,8,31,33] Z ?_;obtain⟨No,Zf,h⟩:=ai h;refine E (r:=.view 1 0 (List.map J No).length) Z (cm J rU [t53] No Zf Z AU (fun _=>Z) Z Z Z Z Z Z Z)<|O Z<|an ?_;exact gT No _ h (aB [(0,1)] [] Z Z Z (.cons Z Z (.same (by simp)) dt trivial) ⟨.k,.k,.k,.k,⟨_,Z,.view Z⟩,trivial⟩)
      ·exact aM<|gT rU _ h (U [1,2,3,8,7] Z)
     ·intro tR dD;refine bf Z<|O Z<|O Z ?_;rcases tf (VH.2) with HP|HP
      ·rw[HP];replace h:=dN h HP;refine O Z<|V [1,2,3,7,8,26,27] Z<|O Z<|E (r:=bl (decide (VH.1=rI))) Z (dP Z Z Z)<|O Z<|an ?_;exact dD (decide (VH.1=rI)) _ h (U [1,2,3,7,8,30] Z)
      ·rw[HP];replace h:=dM h HP;refine cu Z<|V [1,2,3,7,8,26,27] Z<|c9 Z Z<|O Z<|an ?_;exact dD false _ h (U [1,2,3,7,8,30] Z)
   ·refine bz ?_;replace h:=bp h fe;exact e_ rU _ h (U [7] Z)
theorem y6{W0:World}(hT:dc W0){aO:af}{eM:Int}{rI:Int}{r:(List Int)}(h:jc aO eM rI=some r):bW Tryz.prog W0 172 [af.av aO,J eM,J rI] (sm J r):=
 (yy hT h).yu (bq.e ⟨⟨_,Z,.dn Z Z (by simp)⟩,trivial⟩) (by simp)


theorem zR{W0:World}(hT:dc W0){aO:af}{r:(List aa)}(h:iS aO=some r):dX Tryz.prog W0 47 [af.av aO] (.view 0 0 (List.map aa.av r).length) ⟨1,[(0,(3,List.map aa.av r))],[]⟩:=by
 refine aU Tryz.func47 Z (by kernel_rfl) Tryz.ntmps47 (by simp) ?_;unfold iS at h;show ec _ _ _ _ ⟨[(0,af.av aO)],.empty⟩ _;refine sr Z fun K1 c4=>E (r:=.ref 0 0 0) Z (bP 1 [af.av aO] Z Z Z (.inl ⟨Z,Z⟩))<|O Z<|an<|c4 _ (Y (bq.e (fr':=[(1,.pp [sm ah.av aO.az] 0)]) (H':=.empty) ⟨⟨_,Z,.ee Z Z Z Z (by simp)⟩,trivial⟩) ?_);refine sr Z fun K2 cT=>O Z<|an<|cT _ ?_;refine aX (fun(p:(List aa))=>⟨[(3,.view 0 0 (List.map aa.av p).length)],⟨1,[(0,(3,List.map aa.av p))],[]⟩⟩) (fun p=>oq p=some r) ?_ ?_
 ·rintro O2 h;unfold oq at h;refine sr Z fun K3 eN=>O Z<|O Z<|aH eN [2] Z ?_;refine aL ?_;obtain rfl:=D h;exact⟨.inr Z,.view 0 0 (List.map aa.av O2).length,Z,aB [(0,0)] [] Z Z Z (.cons Z Z (.same (by simp)) dt trivial) ⟨⟨_,Z,.view Z⟩,trivial⟩⟩
 ·intro K4 e_;refine sr Z fun K5 eV=>O Z<|an<|eV _ ?_;refine aI<|bG (fun(p:(List aa)×Int)=>j8 aO p.1 p.2) (fun p=>⟨[(1,.pp [sm ah.av aO.az] 0),(3,.view 0 0 (List.map aa.av p.1).length),(4,J p.2)],⟨1,[(0,(3,List.map aa.av p.1))],[]⟩⟩) h (aB [] [0] Z Z Z (.fresh (by simp) dt trivial) ⟨.k,⟨_,Z,.nil (by simp)⟩,.k,trivial⟩) ?_
  ·rintro⟨KR,oM⟩ o1 h fe;unfold j8 at h;refine aD fun K6 fN=>sr Z fun K7 gx=>O Z<|E Z (bE Z Z Z)<|aH gx [1,3,4,9] Z ?_;refine a_ Z h (fun h=> ?_) (fun h=> ?_)
   ·refine aM<|fN _ (Y (U [1,3,4] Z) ?_);refine aX (fun(p:(List aa))=>⟨[(1,.pp [sm ah.av aO.az] 0),(3,.view 0 0 (List.map aa.av p).length),(4,J oM)],⟨1,[(0,(3,List.map aa.av p))],[]⟩⟩) (fun p=>ot oM p=some o1) ?_ ?_
    ·rintro Uh h;unfold ot at h;refine bf Z<|O Z<|E Z (bK Z Z Z Z)<|O Z<|an ?_;replace h:=bO h;exact⟨_,h,U [1,3,4] Z⟩
    ·intro K8 gT;refine aI<|sr Z fun K9 iC=>aT (af.av aO) Z Z Z gz Z<|O Z ?_;obtain⟨yG,ae8,h⟩:=ai h;refine E (r:=sm J yG) Z (aZ Z Z (by simp) (y7 hT ae8))<|V [1,3,4,14] Z<|O Z<|aH iC [1,3,4,5] Z ?_;refine sr Z fun tR dD=>O Z<|an<|dD _ ?_;refine aI<|bG (fun(p:(List aa)×Int)=>j9 oM yG p.1 p.2) (fun p=>⟨[(1,.pp [sm ah.av aO.az] 0),(3,.view 0 0 (List.map aa.av p.1).length),(4,J oM),(5,sm J yG),(6,J p.2)],⟨1,[(0,(3,List.map aa.av p.1))],[]⟩⟩) h (U [1,3,4,5,6] Z) ?_
     ·rintro⟨KS,ET⟩ o2 h s5;unfold j9 at h;refine aD fun xu eR=>sr Z fun xy eX=>O Z<|O Z<|E Z (bg J yG Z Z dH)<|V [1,3,4,5,6,15,17] Z<|E Z (bE Z Z Z) ?_;refine aH eX [1,3,4,5,6,18] Z ?_;refine a_ Z h (fun h=> ?_) (fun h=> ?_)
      ·refine aM<|eR _ (Y (U [1,3,4,5,6] Z) ?_);refine aX (fun(p:(List aa))=>⟨[(1,.pp [sm ah.av aO.az] 0),(3,.view 0 0 (List.map aa.av p).length),(4,J oM),(5,sm J yG),(6,J ET)],⟨1,[(0,(3,List.map aa.av p))],[]⟩⟩) (fun p=>ou ET p=some o2) ?_ ?_
       ·rintro Ui h;unfold ou at h;refine bf Z<|O Z<|E Z (bK Z Z Z Z)<|O Z<|an ?_;replace h:=bO h;exact⟨_,h,U [1,3,4,5,6] Z⟩
       ·intro yR fB;refine aI<|sr Z fun CH gw=>O Z<|E Z (bK Z Z Z Z)<|O Z<|aH gw [1,3,4,5,6,7] Z ?_;refine aI<|bG (fun(p:(List aa)×Int)=>j_ oM yG ET p.1 p.2) (fun p=>⟨[(1,.pp [sm ah.av aO.az] 0),(3,.view 0 0 (List.map aa.av p.1).length),(4,J oM),(5,sm J yG),(6,J ET),(7,J p.2)],⟨1,[(0,(3,List.map aa.av p.1))],[]⟩⟩) h (U [1,3,4,5,6,7] Z) ?_
        ·rintro⟨Ie,TX⟩ o3 h KF;unfold j_ at h;refine aD fun Em iK=>sr Z fun F3 jY=>O Z<|O Z<|E Z (bg J yG Z Z dH)<|V [1,3,4,5,6,7,23,25] Z<|E Z (bE Z Z Z) ?_;refine aH jY [1,3,4,5,6,7,26] Z ?_;refine a_ Z h (fun h=> ?_) (fun h=> ?_)
         ·refine aM<|iK _ (Y (U [1,3,4,5,6,7] Z) ?_);refine aD fun G2 lF=>aI<|dK [(true,false),(true,false),(true,false),(true,false),(true,false),(true,false),(true,false),(true,false),(true,false),(true,false),(true,false),(true,false),(false,true),(true,false)] (by kernel_rfl) (by kernel_rfl) Z ?_;refine aK Z<|aK Z<|aK Z<|au [1,4,5,6,7,29,30,31] Z<|aK Z ?_;obtain⟨RS,agv,h⟩:=ai h;obtain⟨anM,adl,aeu⟩:=aV agv;refine aP Z (fun _=>aR J yG adl aeu Z Z Z dH Z)<|bF (J RS) Z Z Z dS Z<|au [1,4,5,6,7,29,30,34] Z<|aK Z<|aK Z ?_;obtain⟨RT,agw,h⟩:=ai h;obtain⟨anN,adm,aev⟩:=aV agw;refine aP Z (fun _=>aR J yG adm aev Z Z Z dH Z)<|au [1,4,5,6,7,29,30,34,37] Z<|bF (J RT) Z Z Z dS Z<|aP (r:=.agg [J oM,J RS,J RT]) Z (fun _=>cA Z Sf Z Z Z)<|aP (r:=.clip (List.map aa.av ([(aa.mk oM RS RT)]:List aa))) Z (fun _=>bB Z (xo:=[.tmp 39]) Z Z Z (by simp) (by simp) wU Xo (by decide))<|au [1,4,5,6,7,29,40] Z ?_;obtain⟨FL,Wc,h⟩:=ai h;refine eP (r:=.view 1 0 (List.map aa.av FL).length) Z Z (cm aa.av Ie ([(aa.mk oM RS RT)]:List aa) FL Wc Z Sn (fun _=>Z) Z Z Z Z Z Z Z)<|aK Z<|bS<|lF _ (Y (aB (fr':=[(1,.pp [sm ah.av aO.az] 0),(4,J oM),(5,sm J yG),(6,J ET),(7,J TX),(3,.view 0 0 (List.map aa.av FL).length)]) (H':=⟨1,[(0,(3,List.map aa.av FL))],[]⟩) [(0,1)] [] Z Z Z (.cons Z Z (.same (by simp)) dt trivial) ⟨.k,.k,⟨(sm J yG),Z,.sm⟩,.k,.k,⟨_,Z,.view Z⟩,trivial⟩) ?_);refine bf Z<|O Z<|E Z (bK Z Z Z Z)<|O Z<|an ?_;replace h:=bO h;exact⟨_,h,U [1,3,4,5,6,7] Z⟩
         ·refine bz ?_;replace h:=bp h KF;exact fB Ie _ h (U [1,3,4,5,6] Z)
      ·refine bz ?_;replace h:=bp h s5;exact gT KS _ h (U [1,3,4] Z)
   ·refine bz ?_;replace h:=bp h fe;exact e_ KR _ h (U [3] Z)
theorem uK{W0:World}(hT:dc W0){aO:af}{r:(List aa)}(h:iS aO=some r):bW Tryz.prog W0 47 [af.av aO] (sm aa.av r):=
 (zR hT h).yu (bq.e ⟨⟨_,Z,.dn Z Z (by simp)⟩,trivial⟩) (by simp)

end Wk
