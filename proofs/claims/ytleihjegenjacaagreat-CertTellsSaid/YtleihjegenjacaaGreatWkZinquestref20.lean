/- That the functions of a package do what their plain functions say. -/
import Derived.Test.YtleihjegenjacaaGreatWkZinquestref18
open Go Go.Av Go.Proofs G Go.Sh Go.Av.Sh
set_option linter.unusedVariables false
set_option maxHeartbeats 8000000
set_option maxRecDepth 20000
namespace Wk
variable {W0:World}
theorem Dv{aQ aN UP GA r}(h:rj aQ aN UP GA=some r):F1 W0 112 [af.av aQ,sm J aN,J UP,J GA] (J r):=by
 refine cB Tryz.func112 Tryz.ntmps112 ?_;unfold rj at h;refine sr Z fun K1 eB=>E (r:=.ref 0 0 0) Z (bI 1 [af.av aQ] Z Z Z (.inl ⟨Z,Z⟩))<|O Z<|ah<|eB _ (Y (aU.eo (fr':=[(1,sm J aN),(2,J UP),(3,J GA),(4,.pp [sm ai.av aQ.aC] 0)])) ?_);refine aO (fun(p:Unit)=>⟨[],.empty⟩) (fun p=>ua=some r) ?_ ?_
 ·rintro⟨⟩ h;unfold ua at h;refine sr Z fun K2 b7=>O Z<|ah<|b7 _ ?_;cases h;exact aA rk
 ·intro K3 dZ;refine aM aL 3 [1,3,4,9] Z ?_;refine aF<|bq (fun(p:Int)=>jt aQ aN GA p) (fun p=>⟨[(1,sm J aN),(3,J GA),(4,.pp [sm ai.av aQ.aC] 0),(9,J p)],.empty⟩) h (U [1,3,4,9] Z) ?_
  ·rintro i62 o1 h dM;unfold jt at h;refine az fun K5 ec=>aM aL 2 [1,3,4,9,14] Z ?_;refine aT Z h (fun h=> ?_) (fun h=> ?_)
   ·refine aD<|ec _ (Y (U [1,3,4,9] Z) ?_);refine az fun K7 f_=>aF<|az fun K8 gd=>b5 (fl 11 [] []) (by kernel_rfl) (by kernel_rfl) Z ?_;refine aS aL 3 [1,3,4,9,18,19] Z ?_;refine bt Z<|Sh.bi h fun x76 k77 aoX adJ h=>aJ Z (fun _=>aH J aN aoX adJ Z Z Z bX Z)<|aS aL 1 [1,3,4,9,18,22] Z ?_;refine Sh.bi h fun x78 k79 aoZ apx h=>aJ Z (fun _=>aH ai.av aQ.aC aoZ apx Z Z Z fJ Z)<|bQ (ai.av x78) Z Z Z G0 Z<|aS aL 1 [1,3,4,9,24,25] Z ?_;refine Sh.bd h fun r80 aed h=>aJ (r:=bl r80) Z (fun _=>aK Z Z (by simp) (eZ aed))<|bt Z<|bw<|gd _ (Y (U [1,3,4,9,10] Z) ?_);refine aM aL 1 [1,3,4,9,27] Z ?_;refine aT Z h (fun h=> ?_) (fun h=> ?_)
    ·refine sr Z fun vQ dh=>O Z<|O Z<|Sh.bi h fun uM k85 adv We h=>E Z (aH J aN adv We Z Z Z bX Z)<|aG aL dh 2 [8] Z ?_;replace h:=aZ h dM;cases h;exact aA rk
    ·refine aD<|f_ _ (Y (U [1,3,4,9] Z) ?_);refine aW Z<|O Z<|E Z (yY Z Z Z Z)<|O Z<|ah ?_;replace h:=bE h;exact⟨_,h,U [1,3,4,9] Z⟩
   ·refine bp ?_;replace h:=aZ h dM;exact dZ () _ h (U [] Z)


theorem CM{aQ aN r}(h:nO aQ aN=some r):F2 W0 77 [af.av aQ,sm J aN] (.view 0 0 (List.map (z8 an.av) r).length) ⟨1,[(0,(1,List.map (z8 an.av) r))],[]⟩:=by
 refine kn Tryz.func77 Tryz.ntmps77 ?_;unfold nO at h;refine sr Z fun K1 eB=>E (r:=.ref 0 0 0) Z (bI 1 [af.av aQ] Z Z Z (.inl ⟨Z,Z⟩))<|O Z<|ah<|eB _ (Y (aU.eo (fr':=[(1,sm J aN),(2,.pp [sm ai.av aQ.aC] 0)])) ?_);refine sr Z fun K2 b7=>bD (af.av aQ) Z Z Z eS Z<|Sh.bd h fun Z1 ak2 h=>E (r:=bl Z1) Z (aK Z Z (by simp) (fo ak2))<|aG aL b7 1 [1,2,5] Z ?_;refine sr Z fun K3 dZ=>aB aL 3 [1,2,5,15,17] Z ?_;refine E Z (aX ai.av aQ.aC Z Z fJ)<|Sh.bd h fun PA Wm h=>E (r:=bl PA) Z (aK Z Z (by simp) (t_ Wm))<|aG aL dZ 1 [1,2,5,6] Z ?_;refine az fun K4 gB=>aO (fun(p:Bool)=>⟨[(1,sm J aN),(2,.pp [sm ai.av aQ.aC] 0),(25,bl p)],.empty⟩) (fun p=>mO aQ aN p=some r) ?_ ?_
 ·rintro amW h;unfold mO at h;refine aT Z h (fun h=> ?_) (fun h=> ?_)
  ·refine aM aL 1 [4] Z ?_;refine aA ?_;obtain rfl:=D h;exact⟨.inr Z,aV,Z,aU.ra [] [0]⟩
  ·refine aD<|gB _ (Y (U [1,2] Z) ?_);refine sr Z fun K6 eE=>O Z<|ah<|eE _ ?_;refine aO (fun(p:(List (List an)))=>⟨[(7,.view 0 0 (List.map (z8 an.av) p).length)],⟨1,[(0,(1,List.map (z8 an.av) p))],[]⟩⟩) (fun p=>q9 p=some r) ?_ ?_
   ·rintro Rg h;unfold q9 at h;refine aM aL 2 [4] Z ?_;refine aA ?_;obtain rfl:=D h;exact⟨.inr Z,.view 0 0 (List.map (z8 an.av) Rg).length,Z,aU.ra [(0,0)] []⟩
   ·intro K8 gd;refine sr Z fun K9 gU=>O Z<|ah<|gU _ ?_;refine aF<|bq (fun(p:(List (List an))×Int)=>mL aQ aN p.1 p.2) (fun p=>⟨[(1,sm J aN),(2,.pp [sm ai.av aQ.aC] 0),(7,.view 0 0 (List.map (z8 an.av) p.1).length),(8,J p.2)],⟨1,[(0,(1,List.map (z8 an.av) p.1))],[]⟩⟩) h (aU.ra [] [0]) ?_
    ·rintro⟨lX,xC⟩ o1 h dM;unfold mL at h;refine az fun vQ dh=>sr Z fun zh eC=>aB aL 3 [1,2,7,8,26,28] Z ?_;refine E Z (aX ai.av aQ.aC Z Z fJ)<|aG aL eC 1 [1,2,7,8,30] Z ?_;refine aT Z h (fun h=> ?_) (fun h=> ?_)
     ·refine aD<|dh _ (Y (U [1,2,7,8] Z) ?_);refine aO (fun(p:(List (List an)))=>⟨[(1,sm J aN),(2,.pp [sm ai.av aQ.aC] 0),(8,J xC),(7,.view 0 0 (List.map (z8 an.av) p).length)],⟨1,[(0,(1,List.map (z8 an.av) p))],[]⟩⟩) (fun p=>q_ xC p=some o1) ?_ ?_
      ·rintro W3 h;unfold q_ at h;refine aW Z<|O Z<|E Z (bA Z Z Z Z)<|O Z<|ah ?_;replace h:=bE h;exact⟨_,h,U [1,2,7,8] Z⟩
      ·intro Am eV;refine aF<|sr Z fun Ae eD=>O Z<|ah<|eD _ ?_;refine aO (fun(p:Int)=>⟨[(1,sm J aN),(2,.pp [sm ai.av aQ.aC] 0),(7,.view 0 0 (List.map (z8 an.av) lX).length),(8,J xC),(9,J p)],⟨1,[(0,(1,List.map (z8 an.av) lX))],[]⟩⟩) (fun p=>mP aQ aN lX xC p=some o1) ?_ ?_
       ·rintro Jp h;unfold mP at h;refine sr Z fun BH e9=>O Z<|ah<|e9 _ ?_;refine aO (fun(p:(List an))=>⟨[(1,sm J aN),(2,.pp [sm ai.av aQ.aC] 0),(7,.view 0 0 (List.map (z8 an.av) lX).length),(8,J xC),(10,sm an.av p)],⟨1,[(0,(1,List.map (z8 an.av) lX))],[]⟩⟩) (fun p=>ri lX xC p=some o1) ?_ ?_
        ·rintro ZI h;unfold ri at h;refine aW Z<|O Z<|O Z<|E (r:=.clip (List.map (z8 an.av) ([ZI]:List (List an)))) Z (bu Z (xo:=[.tmp 73]) Z Z Z (by simp[AV.dH]) (by simp[AV.flat]) QJ arD (by decide))<|V [1,2,8,72,74] Z<|Sh.bd h fun J3 Zo h=>E (r:=.view 1 0 (List.map (z8 an.av) J3).length) Z (bV (z8 an.av) lX ([ZI]:List (List an)) J3 Zo Z aoy (fun _=>Z) Z Z Z Z Z Z Z)<|O Z ?_;refine ah ?_;exact eV J3 _ h (aU.ra [(0,1)] [])
        ·intro Fh h_;refine sr Z fun FY iQ=>O Z<|ah<|iQ _ ?_;refine aF<|bq (fun(p:(List an)×Int)=>mM aQ aN lX xC Jp p.1 p.2) (fun p=>⟨[(1,sm J aN),(2,.pp [sm ai.av aQ.aC] 0),(7,.view 0 0 (List.map (z8 an.av) lX).length),(8,J xC),(9,J Jp),(10,.view 1 0 (List.map an.av p.1).length),(11,J p.2)],⟨2,[(0,(1,List.map (z8 an.av) lX)),(1,(2,List.map an.av p.1))],[]⟩⟩) h (aU.ra [(0,0)] [1]) ?_
         ·rintro⟨WH,Wx⟩ o2 h tj;unfold mM at h;refine az fun G9 ic=>sr Z fun IS iZ=>aB aL 3 [1,2,7,8,9,10,11,41,43] Z ?_;refine O Z<|Sh.bi h fun aaw atQ aiE ake h=>E Z (aH ai.av aQ.aC aiE ake Z Z Z fJ Z)<|aB aL 1 [1,2,7,8,9,10,11,41,46] Z ?_;refine bD (sm an.av aaw.Reads) Z Z Z Lv Z<|E Z (aX an.av aaw.Reads Z Z qA)<|aG aL iZ 1 [1,2,7,8,9,10,11,49] Z ?_;refine aT Z h (fun h=> ?_) (fun h=> ?_)
          ·refine aD<|ic _ (Y (U [1,2,7,8,9,10,11] Z) ?_);refine az fun IT gV=>aF<|sr Z fun N5 tT=>aB aL 3 [1,2,7,8,9,10,11,53,54] Z ?_;refine Sh.bi h fun afW atS aiF akf h=>E Z (aH ai.av aQ.aC aiF akf Z Z Z fJ Z)<|aB aL 2 [1,2,7,8,9,10,11,57] Z ?_;refine O Z<|Sh.bi h fun Ur atT aiG akg h=>E Z (aH an.av afW.Reads aiG akg Z Z Z qA Z)<|aG aL tT 3 [1,2,7,8,9,10,11,12] Z ?_;refine aW Z<|O Z<|O Z<|bD (af.av aQ) Z Z Z eS Z<|aB aL 3 [1,2,7,8,9,11,62,63,64,65,66,67] Z ?_;refine Sh.bd h fun TW alp h=>E (r:=J TW) Z (aK Z Z (by simp) (Dv alp))<|E (r:=.agg [J Ur.Key,J TW]) Z (cm Z ac2 Z Z Z)<|E (r:=.clip (List.map an.av ([(an.mk Ur.Key TW)]:List an))) Z (bu Z (xo:=[.tmp 69]) Z Z Z (by simp) (by simp) qA af9 (by decide))<|V [1,2,7,8,9,11,62,70] Z<|Sh.bd h fun Tz akh h=>E (r:=.view 2 0 (List.map an.av Tz).length) Z (bV an.av WH ([(an.mk Ur.Key TW)]:List an) Tz akh Z ag3 (fun _=>Z) Z Z Z Z Z Z Z)<|O Z ?_;refine ah<|gV _ (Y (aU.ra (fr':=[(1,sm J aN),(2,.pp [sm ai.av aQ.aC] 0),(7,.view 0 0 (List.map (z8 an.av) lX).length),(8,J xC),(9,J Jp),(11,J Wx),(10,.view 1 0 (List.map an.av Tz).length)]) (H':=⟨2,[(0,(1,List.map (z8 an.av) lX)),(1,(2,List.map an.av Tz))],[]⟩) [(0,0),(1,2)] []) ?_);refine aW Z<|O Z<|E Z (bA Z Z Z Z)<|O Z<|ah ?_;replace h:=bE h;exact⟨_,h,U [1,2,7,8,9,10,11] Z⟩
          ·refine bp ?_;replace h:=aZ h tj;exact h_ WH _ h (aU.ra [(0,0)] [])
       ·intro Qu uG;refine aF<|bq (fun(p:Int)=>mN aQ aN lX xC p) (fun p=>⟨[(1,sm J aN),(2,.pp [sm ai.av aQ.aC] 0),(7,.view 0 0 (List.map (z8 an.av) lX).length),(8,J xC),(9,J p)],⟨1,[(0,(1,List.map (z8 an.av) lX))],[]⟩⟩) h (U [1,2,7,8,9] Z) ?_
        ·rintro Oa o3 h Na;unfold mN at h;refine az fun S4 uv=>sr Z fun Yw Ag=>O Z<|O Z<|Sh.bi h fun Ql amb OP OT h=>E Z (aH J aN OP OT Z Z Z bX Z)<|aG aL Ag 3 [1,2,7,8,9,38] Z ?_;refine aT Z h (fun h=> ?_) (fun h=> ?_)
         ·refine aD<|uv _ (Y (U [1,2,7,8,9] Z) ?_);refine aF<|aW Z<|O Z<|E Z (bA Z Z Z Z)<|O Z<|ah ?_;replace h:=bE h;exact⟨_,h,U [1,2,7,8,9] Z⟩
         ·refine bp ?_;replace h:=aZ h Na;exact uG Oa _ h (U [1,2,7,8,9] Z)
     ·refine bp ?_;replace h:=aZ h dM;exact gd lX _ h (U [7] Z)
 ·intro YM AO;refine aW Z<|aB aL 3 [1,2,6,22] Z ?_;cases abu:(!Z1)
  ·replace h:=b_ h abu;refine aB aL 3 [1,2,25] Z ?_;refine ah ?_;exact AO (!PA) _ h (U [1,2,25] Z)
  ·replace h:=cg h abu;refine aB aL 3 [1,2,25] Z ?_;refine ah ?_;exact AO true _ h (U [1,2,25] Z)
theorem Du{aQ aN r}(h:nO aQ aN=some r):F1 W0 77 [af.av aQ,sm J aN] (.sl (List.map (z8 an.av) r)):=
 (CM h).wR (aU.ra [] []) (by simp)


theorem CN{eM fK r}(h:pS eM fK=some r):F1 W0 78 [sm an.av eM,sm an.av fK] (bl r):=by
 refine cB Tryz.func78 Tryz.ntmps78 ?_;unfold pS at h;refine aM aL 1 [0,1] Z ?_;refine az fun K2 b7=>sr Z fun K3 dZ=>O Z<|E Z (aX an.av eM Z Z qA)<|aB aL 1 [0,1,7,8] Z ?_;refine E Z (aX an.av fK Z Z qA)<|aG aL dZ 1 [0,1,10] Z ?_;refine aT Z h (fun h=> ?_) (fun h=> ?_)
 ·refine aM aL 1 [4] Z ?_;cases h;exact aA rk
 ·refine aD<|b7 _ (Y (U [0,1] Z) ?_);refine aO (fun(p:Unit)=>⟨[],.empty⟩) (fun p=>qq=some r) ?_ ?_
  ·rintro⟨⟩ h;unfold qq at h;refine sr Z fun K5 ec=>O Z<|ah<|ec _ ?_;cases h;exact aA rk
  ·intro K6 eE;refine sr Z fun K7 f_=>O Z<|ah<|f_ _ ?_;refine aF<|bq (fun(p:Int)=>iJ eM fK p) (fun p=>⟨[(0,sm an.av eM),(1,sm an.av fK),(5,J p)],.empty⟩) h (U [0,1,5] Z) ?_
   ·rintro i39 o1 h dM;unfold iJ at h;refine az fun K8 gd=>sr Z fun K9 gU=>O Z<|O Z<|E Z (aX an.av eM Z Z qA)<|aG aL gU 1 [0,1,5,14] Z ?_;refine aT Z h (fun h=> ?_) (fun h=> ?_)
    ·refine aD<|gd _ (Y (U [0,1,5] Z) ?_);refine az fun vQ dh=>aF<|az fun zh eC=>b5 (fl 9 [] []) (by kernel_rfl) (by kernel_rfl) Z ?_;refine bt Z<|bt Z<|Sh.bi h fun Qm k50 QU QW h=>aJ Z (fun _=>aH an.av eM QU QW Z Z Z qA Z)<|bP [0,1,5,19] Z<|bQ (an.av Qm) Z Z Z EW Z<|aS aL 2 [0,1,5,20,21,22] Z ?_;refine Sh.bi h fun KW k52 M5 Lc h=>aJ Z (fun _=>aH an.av fK M5 Lc Z Z Z qA Z)<|bQ (an.av KW) Z Z Z EW Z<|aJ (r:=bl (!decide (Qm=KW))) Z (fun _=>Fc (a:=Qm) (b:=KW) Z Z Z)<|bw<|eC _ (Y (U [0,1,5,25] Z) ?_);refine aT Z h (fun h=> ?_) (fun h=> ?_)
     ·refine aM aL 1 [4] Z ?_;replace h:=aZ h dM;cases h;exact aA rk
     ·refine aD<|dh _ (Y (U [0,1,5] Z) ?_);refine aW Z<|O Z<|E Z (bA Z Z Z Z)<|O Z<|ah ?_;replace h:=bE h;exact⟨_,h,U [0,1,5] Z⟩
    ·refine bp ?_;replace h:=aZ h dM;exact eE () _ h (U [] Z)


theorem AT{aQ aN r}(h:k9 aQ aN=some r):F1 W0 79 [af.av aQ,sm J aN] (bl r):=by
 refine cB Tryz.func79 Tryz.ntmps79 ?_;unfold k9 at h;refine sr Z fun K1 eB=>E (r:=.ref 0 0 0) Z (bI 1 [af.av aQ] Z Z Z (.inl ⟨Z,Z⟩))<|O Z<|ah<|eB _ (Y (aU.eo (fr':=[(1,sm J aN),(2,.pp [sm ai.av aQ.aC] 0)])) ?_);refine aO (fun(p:Unit)=>⟨[],.empty⟩) (fun p=>mg=some r) ?_ ?_
 ·rintro⟨⟩ h;unfold mg at h;refine sr Z fun K2 b7=>O Z<|ah<|b7 _ ?_;cases h;exact aA rk
 ·intro K3 dZ;refine sr Z fun K4 gB=>O Z<|ah<|gB _ ?_;refine aF<|bq (fun(p:Int)=>gj aQ aN p) (fun p=>⟨[(1,sm J aN),(2,.pp [sm ai.av aQ.aC] 0),(5,J p)],.empty⟩) h (U [1,2,5] Z) ?_
  ·rintro i226 o1 h dM;unfold gj at h;refine az fun K5 ec=>sr Z fun K6 eE=>O Z<|O Z<|E Z (aX J aN Z Z bX)<|aG aL eE 1 [1,2,5,10] Z ?_;refine aT Z h (fun h=> ?_) (fun h=> ?_)
   ·refine aD<|ec _ (Y (U [1,2,5] Z) ?_);refine aO (fun(p:Unit)=>⟨[(1,sm J aN),(2,.pp [sm ai.av aQ.aC] 0),(5,J i226)],.empty⟩) (fun p=>mh i226=some o1) ?_ ?_
    ·rintro⟨⟩ h;unfold mh at h;refine aW Z<|O Z<|E Z (bA Z Z Z Z)<|O Z<|ah ?_;replace h:=bE h;exact⟨_,h,U [1,2,5] Z⟩
    ·intro K7 f_;refine aF<|sr Z fun K8 gd=>O Z<|ah<|gd _ ?_;refine aF<|bq (fun(p:Int)=>iM aQ aN i226 p) (fun p=>⟨[(1,sm J aN),(2,.pp [sm ai.av aQ.aC] 0),(5,J i226),(6,J p)],.empty⟩) h (U [1,2,5,6] Z) ?_
     ·rintro Li o2 h tj;unfold iM at h;refine az fun K9 gU=>aM aL 3 [1,2,5,6,15] Z ?_;refine aT Z h (fun h=> ?_) (fun h=> ?_)
      ·refine aD<|gU _ (Y (U [1,2,5,6] Z) ?_);refine az fun zh eC=>aF<|aO (fun(p:Bool)=>⟨[(1,sm J aN),(2,.pp [sm ai.av aQ.aC] 0),(5,J i226),(6,J Li),(47,bl p)],.empty⟩) (fun p=>iN Li p=some o2) ?_ ?_
       ·rintro am4 h;unfold iN at h;refine aT Z h (fun h=> ?_) (fun h=> ?_)
        ·refine aM aL 1 [4] Z ?_;replace h:=aZ h tj;replace h:=aZ h dM;cases h;exact aA rk
        ·refine aD<|eC _ (Y (U [1,2,5,6] Z) ?_);refine aW Z<|O Z<|E Z (bA Z Z Z Z)<|O Z<|ah ?_;replace h:=bE h;exact⟨_,h,U [1,2,5,6] Z⟩
       ·intro Ae eD;refine b5 (fl 30 [] []) (by kernel_rfl) (by kernel_rfl) Z ?_;refine bt Z<|bt Z<|Sh.bi h fun afO atD air aj4 h=>aJ Z (fun _=>aH J aN air aj4 Z Z Z bX Z)<|aS aL 3 [1,2,5,6,21,22,23] Z ?_;refine Sh.bi h fun afP atE ais aj5 h=>aJ Z (fun _=>aH J aN ais aj5 Z Z Z bX Z)<|aS aL 2 [1,2,5,6,26] Z ?_;refine bt Z ?_;cases abr:(decide (afP<afO))
        ·replace h:=b_ h abr;refine aS aL 20 [1,2,5,6,47] Z ?_;refine bw ?_;exact eD false _ h (U [1,2,5,6,47] Z)
        ·replace h:=cg h abr;refine aS aL 2 [1,2,5,6,27,28,29] Z ?_;refine bt Z<|bt Z<|Sh.bi h fun afQ atF ait aj6 h=>aJ Z (fun _=>aH J aN ait aj6 Z Z Z bX Z)<|bP [1,2,5,6,27,28,29,30,31,32] Z<|bQ (J afQ) Z Z Z sE Z<|Sh.bi h fun afR atG aiu aj7 h=>aJ Z (fun _=>aH ai.av aQ.aC aiu aj7 Z Z Z fJ Z) ?_;refine aS aL 4 [1,2,5,6,27,28,29,30,31,32,33,34,35,36,37,38] Z ?_;refine bt Z<|bt Z<|Sh.bi h fun afS atH aiv aj8 h=>aJ Z (fun _=>aH J aN aiv aj8 Z Z Z bX Z)<|bP [1,2,5,6,27,28,29,30,31,32,33,34,35,36,37,38,39,40,41] Z<|bQ (J afS) Z Z Z sE Z<|Sh.bi h fun afT atI aiw aj9 h=>aJ Z (fun _=>aH ai.av aQ.aC aiw aj9 Z Z Z fJ Z) ?_;refine aS aL 4 [1,2,5,6,47] Z ?_;refine bw ?_;exact eD (decide (afR.bB=afT.bB)) _ h (U [1,2,5,6,47] Z)
      ·refine bp ?_;replace h:=aZ h tj;exact f_ () _ h (U [1,2,5] Z)
   ·refine bp ?_;replace h:=aZ h dM;exact dZ () _ h (U [] Z)


theorem CL{aQ aN r}(h:pR aQ aN=some r):F1 W0 40 [af.av aQ,sm J aN] (bl r):=by
 refine cB Tryz.func40 Tryz.ntmps40 ?_;unfold pR at h;refine sr Z fun K1 eB=>E (r:=.ref 0 0 0) Z (bI 1 [af.av aQ] Z Z Z (.inl ⟨Z,Z⟩))<|O Z<|ah<|eB _ (Y (aU.eo (fr':=[(1,sm J aN),(2,.pp [sm ai.av aQ.aC] 0)])) ?_);refine sr Z fun K2 b7=>bD (af.av aQ) Z Z Z eS Z<|Sh.bd h fun TV Wq h=>E (r:=bl TV) Z (aK Z Z (by simp) (fo Wq))<|aG aL b7 1 [1,2,5] Z ?_;refine sr Z fun K3 dZ=>aB aL 3 [1,2,5,12,14] Z ?_;refine E Z (aX ai.av aQ.aC Z Z fJ)<|Sh.bd h fun r27 apJ h=>E (r:=bl r27) Z (aK Z Z (by simp) (t_ apJ))<|aG aL dZ 1 [1,2,5,6] Z ?_;refine az fun K4 gB=>aO (fun(p:Bool)=>⟨[(1,sm J aN),(2,.pp [sm ai.av aQ.aC] 0),(22,bl p)],.empty⟩) (fun p=>k7 aQ aN p=some r) ?_ ?_
 ·rintro v31 h;unfold k7 at h;refine aT Z h (fun h=> ?_) (fun h=> ?_)
  ·refine aM aL 1 [4] Z ?_;cases h;exact aA rk
  ·refine aD<|gB _ (Y (U [1,2] Z) ?_);refine sr Z fun K6 eE=>bD (af.av aQ) Z Z Z eS Z<|O Z<|Sh.bd h fun Az Lf h=>E (r:=.sl (List.map (z8 an.av) Az)) Z (aK Z Z (by simp) (Du Lf))<|aG aL eE 1 [1,2,7] Z ?_;refine aO (fun(p:Unit)=>⟨[(1,sm J aN),(2,.pp [sm ai.av aQ.aC] 0)],.empty⟩) (fun p=>qp aQ aN=some r) ?_ ?_
   ·rintro⟨⟩ h;unfold qp at h;refine sr Z fun K7 f_=>bD (af.av aQ) Z Z Z eS Z<|O Z<|Sh.bd h fun E_ ad9 h=>E (r:=bl E_) Z (aK Z Z (by simp) (AT ad9))<|aG aL f_ 1 [4] Z ?_;cases h;exact aA rk
   ·intro K8 gd;refine sr Z fun K9 gU=>O Z<|ah<|gU _ ?_;refine aF<|bq (fun(p:Int)=>kZ aQ aN Az p) (fun p=>⟨[(1,sm J aN),(2,.pp [sm ai.av aQ.aC] 0),(7,.sl (List.map (z8 an.av) Az)),(8,J p)],.empty⟩) h (U [1,2,7,8] Z) ?_
    ·rintro t65 o1 h dM;unfold kZ at h;refine az fun vQ dh=>sr Z fun zh eC=>aB aL 3 [1,2,7,8,26,28] Z ?_;refine E Z (aX ai.av aQ.aC Z Z fJ)<|aG aL eC 1 [1,2,7,8,30] Z ?_;refine aT Z h (fun h=> ?_) (fun h=> ?_)
     ·refine aD<|dh _ (Y (U [1,2,7,8] Z) ?_);refine az fun Am eV=>aF<|az fun Ae eD=>b5 (fl 12 [] []) (by kernel_rfl) (by kernel_rfl) Z ?_;refine aS aL 3 [1,2,7,8,34,35] Z ?_;refine Sh.bi h fun x77 k78 aoY apw h=>aJ Z (fun _=>aH ai.av aQ.aC aoY apw Z Z Z fJ Z)<|aS aL 2 [1,2,7,8,38] Z ?_;refine bt Z<|bt Z<|Sh.bi h fun x79 k80 ao0 apy h=>aJ Z (fun _=>aH (z8 an.av) Az ao0 apy Z Z Z QJ Z)<|bP [1,2,7,8,38,41] Z<|bQ (sm an.av x79) Z Z Z Lv Z<|Sh.bd h fun r81 aee h=>aJ (r:=bl r81) Z (fun _=>aK Z Z (by simp) (CN aee)) ?_;refine bt Z<|bw<|eD _ (Y (U [1,2,7,8,9] Z) ?_);refine aM aL 2 [1,2,7,8,45] Z ?_;refine aT Z h (fun h=> ?_) (fun h=> ?_)
      ·refine aM aL 1 [4] Z ?_;replace h:=aZ h dM;cases h;exact aA rk
      ·refine aD<|eV _ (Y (U [1,2,7,8] Z) ?_);refine aW Z<|O Z<|E Z (bA Z Z Z Z)<|O Z<|ah ?_;replace h:=bE h;exact⟨_,h,U [1,2,7,8] Z⟩
     ·refine bp ?_;replace h:=aZ h dM;exact gd () _ h (U [1,2] Z)
 ·intro FY iQ;refine aW Z<|aB aL 3 [1,2,6,19] Z ?_;cases Vq:(!TV)
  ·replace h:=b_ h Vq;refine aB aL 3 [1,2,22] Z ?_;refine ah ?_;exact iQ (!r27) _ h (U [1,2,22] Z)
  ·replace h:=cg h Vq;refine aB aL 3 [1,2,22] Z ?_;refine ah ?_;exact iQ true _ h (U [1,2,22] Z)

end Wk
