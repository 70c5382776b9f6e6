/- That the functions of a package do what their plain functions say. -/
import Derived.Test.YtleihjegenjacaaGreatWkZinquestref18
open Go Go.Av Go.Proofs G Go.Sh Go.Av.Sh
set_option linter.unusedVariables false
set_option maxHeartbeats 8000000
set_option maxRecDepth 20000
namespace Wk
variable {W0:World}
theorem Dx{eM fK r}(h:rz eM fK=some r):F1 W0 43 [sm aj.av eM,sm aj.av fK] (bl r):=by
 refine cB Tryz.func43 Tryz.ntmps43 ?_;unfold rz at h;refine aM aL 1 [0,1] Z ?_;refine az fun K2 b7=>sr Z fun K3 dZ=>O Z<|E Z (aX aj.av eM Z Z vW)<|aB aL 1 [0,1,8,9] Z ?_;refine E Z (aX aj.av fK Z Z vW)<|aG aL dZ 1 [0,1,11] Z ?_;refine aT Z h (fun h=> ?_) (fun h=> ?_)
 ·refine aM aL 1 [4] Z ?_;cases h;exact aA rk
 ·refine aD<|b7 _ (Y (U [0,1] Z) ?_);refine aO (fun(p:Unit)=>⟨[],.empty⟩) (fun p=>rA=some r) ?_ ?_
  ·rintro⟨⟩ h;unfold rA at h;refine sr Z fun K5 ec=>O Z<|ah<|ec _ ?_;cases h;exact aA rk
  ·intro K6 eE;refine sr Z fun K7 f_=>O Z<|ah<|f_ _ ?_;refine aF<|bq (fun(p:Int)=>mW eM fK p) (fun p=>⟨[(0,sm aj.av eM),(1,sm aj.av fK),(5,J p)],.empty⟩) h (U [0,1,5] Z) ?_
   ·rintro pe o1 h dM;unfold mW at h;refine az fun K8 gd=>sr Z fun K9 gU=>O Z<|O Z<|E Z (aX aj.av eM Z Z vW)<|aG aL gU 1 [0,1,5,15] Z ?_;refine aT Z h (fun h=> ?_) (fun h=> ?_)
    ·refine aD<|gd _ (Y (U [0,1,5] Z) ?_);refine aO (fun(p:Unit)=>⟨[(0,sm aj.av eM),(1,sm aj.av fK),(5,J pe)],.empty⟩) (fun p=>mY pe=some o1) ?_ ?_
     ·rintro⟨⟩ h;unfold mY at h;refine aW Z<|O Z<|E Z (bA Z Z Z Z)<|O Z<|ah ?_;replace h:=bE h;exact⟨_,h,U [0,1,5] Z⟩
     ·intro vQ dh;refine aF<|az fun zh eC=>aO (fun(p:Bool)=>⟨[(0,sm aj.av eM),(1,sm aj.av fK),(5,J pe),(43,bl p)],.empty⟩) (fun p=>mZ eM fK pe p=some o1) ?_ ?_
      ·rintro Ya h;unfold mZ at h;refine aT Z h (fun h=> ?_) (fun h=> ?_)
       ·refine aM aL 1 [4] Z ?_;replace h:=aZ h dM;cases h;exact aA rk
       ·refine aD<|eC _ (Y (U [0,1,5] Z) ?_);refine sr Z fun Ae eD=>O Z<|ah<|eD _ ?_;refine aF<|bq (fun(p:Int)=>mX eM fK pe p) (fun p=>⟨[(0,sm aj.av eM),(1,sm aj.av fK),(5,J pe),(6,J p)],.empty⟩) h (U [0,1,5,6] Z) ?_
        ·rintro JL o2 h tj;unfold mX at h;refine az fun BH e9=>sr Z fun Fh h_=>aB aL 3 [0,1,5,6,44,45,46] Z ?_;refine Sh.bi h fun RU aqF VF V6 h=>E Z (aH aj.av eM VF V6 Z Z Z vW Z)<|aB aL 2 [0,1,5,6,44,49] Z ?_;refine E Z (aX J RU.L Z Z bX)<|aG aL h_ 1 [0,1,5,6,51] Z ?_;refine aT Z h (fun h=> ?_) (fun h=> ?_)
         ·refine aD<|e9 _ (Y (U [0,1,5,6] Z) ?_);refine az fun FY iQ=>aF<|az fun G9 ic=>b5 (fl 17 [] []) (by kernel_rfl) (by kernel_rfl) Z ?_;refine bt Z<|bt Z<|Sh.bi h fun RV aqH VG V7 h=>aJ Z (fun _=>aH aj.av eM VG V7 Z Z Z vW Z)<|aS aL 3 [0,1,5,6,58,59] Z ?_;refine Sh.bi h fun Ql amb OP OT h=>aJ Z (fun _=>aH J RV.L OP OT Z Z Z bX Z)<|aS aL 2 [0,1,5,6,61,62] Z ?_;refine bt Z<|Sh.bi h fun NW aqJ VH V8 h=>aJ Z (fun _=>aH aj.av fK VH V8 Z Z Z vW Z)<|aS aL 1 [0,1,5,6,61,65] Z ?_;refine bQ (sm J NW.L) Z Z Z jN Z<|bt Z<|Sh.bi h fun Yt IC VI V9 h=>aJ Z (fun _=>aH J NW.L VI V9 Z Z Z bX Z)<|aS aL 2 [0,1,5,6,70] Z ?_;refine bw<|ic _ (Y (U [0,1,5,6,70] Z) ?_);refine aT Z h (fun h=> ?_) (fun h=> ?_)
          ·refine aM aL 1 [4] Z ?_;replace h:=aZ h tj;replace h:=aZ h dM;cases h;exact aA rk
          ·refine aD<|iQ _ (Y (U [0,1,5,6] Z) ?_);refine aW Z<|O Z<|E Z (bA Z Z Z Z)<|O Z<|ah ?_;replace h:=bE h;exact⟨_,h,U [0,1,5,6] Z⟩
         ·refine bp ?_;replace h:=aZ h tj;exact dh () _ h (U [0,1,5] Z)
      ·intro IT gV;refine b5 (fl 26 [] []) (by kernel_rfl) (by kernel_rfl) Z ?_;refine bt Z<|bt Z<|Sh.bi h fun LB aqK VJ V_ h=>aJ Z (fun _=>aH aj.av eM VJ V_ Z Z Z vW Z)<|aS aL 3 [0,1,5,22,23] Z ?_;refine bt Z<|Sh.bi h fun LC aqL VK Wa h=>aJ Z (fun _=>aH aj.av fK VK Wa Z Z Z vW Z)<|aS aL 4 [0,1,5,29] Z ?_;cases OM:(decide (LB.Key≠LC.Key))
       ·replace h:=b_ h OM;refine bt Z<|bt Z<|Sh.bi h fun KJ aqM VL Wb h=>aJ Z (fun _=>aH aj.av eM VL Wb Z Z Z vW Z)<|bP [0,1,5,29,30,31,32] Z<|qz Z MX<|bQ (sm J KJ.L) Z Z Z jN Z<|aJ Z (fun _=>aX J KJ.L Z Z bX) ?_;refine bP [0,1,5,29,30,31,32,33,34,35] Z<|bt Z<|bt Z<|Sh.bi h fun KK aqO VN Wc h=>aJ Z (fun _=>aH aj.av fK VN Wc Z Z Z vW Z)<|bP [0,1,5,29,30,31,32,33,34,35,36,37,38] Z<|qz Z MX<|bQ (sm J KK.L) Z Z Z jN Z ?_;refine aJ Z (fun _=>aX J KK.L Z Z bX)<|aS aL 2 [0,1,5,43] Z ?_;refine bw ?_;exact gV (decide ((Sh.len KJ.L)≠(Sh.len KK.L))) _ h (U [0,1,5,43] Z)
       ·replace h:=cg h OM;refine aS aL 14 [0,1,5,43] Z ?_;refine bw ?_;exact gV true _ h (U [0,1,5,43] Z)
    ·refine bp ?_;replace h:=aZ h dM;exact eE () _ h (U [] Z)


theorem tJ{cK wj r}(h:i_ cK wj=some r):F1 W0 113 [sm J cK,J wj] (J r):=by
 refine cB Tryz.func113 Tryz.ntmps113 ?_;unfold i_ at h;refine aM aL 1 [0,1] Z ?_;refine aO (fun(p:Unit)=>⟨[],.empty⟩) (fun p=>qt=some r) ?_ ?_
 ·rintro⟨⟩ h;unfold qt at h;refine sr Z fun K2 b7=>O Z<|ah<|b7 _ ?_;cases h;exact aA rk
 ·intro K3 dZ;refine sr Z fun K4 gB=>O Z<|ah<|gB _ ?_;refine aF<|bq (fun(p:Int)=>lz cK wj p) (fun p=>⟨[(0,sm J cK),(1,J wj),(5,J p)],.empty⟩) h (U [0,1,5] Z) ?_
  ·rintro i22 o1 h dM;unfold lz at h;refine az fun K5 ec=>sr Z fun K6 eE=>O Z<|O Z<|E Z (aX J cK Z Z bX)<|aG aL eE 1 [0,1,5,9] Z ?_;refine aT Z h (fun h=> ?_) (fun h=> ?_)
   ·refine aD<|ec _ (Y (U [0,1,5] Z) ?_);refine az fun K7 f_=>aF<|sr Z fun K8 gd=>O Z<|O Z<|Sh.bi h fun HS k29 Hq Hu h=>E Z (aH J cK Hq Hu Z Z Z bX Z) ?_;refine aG aL gd 3 [0,1,5,17] Z ?_;refine aT Z h (fun h=> ?_) (fun h=> ?_)
    ·refine aM aL 2 [4] Z ?_;replace h:=aZ h dM;cases h;exact aA rk
    ·refine aD<|f_ _ (Y (U [0,1,5] Z) ?_);refine aW Z<|O Z<|E Z (bA Z Z Z Z)<|O Z<|ah ?_;replace h:=bE h;exact⟨_,h,U [0,1,5] Z⟩
   ·refine bp ?_;replace h:=aZ h dM;exact dZ () _ h (U [] Z)


theorem w9{aQ di r}(h:lS aQ di=some r):F1 W0 80 [af.av aQ,sm aj.av di] (bl r):=by
 refine cB Tryz.func80 Tryz.ntmps80 ?_;unfold lS at h;refine sr Z fun K1 eB=>E (r:=.ref 0 0 0) Z (bI 1 [af.av aQ] Z Z Z (.inl ⟨Z,Z⟩))<|O Z<|ah<|eB _ (Y (aU.eo (fr':=[(1,sm aj.av di),(2,.pp [sm ai.av aQ.aC] 0)])) ?_);refine sr Z fun K2 b7=>bD (af.av aQ) Z Z Z eS Z<|Sh.bd h fun r92 ap1 h=>E (r:=bl r92) Z (aK Z Z (by simp) (fo ap1))<|aG aL b7 1 [1,2,5] Z ?_;refine sr Z fun K3 dZ=>bD (af.av aQ) Z Z Z eS Z<|Sh.bd h fun Lo ap3 h=>E (r:=sm J Lo) Z (aK Z Z (by simp) (xZ ap3))<|aG aL dZ 1 [1,2,5,6] Z ?_;refine az fun K4 gB=>aO (fun(p:Bool)=>⟨[(1,sm aj.av di),(2,.pp [sm ai.av aQ.aC] 0),(6,sm J Lo),(23,bl p)],.empty⟩) (fun p=>lp aQ di Lo p=some r) ?_ ?_
 ·rintro v98 h;unfold lp at h;refine aT Z h (fun h=> ?_) (fun h=> ?_)
  ·refine aM aL 1 [4] Z ?_;cases h;exact aA rk
  ·refine aD<|gB _ (Y (U [1,2,6] Z) ?_);refine aO (fun(p:Unit)=>⟨[],.empty⟩) (fun p=>qs=some r) ?_ ?_
   ·rintro⟨⟩ h;unfold qs at h;refine sr Z fun K6 eE=>O Z<|ah<|eE _ ?_;cases h;exact aA rk
   ·intro K7 f_;refine sr Z fun K8 gd=>O Z<|ah<|gd _ ?_;refine aF<|bq (fun(p:Int)=>k_ aQ di Lo p) (fun p=>⟨[(1,sm aj.av di),(2,.pp [sm ai.av aQ.aC] 0),(6,sm J Lo),(7,J p)],.empty⟩) h (U [1,2,6,7] Z) ?_
    ·rintro i243 o1 h dM;unfold k_ at h;refine az fun K9 gU=>sr Z fun vQ dh=>O Z<|O Z<|E Z (aX aj.av di Z Z vW)<|aG aL dh 1 [1,2,6,7,27] Z ?_;refine aT Z h (fun h=> ?_) (fun h=> ?_)
     ·refine aD<|gU _ (Y (U [1,2,6,7] Z) ?_);refine aO (fun(p:Unit)=>⟨[(1,sm aj.av di),(2,.pp [sm ai.av aQ.aC] 0),(6,sm J Lo),(7,J i243)],.empty⟩) (fun p=>lq i243=some o1) ?_ ?_
      ·rintro⟨⟩ h;unfold lq at h;refine aW Z<|O Z<|E Z (bA Z Z Z Z)<|O Z<|ah ?_;replace h:=bE h;exact⟨_,h,U [1,2,6,7] Z⟩
      ·intro zh eC;refine aF<|az fun Am eV=>b5 (fl 7 [] []) (by kernel_rfl) (by kernel_rfl) Z ?_;refine bQ (af.av aQ) Z Z Z eS Z<|aS aL 2 [1,2,6,7,30,31,32] Z ?_;refine Sh.bi h fun afJ att aih ajU h=>aJ Z (fun _=>aH J Lo aih ajU Z Z Z bX Z)<|bQ (J afJ) Z Z Z sE Z<|Sh.bd h fun CY ali h=>aJ (r:=sm J CY) Z (fun _=>aK Z Z (by simp) (su ali))<|bP [1,2,6,7,35] Z<|bt Z<|bw ?_;refine eV _ (Y (U [1,2,6,7,8] Z) ?_);refine az fun Ae eD=>aO (fun(p:Bool)=>⟨[(1,sm aj.av di),(2,.pp [sm ai.av aQ.aC] 0),(6,sm J Lo),(7,J i243),(8,sm J CY),(56,bl p)],.empty⟩) (fun p=>lu di i243 CY p=some o1) ?_ ?_
       ·rintro am2 h;unfold lu at h;refine aT Z h (fun h=> ?_) (fun h=> ?_)
        ·refine aM aL 1 [4] Z ?_;replace h:=aZ h dM;cases h;exact aA rk
        ·refine aD<|eD _ (Y (U [1,2,6,7,8] Z) ?_);refine sr Z fun Fh h_=>O Z<|ah<|h_ _ ?_;refine aF<|bq (fun(p:Int)=>lg di i243 CY p) (fun p=>⟨[(1,sm aj.av di),(2,.pp [sm ai.av aQ.aC] 0),(6,sm J Lo),(7,J i243),(8,sm J CY),(9,J p)],.empty⟩) h (U [1,2,6,7,8,9] Z) ?_
         ·rintro ZG o2 h tj;unfold lg at h;refine az fun FY iQ=>sr Z fun G9 ic=>O Z<|O Z<|E Z (aX J CY Z Z bX)<|aG aL ic 1 [1,2,6,7,8,9,60] Z ?_;refine aT Z h (fun h=> ?_) (fun h=> ?_)
          ·refine aD<|iQ _ (Y (U [1,2,6,7,8,9] Z) ?_);refine az fun IS iZ=>aF<|az fun IT gV=>b5 (fl 11 [] []) (by kernel_rfl) (by kernel_rfl) Z ?_;refine bt Z<|bt Z<|Sh.bi h fun anp aty aim ajZ h=>aJ Z (fun _=>aH aj.av di aim ajZ Z Z Z vW Z)<|aS aL 3 [1,2,6,7,8,9,67,68] Z ?_;refine bt Z<|Sh.bi h fun anq atz ain aj0 h=>aJ Z (fun _=>aH J CY ain aj0 Z Z Z bX Z)<|aS aL 1 [1,2,6,7,8,9,67,71] Z ?_;refine Sh.bd h fun ae2 alj h=>aJ (r:=J ae2) Z (fun _=>aK Z Z (by simp) (tJ alj))<|bt Z<|bw<|gV _ (Y (U [1,2,6,7,8,9,10] Z) ?_);refine aM aL 2 [1,2,6,7,8,9,74] Z ?_;refine aT Z h (fun h=> ?_) (fun h=> ?_)
           ·refine aM aL 1 [4] Z ?_;replace h:=aZ h tj;replace h:=aZ h dM;cases h;exact aA rk
           ·refine aD<|iZ _ (Y (U [1,2,6,7,8,9] Z) ?_);refine aW Z<|O Z<|E Z (bA Z Z Z Z)<|O Z<|ah ?_;replace h:=bE h;exact⟨_,h,U [1,2,6,7,8,9] Z⟩
          ·refine bp ?_;replace h:=aZ h tj;exact eC () _ h (U [1,2,6,7] Z)
       ·intro S4 uv;refine b5 (fl 21 [] []) (by kernel_rfl) (by kernel_rfl) Z ?_;refine bt Z<|bt Z<|Sh.bi h fun aau atA aio aj1 h=>aJ Z (fun _=>aH aj.av di aio aj1 Z Z Z vW Z)<|aS aL 3 [1,2,6,7,8,40,41] Z ?_;refine bt Z<|Sh.bi h fun aav atB aip aj2 h=>aJ Z (fun _=>aH J Lo aip aj2 Z Z Z bX Z)<|aS aL 1 [1,2,6,7,8,40,44] Z ?_;refine aJ (r:=bl (decide (aau.Key≠aav))) Z (fun _=>IU Z Z Z)<|bt Z ?_;cases abp:(decide (aau.Key≠aav))
        ·replace h:=b_ h abp;refine aS aL 1 [1,2,6,7,8,46,47] Z ?_;refine bt Z<|Sh.bi h fun Yr atC aiq aj3 h=>aJ Z (fun _=>aH aj.av di aiq aj3 Z Z Z vW Z)<|aS aL 1 [1,2,6,7,8,46,47,48,49,50] Z ?_;refine bQ (sm J Yr.L) Z Z Z jN Z<|aJ Z (fun _=>aX J Yr.L Z Z bX)<|aS aL 1 [1,2,6,7,8,46,47,48,49,50,51,52,53] Z ?_;refine aJ Z (fun _=>aX J CY Z Z bX)<|aS aL 2 [1,2,6,7,8,56] Z ?_;refine bw ?_;exact uv (decide ((Sh.len Yr.L)≠(Sh.len CY))) _ h (U [1,2,6,7,8,56] Z)
        ·replace h:=cg h abp;refine aS aL 10 [1,2,6,7,8,56] Z ?_;refine bw ?_;exact uv true _ h (U [1,2,6,7,8,56] Z)
     ·refine bp ?_;replace h:=aZ h dM;exact f_ () _ h (U [] Z)
 ·intro Yw Ag;refine aW Z<|aB aL 3 [1,2,6,17] Z ?_;cases abq:(!r92)
  ·replace h:=b_ h abq;refine O Z<|E Z (aX aj.av di Z Z vW)<|aB aL 1 [1,2,6,17,19,20] Z ?_;refine E Z (aX J Lo Z Z bX)<|aB aL 2 [1,2,6,23] Z ?_;refine ah ?_;exact Ag (decide ((Sh.len di)≠(Sh.len Lo))) _ h (U [1,2,6,23] Z)
  ·replace h:=cg h abq;refine aB aL 6 [1,2,6,23] Z ?_;refine ah ?_;exact Ag true _ h (U [1,2,6,23] Z)


theorem AU{aQ di r}(h:jv aQ di=some r):F2 W0 82 [af.av aQ,sm aj.av di] (.view 0 0 (List.map aa.av r).length) ⟨1,[(0,(3,List.map aa.av r))],[]⟩:=by
 refine kn Tryz.func82 Tryz.ntmps82 ?_;unfold jv at h;refine sr Z fun K1 eB=>E (r:=.ref 0 0 0) Z (bI 1 [af.av aQ] Z Z Z (.inl ⟨Z,Z⟩))<|O Z<|ah<|eB _ (Y (aU.eo (fr':=[(1,sm aj.av di),(2,.pp [sm ai.av aQ.aC] 0)])) ?_);refine sr Z fun K2 b7=>bD (af.av aQ) Z Z Z eS Z<|O Z<|Sh.bd h fun vL Sl h=>E (r:=bl vL) Z (aK Z Z (by simp) (w9 Sl))<|aG aL b7 1 [1,2,5] Z ?_;refine az fun K3 dZ=>aM aL 2 [1,2,15] Z ?_;refine aT Z h (fun h=> ?_) (fun h=> ?_)
 ·refine aM aL 1 [4] Z ?_;refine aA ?_;obtain rfl:=D h;exact⟨.inr Z,aV,Z,aU.ra [] [0]⟩
 ·refine aD<|dZ _ (Y (U [1,2] Z) ?_);refine sr Z fun K6 eE=>O Z<|ah<|eE _ ?_;refine sr Z fun K7 f_=>bD (af.av aQ) Z Z Z eS Z<|Sh.bd h fun wW alf h=>E (r:=sm aa.av wW) Z (aK Z Z (by simp) (CE alf))<|aG aL f_ 1 [1,6,7] Z ?_;refine aO (fun(p:(List aa))=>⟨[(6,.view 0 0 (List.map aa.av p).length)],⟨1,[(0,(3,List.map aa.av p))],[]⟩⟩) (fun p=>nP p=some r) ?_ ?_
  ·rintro Rk h;unfold nP at h;refine aM aL 2 [4] Z ?_;refine aA ?_;obtain rfl:=D h;exact⟨.inr Z,.view 0 0 (List.map aa.av Rk).length,Z,aU.ra [(0,0)] []⟩
  ·intro K9 gU;refine sr Z fun vQ dh=>O Z<|ah<|dh _ ?_;refine aF<|bq (fun(p:(List aa)×Int)=>jw di wW p.1 p.2) (fun p=>⟨[(1,sm aj.av di),(6,.view 0 0 (List.map aa.av p.1).length),(7,sm aa.av wW),(8,J p.2)],⟨1,[(0,(3,List.map aa.av p.1))],[]⟩⟩) h (aU.ra [] [0]) ?_
   ·rintro⟨s6,yy⟩ o1 h dM;unfold jw at h;refine az fun zh eC=>sr Z fun Am eV=>O Z<|O Z<|E Z (aX aa.av wW Z Z vJ)<|aG aL eV 1 [1,6,7,8,21] Z ?_;refine aT Z h (fun h=> ?_) (fun h=> ?_)
    ·refine aD<|eC _ (Y (U [1,6,7,8] Z) ?_);refine aO (fun(p:(List aa))=>⟨[(1,sm aj.av di),(7,sm aa.av wW),(8,J yy),(6,.view 0 0 (List.map aa.av p).length)],⟨1,[(0,(3,List.map aa.av p))],[]⟩⟩) (fun p=>nQ yy p=some o1) ?_ ?_
     ·rintro W6 h;unfold nQ at h;refine aW Z<|O Z<|E Z (bA Z Z Z Z)<|O Z<|ah ?_;replace h:=bE h;exact⟨_,h,U [1,6,7,8] Z⟩
     ·intro Ae eD;refine aF<|sr Z fun BH e9=>O Z<|O Z<|Sh.bi h fun aay at6 aiU akv h=>E Z (aH aa.av wW aiU akv Z Z Z vJ Z)<|V [1,6,7,8,26] Z ?_;refine bD (aa.av aay) Z Z Z xB Z<|E (r:=.ref 1 0 0) Z (bF 3 [.agg [J 0,J 0,J 0]] Z agb (by kernel_rfl) (.inl ⟨Z,Z⟩))<|E Z (a_ (e':=aa.av aay) Z Z Z Z Z Z xB Z dt Z)<|mu e9 [1,6,7,8,9] Z ?_;refine aO (fun(p:aa)=>⟨[(1,sm aj.av di),(6,.view 0 0 (List.map aa.av s6).length),(7,sm aa.av wW),(8,J yy),(9,.ref 1 0 0)],⟨2,[(0,(3,List.map aa.av s6)),(1,(3,[aa.av p]))],[]⟩⟩) (fun p=>jy s6 yy p=some o1) ?_ ?_
      ·rintro Yc h;unfold jy at h;refine aW Z<|O Z<|E (r:=aa.av Yc) Z (aR Z Z Z Z xB Z)<|E (r:=.clip (List.map aa.av ([Yc]:List aa))) Z (bu Z (xo:=[.tmp 73]) Z Z Z (by simp) (by simp) vJ Yv (by decide))<|V [1,7,8,72,74] Z<|Sh.bd h fun J5 Zq h=>E (r:=.view 2 0 (List.map aa.av J5).length) Z (bV aa.av s6 ([Yc]:List aa) J5 Zq Z Tf (fun _=>Z) Z Z Z Z Z Z Z)<|O Z ?_;refine ah ?_;exact eD J5 _ h (aU.ra [(0,2)] [])
      ·intro Fh h_;refine sr Z fun FY iQ=>O Z<|ah<|iQ _ ?_;refine aF<|bq (fun(p:aa×Int)=>jx di wW s6 yy p.1 p.2) (fun p=>⟨[(1,sm aj.av di),(6,.view 0 0 (List.map aa.av s6).length),(7,sm aa.av wW),(8,J yy),(9,.ref 1 0 0),(10,J p.2)],⟨2,[(0,(3,List.map aa.av s6)),(1,(3,[aa.av p.1]))],[]⟩⟩) h (U [1,6,7,8,9,10] Z) ?_
       ·rintro⟨Hi,EP⟩ o2 h tj;unfold jx at h;refine az fun G9 ic=>sr Z fun IS iZ=>O Z<|O Z<|E Z (aX aj.av di Z Z vW)<|aG aL iZ 1 [1,6,7,8,9,10,31] Z ?_;refine aT Z h (fun h=> ?_) (fun h=> ?_)
        ·refine aD<|ic _ (Y (U [1,6,7,8,9,10] Z) ?_);refine aO (fun(p:aa)=>⟨[(1,sm aj.av di),(6,.view 0 0 (List.map aa.av s6).length),(7,sm aa.av wW),(8,J yy),(9,.ref 1 0 0),(10,J EP)],⟨2,[(0,(3,List.map aa.av s6)),(1,(3,[aa.av p]))],[]⟩⟩) (fun p=>jA EP p=some o2) ?_ ?_
         ·rintro agO h;unfold jA at h;refine aW Z<|O Z<|E Z (bA Z Z Z Z)<|O Z<|ah ?_;replace h:=bE h;exact⟨_,h,U [1,6,7,8,9,10] Z⟩
         ·intro IT gV;refine aF<|aO (fun(p:Bool)=>⟨[(1,sm aj.av di),(6,.view 0 0 (List.map aa.av s6).length),(7,sm aa.av wW),(8,J yy),(9,.ref 1 0 0),(10,J EP),(66,bl p)],⟨2,[(0,(3,List.map aa.av s6)),(1,(3,[aa.av Hi]))],[]⟩⟩) (fun p=>jB wW yy Hi EP p=some o2) ?_ ?_
          ·rintro am_ h;unfold jB at h;refine aT Z h (fun h=> ?_) (fun h=> ?_)
           ·refine aW Z<|O Z<|O Z<|Sh.bi h fun af5 auj ai7 akH h=>E Z (aH aa.av wW ai7 akH Z Z Z vJ Z)<|V [1,6,7,8,9,10,69] Z<|bD (aa.av af5) Z Z Z xB Z<|Sh.bd h fun XD aly h=> ?_;refine E (r:=aa.av XD) Z (aK Z Z (by simp) (x6 aly))<|E Z (a_ (e':=aa.av XD) Z Z Z Z Z Z xB Z dt Z)<|ah ?_;exact gV XD _ h (U [1,6,7,8,9,10] Z)
           ·exact aD<|gV Hi _ h (U [1,6,7,8,9,10] Z)
          ·intro N5 tT;refine b5 (fl 33 [5,6] []) (by kernel_rfl) (by kernel_rfl) Z ?_;refine bt Z<|bt Z<|Sh.bi h fun aaA auk ai8 akI h=>aJ Z (fun _=>aH aj.av di ai8 akI Z Z Z vW Z)<|bP [1,6,7,8,9,10,36] Z<|qz Z ade<|bQ (J aaA.Key) Z Z Z sE Z<|bK Z Z (bG Z Z Z Jy (by decide)) ?_;refine bP [1,6,7,8,9,10,38,39] Z<|bK (r:=J Hi.Key) Z Z (aR Z Z Z Z sE Z)<|aS aL 2 [1,6,7,8,9,10,42] Z ?_;cases abw:(decide (aaA.Key=Hi.Key))
           ·replace h:=b_ h abw;refine aS aL 24 [1,6,7,8,9,10,66] Z ?_;refine bw ?_;exact tT false _ h (U [1,6,7,8,9,10,66] Z)
           ·replace h:=cg h abw;refine bt Z<|bt Z<|Sh.bi h fun anD aul ai9 akJ h=>aJ Z (fun _=>aH aj.av di ai9 akJ Z Z Z vW Z)<|aS aL 3 [1,6,7,8,9,10,42,43,44,45,46,47,48] Z ?_;refine bt Z<|Sh.bi h fun af6 aum ai_ akK h=>aJ Z (fun _=>aH aa.av wW ai_ akK Z Z Z vJ Z)<|aS aL 1 [1,6,7,8,9,10,42,43,44,45,46,47,48,49,50,51] Z ?_;refine bQ (J af6.A) Z Z Z sE Z<|Sh.bd h fun Z9 alz h=>aJ (r:=J Z9) Z (fun _=>aK Z Z (by simp) (tJ alz))<|aS aL 1 [1,6,7,8,9,10,42,43,44,45,46,47,48,49,50,51,52,53,54] Z ?_;refine bt Z<|Sh.bi h fun anE aun aja akL h=>aJ Z (fun _=>aH aj.av di aja akL Z Z Z vW Z)<|aS aL 4 [1,6,7,8,9,10,42,43,44,45,46,47,48,49,50,51,52,53,54,55,56,57,58,59,60] Z ?_;refine Sh.bi h fun anF auo ajb akM h=>aJ Z (fun _=>aH aa.av wW ajb akM Z Z Z vJ Z)<|aS aL 2 [1,6,7,8,9,10,42,43,44,45,46,47,48,49,50,51,52,53,54,55,56,57,58,59,60,61,62,63] Z ?_;refine Sh.bd h fun Z_ alA h=>aJ (r:=J Z_) Z (fun _=>aK Z Z (by simp) (tJ alA))<|aS aL 2 [1,6,7,8,9,10,66] Z ?_;refine bw ?_;exact tT (decide (Z_<Z9)) _ h (U [1,6,7,8,9,10,66] Z)
        ·refine bp ?_;replace h:=aZ h tj;exact h_ Hi _ h (U [1,6,7,8,9] Z)
    ·refine bp ?_;replace h:=aZ h dM;exact gU s6 _ h (U [6] Z)
theorem Bc{aQ di r}(h:jv aQ di=some r):F1 W0 82 [af.av aQ,sm aj.av di] (sm aa.av r):=
 (AU h).wR (aU.ra [] []) (by simp)


theorem CO{aQ di r}(h:pT aQ di=some r):F1 W0 41 [af.av aQ,sm aj.av di] (bl r):=by
 refine cB Tryz.func41 Tryz.ntmps41 ?_;unfold pT at h;refine sr Z fun K1 eB=>E (r:=.ref 0 0 0) Z (bI 1 [af.av aQ] Z Z Z (.inl ⟨Z,Z⟩))<|O Z<|ah<|eB _ (Y (aU.eo (fr':=[(1,sm aj.av di),(2,.pp [sm ai.av aQ.aC] 0)])) ?_);refine sr Z fun K2 b7=>bD (af.av aQ) Z Z Z eS Z<|O Z<|Sh.bd h fun r5 Zy h=>E (r:=bl r5) Z (aK Z Z (by simp) (w9 Zy))<|aG aL b7 1 [1,2,5] Z ?_;refine az fun K3 dZ=>aM aL 2 [1,2,11] Z ?_;refine aT Z h (fun h=> ?_) (fun h=> ?_)
 ·refine aM aL 1 [4] Z ?_;cases h;exact aA rk
 ·refine aD<|dZ _ (Y (U [1,2] Z) ?_);refine az fun K6 eE=>b5 (fl 6 [] []) (by kernel_rfl) (by kernel_rfl) Z ?_;refine bQ (af.av aQ) Z Z Z eS Z<|bQ (af.av aQ) Z Z Z eS Z<|aS aL 1 [12,13,14] Z ?_;refine Sh.bd h fun r9 Tt h=>aJ (r:=sm aa.av r9) Z (fun _=>aK Z Z (by simp) (Bc Tt))<|Sh.bd h fun Qp Wj h=>aJ (r:=bl Qp) Z (fun _=>aK Z Z (by simp) (Dt Wj))<|bt Z<|bw<|eE _ (Y (U [6] Z) ?_);refine aM aL 2 [4] Z ?_;cases h;exact aA rk


theorem CP{aQ aN r}(h:nR aQ aN=some r):F2 W0 45 [af.av aQ,sm J aN] (.view 0 0 (List.map aj.av r).length) ⟨1,[(0,(2,List.map aj.av r))],[]⟩:=by
 refine kn Tryz.func45 Tryz.ntmps45 ?_;unfold nR at h;refine sr Z fun K1 eB=>E (r:=.ref 0 0 0) Z (bI 1 [af.av aQ] Z Z Z (.inl ⟨Z,Z⟩))<|O Z<|ah<|eB _ (Y (aU.eo (fr':=[(1,sm J aN),(2,.pp [sm ai.av aQ.aC] 0)])) ?_);refine sr Z fun K2 b7=>bD (af.av aQ) Z Z Z eS Z<|Sh.bd h fun Kg Sk h=>E (r:=bl Kg) Z (aK Z Z (by simp) (fo Sk))<|aG aL b7 1 [1,2,5] Z ?_;refine sr Z fun K3 dZ=>aB aL 3 [1,2,5,15,17] Z ?_;refine E Z (aX ai.av aQ.aC Z Z fJ)<|Sh.bd h fun uA Wn h=>E (r:=bl uA) Z (aK Z Z (by simp) (t_ Wn))<|aG aL dZ 1 [1,2,5,6] Z ?_;refine az fun K4 gB=>aO (fun(p:Bool)=>⟨[(1,sm J aN),(2,.pp [sm ai.av aQ.aC] 0),(25,bl p)],.empty⟩) (fun p=>mT aQ aN p=some r) ?_ ?_
 ·rintro amX h;unfold mT at h;refine aT Z h (fun h=> ?_) (fun h=> ?_)
  ·refine aM aL 1 [4] Z ?_;refine aA ?_;obtain rfl:=D h;exact⟨.inr Z,aV,Z,aU.ra [] [0]⟩
  ·refine aD<|gB _ (Y (U [1,2] Z) ?_);refine sr Z fun K6 eE=>bD (af.av aQ) Z Z Z eS Z<|Sh.bd h fun B7 ak7 h=>E (r:=sm J B7) Z (aK Z Z (by simp) (xZ ak7))<|aG aL eE 1 [1,2,7] Z ?_;refine sr Z fun K7 f_=>O Z<|ah<|f_ _ ?_;refine aO (fun(p:(List aj))=>⟨[(8,.view 0 0 (List.map aj.av p).length)],⟨1,[(0,(2,List.map aj.av p))],[]⟩⟩) (fun p=>rq p=some r) ?_ ?_
   ·rintro Rh h;unfold rq at h;refine aM aL 2 [4] Z ?_;refine aA ?_;obtain rfl:=D h;exact⟨.inr Z,.view 0 0 (List.map aj.av Rh).length,Z,aU.ra [(0,0)] []⟩
   ·intro K9 gU;refine sr Z fun vQ dh=>O Z<|ah<|dh _ ?_;refine aF<|bq (fun(p:(List aj)×Int)=>mQ aQ aN B7 p.1 p.2) (fun p=>⟨[(1,sm J aN),(2,.pp [sm ai.av aQ.aC] 0),(7,sm J B7),(8,.view 0 0 (List.map aj.av p.1).length),(9,J p.2)],⟨1,[(0,(2,List.map aj.av p.1))],[]⟩⟩) h (aU.ra [] [0]) ?_
    ·rintro⟨uc,CB⟩ o1 h dM;unfold mQ at h;refine az fun zh eC=>sr Z fun Am eV=>O Z<|O Z<|E Z (aX J B7 Z Z bX)<|aG aL eV 1 [1,2,7,8,9,31] Z ?_;refine aT Z h (fun h=> ?_) (fun h=> ?_)
     ·refine aD<|eC _ (Y (U [1,2,7,8,9] Z) ?_);refine aO (fun(p:(List aj))=>⟨[(1,sm J aN),(2,.pp [sm ai.av aQ.aC] 0),(7,sm J B7),(9,J CB),(8,.view 0 0 (List.map aj.av p).length)],⟨1,[(0,(2,List.map aj.av p))],[]⟩⟩) (fun p=>ru CB p=some o1) ?_ ?_
      ·rintro W4 h;unfold ru at h;refine aW Z<|O Z<|E Z (bA Z Z Z Z)<|O Z<|ah ?_;replace h:=bE h;exact⟨_,h,U [1,2,7,8,9] Z⟩
      ·intro Ae eD;refine aF<|sr Z fun BH e9=>O Z<|O Z<|Sh.bi h fun IQ atL aiB akb h=>E Z (aH J B7 aiB akb Z Z Z bX Z)<|V [1,2,7,8,9,36] Z ?_;refine bD (J IQ) Z Z Z sE Z<|E (r:=.agg [J IQ,aV]) Z (cm Z ac3 Z Z Z)<|E (r:=.ref 1 0 0) Z (bF 2 [.agg [J 0,aV]] Z arG (by kernel_rfl) (.inl ⟨Z,Z⟩))<|V [1,2,7,8,9,38,10] Z<|E Z (a_ (e':=.agg [J IQ,aV]) Z Z Z Z Z Z amR Z dt Z)<|mu e9 [1,2,7,8,9,10] Z ?_;refine aO (fun(p:aj)=>⟨[(1,sm J aN),(2,.pp [sm ai.av aQ.aC] 0),(7,sm J B7),(8,.view 0 0 (List.map aj.av uc).length),(9,J CB),(10,.ref 1 0 0)],⟨2,[(0,(2,List.map aj.av uc)),(1,(2,[aj.av p]))],[]⟩⟩) (fun p=>mU uc CB p=some o1) ?_ ?_
       ·rintro Yb h;unfold mU at h;refine aW Z<|O Z<|E (r:=aj.av Yb) Z (aR Z Z Z Z amR Z)<|E (r:=.clip (List.map aj.av ([Yb]:List aj))) Z (bu Z (xo:=[.tmp 69]) Z Z Z (by simp) (by simp) vW af8 (by decide))<|V [1,2,7,9,68,70] Z<|Sh.bd h fun J4 Zp h=>E (r:=.view 2 0 (List.map aj.av J4).length) Z (bV aj.av uc ([Yb]:List aj) J4 Zp Z ac8 (fun _=>Z) Z Z Z Z Z Z Z)<|O Z ?_;refine ah ?_;exact eD J4 _ h (aU.ra [(0,2)] [])
       ·intro Fh h_;refine sr Z fun FY iQ=>O Z<|ah<|iQ _ ?_;refine aF<|bq (fun(p:(List Int)×Int)=>mR aQ aN B7 uc CB IQ p.1 p.2) (fun p=>⟨[(1,sm J aN),(2,.pp [sm ai.av aQ.aC] 0),(7,sm J B7),(8,.view 0 0 (List.map aj.av uc).length),(9,J CB),(10,.ref 1 0 0),(11,J p.2)],⟨3,[(0,(2,List.map aj.av uc)),(1,(2,[.agg [J IQ,.view 2 0 (List.map J p.1).length]])),(2,(1,List.map J p.1))],[]⟩⟩) h (aU.ra [(0,0),(1,1)] [2]) ?_
        ·rintro⟨Ir,IC⟩ o2 h tj;unfold mR at h;refine az fun G9 ic=>sr Z fun IS iZ=>O Z<|O Z<|E Z (aX J aN Z Z bX)<|aG aL iZ 1 [1,2,7,8,9,10,11,42] Z ?_;refine aT Z h (fun h=> ?_) (fun h=> ?_)
         ·refine aD<|ic _ (Y (U [1,2,7,8,9,10,11] Z) ?_);refine aO (fun(p:(List Int))=>⟨[(1,sm J aN),(2,.pp [sm ai.av aQ.aC] 0),(7,sm J B7),(8,.view 0 0 (List.map aj.av uc).length),(9,J CB),(10,.ref 1 0 0),(11,J IC)],⟨3,[(0,(2,List.map aj.av uc)),(1,(2,[.agg [J IQ,.view 2 0 (List.map J p).length]])),(2,(1,List.map J p))],[]⟩⟩) (fun p=>mV IC p=some o2) ?_ ?_
          ·rintro acU h;unfold mV at h;refine aW Z<|O Z<|E Z (bA Z Z Z Z)<|O Z<|ah ?_;replace h:=bE h;exact⟨_,h,U [1,2,7,8,9,10,11] Z⟩
          ·intro IT gV;refine aF<|az fun N5 tT=>b5 (fl 14 [] []) (by kernel_rfl) (by kernel_rfl) Z ?_;refine aS aL 3 [1,2,7,8,9,10,11,46,47] Z ?_;refine bt Z<|Sh.bi h fun anv atX aiL akl h=>aJ Z (fun _=>aH J aN aiL akl Z Z Z bX Z)<|aS aL 1 [1,2,7,8,9,10,11,46,50] Z ?_;refine Sh.bi h fun afZ atY aiM akm h=>aJ Z (fun _=>aH ai.av aQ.aC aiM akm Z Z Z fJ Z)<|bQ (ai.av afZ) Z Z Z G0 Z<|aS aL 1 [1,2,7,8,9,10,11,52,53] Z ?_;refine bt Z<|Sh.bi h fun anw atZ aiN akn h=>aJ Z (fun _=>aH J B7 aiN akn Z Z Z bX Z)<|aS aL 1 [1,2,7,8,9,10,11,52,56] Z ?_;refine Sh.bd h fun ae4 alr h=>aJ (r:=bl ae4) Z (fun _=>aK Z Z (by simp) (eZ alr))<|bt Z<|bw<|tT _ (Y (U [1,2,7,8,9,10,11,12] Z) ?_);refine aM aL 1 [1,2,7,8,9,10,11,58] Z ?_;refine aT Z h (fun h=> ?_) (fun h=> ?_)
           ·refine b5 (fl 10 [0,1,8] [7,9]) (by kernel_rfl) (by kernel_rfl) Z ?_;refine bK Z Z (bG Z Z Z MX (by decide))<|bK (r:=.view 2 0 (List.map J Ir).length) Z Z (aR Z Z Z Z jN Z)<|aS aL 1 [1,2,7,8,9,10,11,60,61] Z ?_;refine bt Z<|Sh.bi h fun aax at0 aiO ako h=>aJ Z (fun _=>aH J aN aiO ako Z Z Z bX Z)<|aS aL 1 [1,2,7,8,9,10,11,60,64] Z ?_;refine aJ (r:=.clip (List.map J [aax])) Z (fun _=>bu Z (xo:=[.tmp 64]) Z Z Z (by simp[AV.dH]) (by simp[AV.flat]) bX wP (by decide))<|Sh.bd h fun TA akp h=>dI (r:=.view 3 0 (List.map J TA).length) Z Z (bV J Ir [aax] TA akp Z vK (fun _=>Z) Z Z Z Z Z Z Z)<|bK Z Z (bG Z Z Z MX (by decide))<|bP [1,2,7,8,9,10,11,66,67] Z<|dI Z Z (a_ (e':=.agg [J IQ,.view 3 0 (List.map J TA).length]) Z Z Z Z Z Z jN Z dt Z)<|bw ?_;exact gV TA _ h (aU.ra [(0,0),(1,1),(2,3)] [])
           ·exact aD<|gV Ir _ h (U [1,2,7,8,9,10,11] Z)
         ·refine bp ?_;replace h:=aZ h tj;exact h_ (aj.mk IQ Ir) _ h (aU.ra [(0,0),(1,1)] [])
     ·refine bp ?_;replace h:=aZ h dM;exact gU uc _ h (U [8] Z)
 ·intro S4 uv;refine aW Z<|aB aL 3 [1,2,6,22] Z ?_;cases abv:(!Kg)
  ·replace h:=b_ h abv;refine aB aL 3 [1,2,25] Z ?_;refine ah ?_;exact uv (!uA) _ h (U [1,2,25] Z)
  ·replace h:=cg h abv;refine aB aL 3 [1,2,25] Z ?_;refine ah ?_;exact uv true _ h (U [1,2,25] Z)
theorem Dw{aQ aN r}(h:nR aQ aN=some r):F1 W0 45 [af.av aQ,sm J aN] (sm aj.av r):=
 (CP h).wR (aU.ra [] []) (by simp)

end Wk
