/- That the functions of a package do what their plain functions say. -/
import Derived.Test.YtleihjegenjacaaGreatWkZFacts
open Go Go.Av Go.Proofs G Go.Sh Go.Av.Sh
set_option linter.unusedVariables false
set_option maxHeartbeats 8000000
set_option maxRecDepth 20000
namespace Wk
variable {W0:World}
theorem EE{aQ JS r}(h:sn aQ JS=some r):F1 W0 8 [af.av aQ,J JS] (bl r):=by
 refine cB Tryz.func8 Tryz.ntmps8 ?_;unfold sn at h;refine sr Z fun K1 eB=>E (r:=.ref 0 0 0) Z (bI 1 [af.av aQ] Z Z Z (.inl ⟨Z,Z⟩))<|O Z<|ah<|eB _ (Y (aU.eo (fr':=[(1,J JS),(2,.pp [sm ai.av aQ.aC] 0)])) ?_);refine az fun K2 b7=>sr Z fun K3 dZ=>jc Z rN<|bD (sm ai.av aQ.aC) Z Z Z ze Z<|E Z (aX ai.av aQ.aC Z Z fJ)<|aG aL dZ 2 [2,10] Z ?_;refine aT Z h (fun h=> ?_) (fun h=> ?_)
 ·refine aM aL 1 [4] Z ?_;cases h;exact aA rk
 ·refine aD<|b7 _ (Y (U [2] Z) ?_);refine aO (fun(p:Unit)=>⟨[],.empty⟩) (fun p=>rU=some r) ?_ ?_
  ·rintro⟨⟩ h;unfold rU at h;refine sr Z fun K5 ec=>O Z<|ah<|ec _ ?_;cases h;exact aA rk
  ·intro K6 eE;refine sr Z fun K7 f_=>O Z<|ah<|f_ _ ?_;refine aF<|bq (fun(p:Int)=>od aQ p) (fun p=>⟨[(2,.pp [sm ai.av aQ.aC] 0),(5,J p)],.empty⟩) h (U [2,5] Z) ?_
   ·rintro i55 o1 h dM;unfold od at h;refine az fun K8 gd=>sr Z fun K9 gU=>aB aL 3 [2,5,11,13] Z ?_;refine E Z (aX ai.av aQ.aC Z Z fJ)<|aG aL gU 1 [2,5,15] Z ?_;refine aT Z h (fun h=> ?_) (fun h=> ?_)
    ·refine aD<|gd _ (Y (U [2,5] Z) ?_);refine az fun vQ dh=>aF<|aO (fun(p:Bool)=>⟨[(2,.pp [sm ai.av aQ.aC] 0),(5,J i55),(35,bl p)],.empty⟩) (fun p=>og i55 p=some o1) ?_ ?_
     ·rintro v68 h;unfold og at h;refine aT Z h (fun h=> ?_) (fun h=> ?_)
      ·refine aM aL 1 [4] Z ?_;replace h:=aZ h dM;cases h;exact aA rk
      ·refine aD<|dh _ (Y (U [2,5] Z) ?_);refine aW Z<|O Z<|E Z (bA Z Z Z Z)<|O Z<|ah ?_;replace h:=bE h;exact⟨_,h,U [2,5] Z⟩
     ·intro Am eV;refine aW Z<|aB aL 3 [2,5,19,20] Z ?_;refine Sh.bi h fun x70 k71 adu adI h=>E Z (aH ai.av aQ.aC adu adI Z Z Z fJ Z)<|aB aL 2 [2,5,23] Z ?_;refine E Z (aX J x70.bH Z Z bX)<|aB aL 2 [2,5,26] Z ?_;cases OO:(decide ((20:Int)<(Sh.len x70.bH)))
      ·replace h:=b_ h OO;refine aB aL 3 [2,5,26,27,28,29] Z ?_;refine Sh.bi h fun x73 k74 aoW apv h=>E Z (aH ai.av aQ.aC aoW apv Z Z Z fJ Z)<|aB aL 2 [2,5,26,27,28,29,30,31,32] Z ?_;refine E Z (aX an.av x73.Reads Z Z qA)<|aB aL 2 [2,5,35] Z ?_;refine ah ?_;exact eV (decide ((20:Int)<(Sh.len x73.Reads))) _ h (U [2,5,35] Z)
      ·replace h:=cg h OO;refine aB aL 9 [2,5,35] Z ?_;refine ah ?_;exact eV true _ h (U [2,5,35] Z)
    ·refine bp ?_;replace h:=aZ h dM;exact eE () _ h (U [] Z)


theorem eZ{Io e_ r}(h:dP Io e_=some r):F1 W0 84 [ai.av Io,J e_] (bl r):=by
 refine cB Tryz.func84 Tryz.ntmps84 ?_;unfold dP at h;refine sr Z fun K1 eB=>E (r:=.ref 0 0 0) Z (bI 3 [ai.av Io] Z Z Z (.inl ⟨Z,Z⟩))<|O Z<|ah<|eB _ (Y (aU.eo (fr':=[(1,J e_),(2,.pp [J Io.bB,sm J Io.bH,sm an.av Io.Reads] 0)])) ?_);refine aO (fun(p:Unit)=>⟨[],.empty⟩) (fun p=>oJ=some r) ?_ ?_
 ·rintro⟨⟩ h;unfold oJ at h;refine sr Z fun K2 b7=>O Z<|ah<|b7 _ ?_;cases h;exact aA rk
 ·intro K3 dZ;refine sr Z fun K4 gB=>O Z<|ah<|gB _ ?_;refine aF<|bq (fun(p:Int)=>jQ Io e_ p) (fun p=>⟨[(1,J e_),(2,.pp [J Io.bB,sm J Io.bH,sm an.av Io.Reads] 0),(5,J p)],.empty⟩) h (U [1,2,5] Z) ?_
  ·rintro i22 o1 h dM;unfold jQ at h;refine az fun K5 ec=>sr Z fun K6 eE=>aB aL 3 [1,2,5,6,8] Z ?_;refine E Z (aX J Io.bH Z Z bX)<|aG aL eE 1 [1,2,5,10] Z ?_;refine aT Z h (fun h=> ?_) (fun h=> ?_)
   ·refine aD<|ec _ (Y (U [1,2,5] Z) ?_);refine az fun K7 f_=>aF<|sr Z fun K8 gd=>aB aL 3 [1,2,5,14,15] Z ?_;refine Sh.bi h fun HS k29 Hq Hu h=>E Z (aH J Io.bH Hq Hu Z Z Z bX Z)<|aG aL gd 3 [1,2,5,19] Z ?_;refine aT Z h (fun h=> ?_) (fun h=> ?_)
    ·refine aM aL 1 [4] Z ?_;replace h:=aZ h dM;cases h;exact aA rk
    ·refine aD<|f_ _ (Y (U [1,2,5] Z) ?_);refine aW Z<|O Z<|E Z (bA Z Z Z Z)<|O Z<|ah ?_;replace h:=bE h;exact⟨_,h,U [1,2,5] Z⟩
   ·refine bp ?_;replace h:=aZ h dM;exact dZ () _ h (U [] Z)


theorem EF{aQ wj r}(h:sq aQ wj=some r):F1 W0 85 [af.av aQ,J wj] (bl r):=by
 refine cB Tryz.func85 Tryz.ntmps85 ?_;unfold sq at h;refine sr Z fun K1 eB=>E (r:=.ref 0 0 0) Z (bI 1 [af.av aQ] Z Z Z (.inl ⟨Z,Z⟩))<|O Z<|ah<|eB _ (Y (aU.eo (fr':=[(1,J wj),(2,.pp [sm ai.av aQ.aC] 0)])) ?_);refine sr Z fun K2 b7=>aB aL 3 [1,2,11,12] Z ?_;refine Sh.bi h fun uM k85 adv We h=>E Z (aH ai.av aQ.aC adv We Z Z Z fJ Z)<|bD (ai.av uM) Z Z Z G0 Z<|E (r:=.ref 0 0 0) Z (bF 3 [.agg [J 0,aV,aV]] Z aga (by kernel_rfl) (.inl ⟨Z,Z⟩))<|V [1,2,14,5] Z<|E Z (a_ (e':=ai.av uM) Z Z Z Z Z Z G0 Z dt Z)<|ah<|b7 _ (Y (aU.eo (fr':=[(1,J wj),(2,.pp [sm ai.av aQ.aC] 0),(5,.pp [J uM.bB,sm J uM.bH,sm an.av uM.Reads] 0)])) ?_);refine az fun K3 dZ=>aO (fun(p:Bool)=>⟨[(1,J wj),(2,.pp [sm ai.av aQ.aC] 0),(5,.pp [J uM.bB,sm J uM.bH,sm an.av uM.Reads] 0),(22,bl p)],.empty⟩) (fun p=>om aQ wj uM p=some r) ?_ ?_
 ·rintro v89 h;unfold om at h;refine aT Z h (fun h=> ?_) (fun h=> ?_)
  ·refine aM aL 1 [4] Z ?_;cases h;exact aA rk
  ·refine aD<|dZ _ (Y (U [1,2,5] Z) ?_);refine aO (fun(p:Unit)=>⟨[(1,J wj),(2,.pp [sm ai.av aQ.aC] 0),(5,.pp [J uM.bB,sm J uM.bH,sm an.av uM.Reads] 0)],.empty⟩) (fun p=>oo aQ wj uM=some r) ?_ ?_
   ·rintro⟨⟩ h;unfold oo at h;refine aO (fun(p:Unit)=>⟨[],.empty⟩) (fun p=>rV=some r) ?_ ?_
    ·rintro⟨⟩ h;unfold rV at h;refine sr Z fun K5 ec=>O Z<|ah<|ec _ ?_;cases h;exact aA rk
    ·intro K6 eE;refine sr Z fun K7 f_=>O Z<|ah<|f_ _ ?_;refine aF<|bq (fun(p:Int)=>oh aQ wj uM p) (fun p=>⟨[(1,J wj),(2,.pp [sm ai.av aQ.aC] 0),(5,.pp [J uM.bB,sm J uM.bH,sm an.av uM.Reads] 0),(7,J p)],.empty⟩) h (U [1,2,5,7] Z) ?_
     ·rintro i195 o1 h dM;unfold oh at h;refine az fun K8 gd=>sr Z fun K9 gU=>aB aL 3 [1,2,5,7,62,64] Z ?_;refine E Z (aX an.av uM.Reads Z Z qA)<|aG aL gU 1 [1,2,5,7,66] Z ?_;refine aT Z h (fun h=> ?_) (fun h=> ?_)
      ·refine aD<|gd _ (Y (U [1,2,5,7] Z) ?_);refine aO (fun(p:Unit)=>⟨[(1,J wj),(2,.pp [sm ai.av aQ.aC] 0),(5,.pp [J uM.bB,sm J uM.bH,sm an.av uM.Reads] 0),(7,J i195)],.empty⟩) (fun p=>j_ i195=some o1) ?_ ?_
       ·rintro⟨⟩ h;unfold j_ at h;refine aW Z<|O Z<|E Z (bA Z Z Z Z)<|O Z<|ah ?_;replace h:=bE h;exact⟨_,h,U [1,2,5,7] Z⟩
       ·intro vQ dh;refine aF<|sr Z fun zh eC=>aB aL 3 [1,2,5,7,70,71] Z ?_;refine Sh.bi h fun sG atn aib ajO h=>E Z (aH an.av uM.Reads aib ajO Z Z Z qA Z)<|bD (an.av sG) Z Z Z EW Z<|E (r:=.ref 0 0 0) Z (bF 2 [.agg [J 0,J 0]] Z aaE (by kernel_rfl) (.inl ⟨Z,Z⟩))<|V [1,2,5,7,73,8] Z<|E Z (a_ (e':=an.av sG) Z Z Z Z Z Z EW Z dt Z)<|ah<|eC _ (Y (aU.eo (fr':=[(1,J wj),(2,.pp [sm ai.av aQ.aC] 0),(5,.pp [J uM.bB,sm J uM.bH,sm an.av uM.Reads] 0),(7,J i195),(8,.pp [J sG.Key,J sG.bT] 0)])) ?_);refine az fun Am eV=>aO (fun(p:Bool)=>⟨[(1,J wj),(2,.pp [sm ai.av aQ.aC] 0),(5,.pp [J uM.bB,sm J uM.bH,sm an.av uM.Reads] 0),(7,J i195),(8,.pp [J sG.Key,J sG.bT] 0),(116,bl p)],.empty⟩) (fun p=>cH aQ i195 sG p=some o1) ?_ ?_
        ·rintro am1 h;unfold cH at h;refine aT Z h (fun h=> ?_) (fun h=> ?_)
         ·refine aM aL 1 [4] Z ?_;replace h:=aZ h dM;cases h;exact aA rk
         ·refine aD<|eV _ (Y (U [1,2,5,7,8] Z) ?_);refine az fun BH e9=>aM aL 3 [1,2,5,7,8,119] Z ?_;refine aT Z h (fun h=> ?_) (fun h=> ?_)
          ·refine bp ?_;exact dh () _ h (U [1,2,5,7] Z)
          ·refine aD<|e9 _ (Y (U [1,2,5,7,8] Z) ?_);refine az fun FY iQ=>b5 (fl 10 [] []) (by kernel_rfl) (by kernel_rfl) Z ?_;refine aS aL 3 [1,2,5,7,8,121,122] Z ?_;refine bQ (J sG.bT) Z Z Z sE Z<|Sh.bi h fun afH atp aid ajR h=>aJ Z (fun _=>aH ai.av aQ.aC aid ajR Z Z Z fJ Z)<|bQ (ai.av afH) Z Z Z G0 Z<|bP [1,2,5,7,8,125] Z<|qz Z ac_<|bQ (J sG.Key) Z Z Z sE Z<|Sh.bd h fun ae0 alg h=> ?_;refine aJ (r:=bl ae0) Z (fun _=>aK Z Z (by simp) (eZ alg))<|bP [1,2,5,7,128] Z<|bt Z<|bw<|iQ _ (Y (U [1,2,5,7,9] Z) ?_);refine aM aL 2 [1,2,5,7,130] Z ?_;refine aT Z h (fun h=> ?_) (fun h=> ?_)
           ·refine aM aL 1 [4] Z ?_;replace h:=aZ h dM;cases h;exact aA rk
           ·exact aD<|dh () _ h (U [1,2,5,7] Z)
        ·intro IT gV;refine b5 (fl 43 [] []) (by kernel_rfl) (by kernel_rfl) Z ?_;refine aS aL 3 [1,2,5,7,8,76] Z ?_;refine bt Z ?_;cases aba:(decide (sG.Key<0))
         ·replace h:=b_ h aba;refine aS aL 5 [1,2,5,7,8,78,79,80,82] Z ?_;cases abb:(decide ((15:Int)<sG.Key))
          ·replace h:=b_ h abb;refine aS aL 3 [1,2,5,7,8,78,79,80,82,83,84,85] Z ?_;cases abc:(decide ((0:Int)<i195))
           ·replace h:=b_ h abc;refine aS aL 18 [1,2,5,7,8,78,79,80,83,84,85,86,87,88,89,90,91,92,93,94,95,96,99,100,101,103] Z ?_;cases abg:(decide (sG.bT<(-1)))
            ·replace h:=b_ h abg;refine aS aL 3 [1,2,5,7,8,78,79,80,83,84,85,86,87,88,89,90,91,92,93,94,95,96,99,100,101,103,104,105,106] Z ?_;refine bQ (sm ai.av aQ.aC) Z Z Z ze Z<|aJ Z (fun _=>aX ai.av aQ.aC Z Z fJ)<|aS aL 1 [1,2,5,7,8,78,79,80,83,84,85,86,87,88,89,90,91,92,93,94,95,96,99,100,101,103,104,105,106,107,108,109] Z ?_;refine bt Z<|bt Z ?_;cases abh:(decide ((Sh.len aQ.aC)≤sG.bT))
             ·replace h:=b_ h abh;refine aS aL 5 [1,2,5,7,8,116] Z ?_;refine bw ?_;exact gV (decide (sG.bT=wj)) _ h (U [1,2,5,7,8,116] Z)
             ·replace h:=cg h abh;refine aS aL 5 [1,2,5,7,8,116] Z ?_;refine bw ?_;exact gV true _ h (U [1,2,5,7,8,116] Z)
            ·replace h:=cg h abg;refine aS aL 13 [1,2,5,7,8,116] Z ?_;refine bw ?_;exact gV true _ h (U [1,2,5,7,8,116] Z)
           ·replace h:=cg h abc;refine aS aL 3 [1,2,5,7,8,78,79,80,82,83,84,85,86,87,88] Z ?_;refine aJ Z (fun _=>yY Z Z Z Z)<|Sh.bi h fun afI atq aie ajS h=>aJ Z (fun _=>aH an.av uM.Reads aie ajS Z Z Z qA Z)<|aS aL 7 [1,2,5,7,8,78,79,80,83,84,85,86,87,88,89,90,91,92,93,94,95,96,97] Z ?_;refine bt Z ?_;cases abd:(decide (sG.Key≤afI.Key))
            ·replace h:=b_ h abd;refine aS aL 5 [1,2,5,7,8,78,79,80,83,84,85,86,87,88,89,90,91,92,93,94,95,96,99,100,101,103] Z ?_;cases abe:(decide (sG.bT<(-1)))
             ·replace h:=b_ h abe;refine aS aL 3 [1,2,5,7,8,78,79,80,83,84,85,86,87,88,89,90,91,92,93,94,95,96,99,100,101,103,104,105,106] Z ?_;refine bQ (sm ai.av aQ.aC) Z Z Z ze Z<|aJ Z (fun _=>aX ai.av aQ.aC Z Z fJ)<|aS aL 1 [1,2,5,7,8,78,79,80,83,84,85,86,87,88,89,90,91,92,93,94,95,96,99,100,101,103,104,105,106,107,108,109] Z ?_;refine bt Z<|bt Z ?_;cases abf:(decide ((Sh.len aQ.aC)≤sG.bT))
              ·replace h:=b_ h abf;refine aS aL 5 [1,2,5,7,8,116] Z ?_;refine bw ?_;exact gV (decide (sG.bT=wj)) _ h (U [1,2,5,7,8,116] Z)
              ·replace h:=cg h abf;refine aS aL 5 [1,2,5,7,8,116] Z ?_;refine bw ?_;exact gV true _ h (U [1,2,5,7,8,116] Z)
             ·replace h:=cg h abe;refine aS aL 13 [1,2,5,7,8,116] Z ?_;refine bw ?_;exact gV true _ h (U [1,2,5,7,8,116] Z)
            ·replace h:=cg h abd;refine aS aL 18 [1,2,5,7,8,116] Z ?_;refine bw ?_;exact gV true _ h (U [1,2,5,7,8,116] Z)
          ·replace h:=cg h abb;refine aS aL 34 [1,2,5,7,8,116] Z ?_;refine bw ?_;exact gV true _ h (U [1,2,5,7,8,116] Z)
         ·replace h:=cg h aba;refine aS aL 39 [1,2,5,7,8,116] Z ?_;refine bw ?_;exact gV true _ h (U [1,2,5,7,8,116] Z)
      ·refine bp ?_;replace h:=aZ h dM;exact eE () _ h (U [] Z)
   ·intro N5 tT;refine sr Z fun Qu uG=>O Z<|ah<|uG _ ?_;refine aF<|bq (fun(p:Int)=>ir aQ wj uM p) (fun p=>⟨[(1,J wj),(2,.pp [sm ai.av aQ.aC] 0),(5,.pp [J uM.bB,sm J uM.bH,sm an.av uM.Reads] 0),(6,J p)],.empty⟩) h (U [1,2,5,6] Z) ?_
    ·rintro EA o2 h tj;unfold ir at h;refine az fun S4 uv=>sr Z fun Yw Ag=>aB aL 3 [1,2,5,6,23,25] Z ?_;refine E Z (aX J uM.bH Z Z bX)<|aG aL Ag 1 [1,2,5,6,27] Z ?_;refine aT Z h (fun h=> ?_) (fun h=> ?_)
     ·refine aD<|uv _ (Y (U [1,2,5,6] Z) ?_);refine az fun YM AO=>aF<|aO (fun(p:Bool)=>⟨[(1,J wj),(2,.pp [sm ai.av aQ.aC] 0),(5,.pp [J uM.bB,sm J uM.bH,sm an.av uM.Reads] 0),(6,J EA),(61,bl p)],.empty⟩) (fun p=>gq EA p=some o2) ?_ ?_
      ·rintro am3 h;unfold gq at h;refine aT Z h (fun h=> ?_) (fun h=> ?_)
       ·refine aM aL 1 [4] Z ?_;replace h:=aZ h tj;cases h;exact aA rk
       ·refine aD<|AO _ (Y (U [1,2,5,6] Z) ?_);refine aW Z<|O Z<|E Z (bA Z Z Z Z)<|O Z<|ah ?_;replace h:=bE h;exact⟨_,h,U [1,2,5,6] Z⟩
      ·intro K26 Gu;refine b5 (fl 32 [] []) (by kernel_rfl) (by kernel_rfl) Z ?_;refine aS aL 3 [1,2,5,6,31,32] Z ?_;refine Sh.bi h fun afK atu aii ajV h=>aJ Z (fun _=>aH J uM.bH aii ajV Z Z Z bX Z)<|aS aL 2 [1,2,5,6,35] Z ?_;refine bt Z ?_;cases abk:(decide (afK<0))
       ·replace h:=b_ h abk;refine aS aL 2 [1,2,5,6,36,37,38] Z ?_;refine bt Z<|Sh.bi h fun afL atv aij ajW h=>aJ Z (fun _=>aH J uM.bH aij ajW Z Z Z bX Z)<|aS aL 4 [1,2,5,6,37,38,39,40,41,42,44] Z ?_;cases abl:(decide ((15:Int)<afL))
        ·replace h:=b_ h abl;refine aS aL 3 [1,2,5,6,37,38,39,40,41,42,44,45,46,47] Z ?_;cases abm:(decide ((0:Int)<EA))
         ·replace h:=b_ h abm;refine aS aL 14 [1,2,5,6,61] Z ?_;refine bw ?_;exact Gu false _ h (U [1,2,5,6,61] Z)
         ·replace h:=cg h abm;refine aS aL 3 [1,2,5,6,37,38,39,40,41,42,44,45,46,47,48,49,50] Z ?_;refine aJ Z (fun _=>yY Z Z Z Z)<|Sh.bi h fun afM atw aik ajX h=>aJ Z (fun _=>aH J uM.bH aik ajX Z Z Z bX Z)<|aS aL 4 [1,2,5,6,37,38,39,40,41,42,44,45,46,47,48,49,50,51,52,53,54,55,56] Z ?_;refine Sh.bi h fun afN atx ail ajY h=>aJ Z (fun _=>aH J uM.bH ail ajY Z Z Z bX Z)<|aS aL 4 [1,2,5,6,61] Z ?_;refine bw ?_;exact Gu (decide (afN≤afM)) _ h (U [1,2,5,6,61] Z)
        ·replace h:=cg h abl;refine aS aL 17 [1,2,5,6,61] Z ?_;refine bw ?_;exact Gu true _ h (U [1,2,5,6,61] Z)
       ·replace h:=cg h abk;refine aS aL 25 [1,2,5,6,61] Z ?_;refine bw ?_;exact Gu true _ h (U [1,2,5,6,61] Z)
     ·refine bp ?_;replace h:=aZ h tj;exact tT () _ h (U [1,2,5] Z)
 ·intro K27 Iy;refine aW Z<|aB aL 3 [1,2,5,17] Z ?_;refine O Z ?_;cases abn:(decide (uM.bB<0))
  ·replace h:=b_ h abn;refine aB aL 4 [1,2,5,22] Z ?_;refine ah ?_;exact Iy (decide ((7:Int)<uM.bB)) _ h (U [1,2,5,22] Z)
  ·replace h:=cg h abn;refine aB aL 4 [1,2,5,22] Z ?_;refine ah ?_;exact Iy true _ h (U [1,2,5,22] Z)


theorem fo{aQ r}(h:cn aQ=some r):F1 W0 46 [af.av aQ] (bl r):=by
 refine cB Tryz.func46 Tryz.ntmps46 ?_;unfold cn at h;refine sr Z fun K1 eB=>E (r:=.ref 0 0 0) Z (bI 1 [af.av aQ] Z Z Z (.inl ⟨Z,Z⟩))<|O Z<|ah<|eB _ (Y (aU.eo (fr':=[(1,.pp [sm ai.av aQ.aC] 0)])) ?_);refine az fun K2 b7=>sr Z fun K3 dZ=>jc Z rN<|bD (sm ai.av aQ.aC) Z Z Z ze Z<|E Z (aX ai.av aQ.aC Z Z fJ)<|aG aL dZ 1 [1,8] Z ?_;refine aT Z h (fun h=> ?_) (fun h=> ?_)
 ·refine aM aL 1 [2] Z ?_;cases h;exact aA rk
 ·refine aD<|b7 _ (Y (U [1] Z) ?_);refine aO (fun(p:Unit)=>⟨[],.empty⟩) (fun p=>p_=some r) ?_ ?_
  ·rintro⟨⟩ h;unfold p_ at h;refine sr Z fun K5 ec=>O Z<|ah<|ec _ ?_;cases h;exact aA rk
  ·intro K6 eE;refine sr Z fun K7 f_=>O Z<|ah<|f_ _ ?_;refine aF<|bq (fun(p:Int)=>iE aQ p) (fun p=>⟨[(1,.pp [sm ai.av aQ.aC] 0),(3,J p)],.empty⟩) h (U [1,3] Z) ?_
   ·rintro n15 o1 h dM;unfold iE at h;refine az fun K8 gd=>sr Z fun K9 gU=>aB aL 3 [1,3,9,11] Z ?_;refine E Z (aX ai.av aQ.aC Z Z fJ)<|aG aL gU 1 [1,3,13] Z ?_;refine aT Z h (fun h=> ?_) (fun h=> ?_)
    ·refine aD<|gd _ (Y (U [1,3] Z) ?_);refine az fun vQ dh=>aF<|sr Z fun zh eC=>bD (af.av aQ) Z Z Z eS Z<|O Z<|Sh.bd h fun FL M_ h=>E (r:=bl FL) Z (aK Z Z (by simp) (EF M_)) ?_;refine aG aL eC 1 [1,3,4] Z ?_;refine aM aL 2 [1,3,20] Z ?_;refine aT Z h (fun h=> ?_) (fun h=> ?_)
     ·refine aM aL 1 [2] Z ?_;replace h:=aZ h dM;cases h;exact aA rk
     ·refine aD<|dh _ (Y (U [1,3] Z) ?_);refine aW Z<|O Z<|E Z (bA Z Z Z Z)<|O Z<|ah ?_;replace h:=bE h;exact⟨_,h,U [1,3] Z⟩
    ·refine bp ?_;replace h:=aZ h dM;exact eE () _ h (U [] Z)

end Wk
