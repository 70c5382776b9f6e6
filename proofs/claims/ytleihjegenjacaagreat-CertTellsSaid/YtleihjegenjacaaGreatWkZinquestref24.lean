/- That the functions of a package do what their plain functions say. -/
import Derived.Test.YtleihjegenjacaaGreatWkZinquestref19
open Go Go.Av Go.Proofs G Go.Sh Go.Av.Sh
set_option linter.unusedVariables false
set_option maxHeartbeats 8000000
set_option maxRecDepth 20000
namespace Wk
variable {W0:World}
theorem Dy{eM fK r}(h:rB eM fK=some r):F1 W0 44 [sm ak.av eM,sm ak.av fK] (bl r):=by
 refine cB Tryz.func44 Tryz.ntmps44 ?_;unfold rB at h;refine aM aL 1 [0,1] Z ?_;refine az fun K2 b7=>sr Z fun K3 dZ=>O Z<|E Z (aX ak.av eM Z Z xW)<|aB aL 1 [0,1,8,9] Z ?_;refine E Z (aX ak.av fK Z Z xW)<|aG aL dZ 1 [0,1,11] Z ?_;refine aT Z h (fun h=> ?_) (fun h=> ?_)
 ·refine aM aL 1 [4] Z ?_;cases h;exact aA rk
 ·refine aD<|b7 _ (Y (U [0,1] Z) ?_);refine aO (fun(p:Unit)=>⟨[],.empty⟩) (fun p=>rC=some r) ?_ ?_
  ·rintro⟨⟩ h;unfold rC at h;refine sr Z fun K5 ec=>O Z<|ah<|ec _ ?_;cases h;exact aA rk
  ·intro K6 eE;refine sr Z fun K7 f_=>O Z<|ah<|f_ _ ?_;refine aF<|bq (fun(p:Int)=>m_ eM fK p) (fun p=>⟨[(0,sm ak.av eM),(1,sm ak.av fK),(5,J p)],.empty⟩) h (U [0,1,5] Z) ?_
   ·rintro pe o1 h dM;unfold m_ at h;refine az fun K8 gd=>sr Z fun K9 gU=>O Z<|O Z<|E Z (aX ak.av eM Z Z xW)<|aG aL gU 1 [0,1,5,15] Z ?_;refine aT Z h (fun h=> ?_) (fun h=> ?_)
    ·refine aD<|gd _ (Y (U [0,1,5] Z) ?_);refine aO (fun(p:Unit)=>⟨[(0,sm ak.av eM),(1,sm ak.av fK),(5,J pe)],.empty⟩) (fun p=>nh pe=some o1) ?_ ?_
     ·rintro⟨⟩ h;unfold nh at h;refine aW Z<|O Z<|E Z (bA Z Z Z Z)<|O Z<|ah ?_;replace h:=bE h;exact⟨_,h,U [0,1,5] Z⟩
     ·intro vQ dh;refine aF<|az fun zh eC=>aO (fun(p:Bool)=>⟨[(0,sm ak.av eM),(1,sm ak.av fK),(5,J pe),(43,bl p)],.empty⟩) (fun p=>ni eM fK pe p=some o1) ?_ ?_
      ·rintro Ya h;unfold ni at h;refine aT Z h (fun h=> ?_) (fun h=> ?_)
       ·refine aM aL 1 [4] Z ?_;replace h:=aZ h dM;cases h;exact aA rk
       ·refine aD<|eC _ (Y (U [0,1,5] Z) ?_);refine sr Z fun Ae eD=>O Z<|ah<|eD _ ?_;refine aF<|bq (fun(p:Int)=>ng eM fK pe p) (fun p=>⟨[(0,sm ak.av eM),(1,sm ak.av fK),(5,J pe),(6,J p)],.empty⟩) h (U [0,1,5,6] Z) ?_
        ·rintro JL o2 h tj;unfold ng at h;refine az fun BH e9=>sr Z fun Fh h_=>aB aL 3 [0,1,5,6,44,45,46] Z ?_;refine Sh.bi h fun RU aqF VF V6 h=>E Z (aH ak.av eM VF V6 Z Z Z xW Z)<|aB aL 2 [0,1,5,6,44,49] Z ?_;refine E Z (aX J RU.bR Z Z bX)<|aG aL h_ 1 [0,1,5,6,51] Z ?_;refine aT Z h (fun h=> ?_) (fun h=> ?_)
         ·refine aD<|e9 _ (Y (U [0,1,5,6] Z) ?_);refine az fun FY iQ=>aF<|az fun G9 ic=>b5 (fl 17 [] []) (by kernel_rfl) (by kernel_rfl) Z ?_;refine bt Z<|bt Z<|Sh.bi h fun RV aqH VG V7 h=>aJ Z (fun _=>aH ak.av eM VG V7 Z Z Z xW Z)<|aS aL 3 [0,1,5,6,58,59] Z ?_;refine Sh.bi h fun Ql amb OP OT h=>aJ Z (fun _=>aH J RV.bR OP OT Z Z Z bX Z)<|aS aL 2 [0,1,5,6,61,62] Z ?_;refine bt Z<|Sh.bi h fun NW aqJ VH V8 h=>aJ Z (fun _=>aH ak.av fK VH V8 Z Z Z xW Z)<|aS aL 1 [0,1,5,6,61,65] Z ?_;refine bQ (sm J NW.bR) Z Z Z jN Z<|bt Z<|Sh.bi h fun Yt IC VI V9 h=>aJ Z (fun _=>aH J NW.bR VI V9 Z Z Z bX Z)<|aS aL 2 [0,1,5,6,70] Z ?_;refine bw<|ic _ (Y (U [0,1,5,6,70] Z) ?_);refine aT Z h (fun h=> ?_) (fun h=> ?_)
          ·refine aM aL 1 [4] Z ?_;replace h:=aZ h tj;replace h:=aZ h dM;cases h;exact aA rk
          ·refine aD<|iQ _ (Y (U [0,1,5,6] Z) ?_);refine aW Z<|O Z<|E Z (bA Z Z Z Z)<|O Z<|ah ?_;replace h:=bE h;exact⟨_,h,U [0,1,5,6] Z⟩
         ·refine bp ?_;replace h:=aZ h tj;exact dh () _ h (U [0,1,5] Z)
      ·intro IT gV;refine b5 (fl 26 [] []) (by kernel_rfl) (by kernel_rfl) Z ?_;refine bt Z<|bt Z<|Sh.bi h fun LB aqK VJ V_ h=>aJ Z (fun _=>aH ak.av eM VJ V_ Z Z Z xW Z)<|bP [0,1,5,20] Z<|qz Z MY<|bQ (aa.av LB.C) Z Z Z xB Z<|aS aL 1 [0,1,5,22,23] Z ?_;refine bt Z<|Sh.bi h fun LC aqL VK Wa h=>aJ Z (fun _=>aH ak.av fK VK Wa Z Z Z xW Z)<|aS aL 1 [0,1,5,22,26] Z ?_;refine bQ (aa.av LC.C) Z Z Z xB Z<|aJ (r:=bl (!decide (LB.C=LC.C))) Z (fun _=>IK (a:=LB.C) (b:=LC.C) Z Z Z)<|aS aL 1 [0,1,5,29] Z ?_;cases OM:(!decide (LB.C=LC.C))
       ·replace h:=b_ h OM;refine bt Z<|bt Z<|Sh.bi h fun KJ aqM VL Wb h=>aJ Z (fun _=>aH ak.av eM VL Wb Z Z Z xW Z)<|bP [0,1,5,29,30,31,32] Z<|qz Z JA<|bQ (sm J KJ.bR) Z Z Z jN Z<|aJ Z (fun _=>aX J KJ.bR Z Z bX) ?_;refine bP [0,1,5,29,30,31,32,33,34,35] Z<|bt Z<|bt Z<|Sh.bi h fun KK aqO VN Wc h=>aJ Z (fun _=>aH ak.av fK VN Wc Z Z Z xW Z)<|bP [0,1,5,29,30,31,32,33,34,35,36,37,38] Z<|qz Z JA<|bQ (sm J KK.bR) Z Z Z jN Z ?_;refine aJ Z (fun _=>aX J KK.bR Z Z bX)<|aS aL 2 [0,1,5,43] Z ?_;refine bw ?_;exact gV (decide ((Sh.len KJ.bR)≠(Sh.len KK.bR))) _ h (U [0,1,5,43] Z)
       ·replace h:=cg h OM;refine aS aL 14 [0,1,5,43] Z ?_;refine bw ?_;exact gV true _ h (U [0,1,5,43] Z)
    ·refine bp ?_;replace h:=aZ h dM;exact eE () _ h (U [] Z)


theorem AW{self:(List ak)→Int→Option (Int)}(ih:∀{eG:List ak} {eN:Int} {r:Int},self eG eN=some r→F1 W0 108 [sm ak.av eG,J eN] (J r)){eG:List ak}{eN:Int}{r:Int}(h:gy self eG eN=some r):F2 W0 108 [sm ak.av eG,J eN] (J r) .empty:=by
 refine kn Tryz.func108 Tryz.ntmps108 ?_;unfold gy at h;refine aM aL 1 [0,1] Z ?_;refine az fun K2 b7=>aO (fun(p:Bool)=>⟨[(0,sm ak.av eG),(1,J eN),(14,bl p)],.empty⟩) (fun p=>gv self eG eN p=some r) ?_ ?_
 ·rintro v10 h;unfold gv at h;refine aT Z h (fun h=> ?_) (fun h=> ?_)
  ·refine aM aL 1 [4] Z ?_;cases h;exact aA rk
  ·refine aD<|b7 _ (Y (U [0,1] Z) ?_);refine az fun K4 gB=>sr Z fun K5 ec=>O Z<|O Z<|Sh.bi h fun x16 k17 aoM api h=>E Z (aH ak.av eG aoM api Z Z Z xW Z)<|V [0,1,17] Z ?_;refine jc Z JA<|bD (sm J x16.bR) Z Z Z jN Z<|E Z (aX J x16.bR Z Z bX)<|aG aL ec 1 [0,1,21] Z ?_;refine aT Z h (fun h=> ?_) (fun h=> ?_)
   ·refine aM aL 3 [4] Z ?_;cases h;exact aA rk
   ·refine aD<|gB _ (Y (U [0,1] Z) ?_);refine sr Z fun K7 f_=>aB aL 3 [0,24,26] Z ?_;refine Sh.bd h fun xK IB h=>E (r:=J xK) Z (aK Z Z (by simp) (ih IB))<|aG aL f_ 1 [0,5] Z ?_;refine sr Z fun K8 gd=>O Z<|O Z<|Sh.bd h fun yA Le h=>E (r:=J yA) Z (aK Z Z (by simp) (ih Le))<|aG aL gd 1 [6] Z ?_;refine aM aL 2 [4] Z ?_;cases h;exact aA rk
 ·intro vQ dh;refine aW Z<|aB aL 3 [0,1,9] Z ?_;cases Vc:(decide (eN<0))
  ·replace h:=b_ h Vc;refine O Z<|O Z<|E Z (aX ak.av eG Z Z xW)<|aB aL 2 [0,1,14] Z ?_;refine ah ?_;exact dh (decide ((Sh.len eG)≤eN)) _ h (U [0,1,14] Z)
  ·replace h:=cg h Vc;refine aB aL 5 [0,1,14] Z ?_;refine ah ?_;exact dh true _ h (U [0,1,14] Z)
theorem CR:∀(n:Nat) {eG:List ak} {eN:Int} {r:Int},fT n eG eN=some r→F1 W0 108 [sm ak.av eG,J eN] (J r):=by
 intro n
 induction n with
 |zero=>intro _ _ _ h;cases h
 |succ n ih=>intro _ _ _ h;exact Ey.two (AW ih h) (by simp)
theorem yQ{eG eN r}(h:uw eG eN=some r):F1 W0 108 [sm ak.av eG,J eN] (J r):=CR _ h


theorem FA{eG r}(h:tr eG=some r):F1 W0 74 [sm ak.av eG] (bl r):=by
 refine cB Tryz.func74 Tryz.ntmps74 ?_;unfold tr at h;refine aM aL 1 [0] Z ?_;refine sr Z fun K2 b7=>O Z<|Sh.bd h fun r5 Zy h=>E (r:=J r5) Z (aK Z Z (by simp) (yQ Zy))<|aG aL b7 1 [0,3] Z ?_;refine sr Z fun K3 dZ=>O Z<|E Z (aX ak.av eG Z Z xW)<|aB aL 1 [0,3,8] Z ?_;refine O Z ?_;cases hb7:(decide ((0:Int)<(Sh.len eG)))
 ·replace h:=b_ h hb7;refine aG aL dZ 6 [2] Z ?_;cases h;exact aA rk
 ·replace h:=cg h hb7;refine aB aL 2 [9,10,11] Z ?_;refine E Z (aX ak.av eG Z Z xW)<|aG aL dZ 3 [2] Z ?_;cases h;exact aA rk


theorem zO{self:af→Int→(List aa)→(List ak)→Int→Option (Bool)}(ih:∀{aQ:af} {bf:Int} {gz:List aa} {dB:List ak} {yZ:Int} {r:Bool},self aQ bf gz dB yZ=some r→F1 W0 75 [af.av aQ,J bf,sm aa.av gz,sm ak.av dB,J yZ] (bl r)){aQ:af}{bf:Int}{gz:List aa}{dB:List ak}{yZ:Int}{r:Bool}(h:jD self aQ bf gz dB yZ=some r):F2 W0 75 [af.av aQ,J bf,sm aa.av gz,sm ak.av dB,J yZ] (bl r) .empty:=by
 refine kn Tryz.func75 Tryz.ntmps75 ?_;unfold jD at h;refine sr Z fun K1 eB=>E (r:=.ref 0 0 0) Z (bI 1 [af.av aQ] Z Z Z (.inl ⟨Z,Z⟩))<|O Z<|ah<|eB _ (Y (aU.eo (fr':=[(1,J bf),(2,sm aa.av gz),(3,sm ak.av dB),(4,J yZ),(5,.pp [sm ai.av aQ.aC] 0)])) ?_);refine sr Z fun K2 b7=>O Z<|O Z<|Sh.bi h fun G8 k18 aoN apj h=>E Z (aH ak.av dB aoN apj Z Z Z xW Z)<|V [1,2,3,4,5,19] Z<|bD (ak.av G8) Z Z Z amS Z ?_;refine E (r:=.ref 0 0 0) Z (bF 4 [.agg [J 0,J 0,J 0,aV]] Z arH (by kernel_rfl) (.inl ⟨Z,Z⟩))<|E Z (a_ (e':=ak.av G8) Z Z Z Z Z Z amS Z dt Z)<|ah<|b7 _ (Y (aU.eo (fr':=[(1,J bf),(2,sm aa.av gz),(3,sm ak.av dB),(4,J yZ),(5,.pp [sm ai.av aQ.aC] 0),(11,.pp [J G8.C.Key,J G8.C.A,J G8.C.B,sm J G8.bR] 0)])) ?_);refine az fun K3 dZ=>sr Z fun K4 gB=>jc Z JA<|bD (sm J G8.bR) Z Z Z jN Z<|E Z (aX J G8.bR Z Z bX)<|aG aL gB 1 [1,2,3,4,5,11,24] Z ?_;refine aT Z h (fun h=> ?_) (fun h=> ?_)
 ·refine sr Z fun K5 ec=>bD (af.av aQ) Z Z Z eS Z<|aB aL 2 [11,25,26,27] Z ?_;refine jc Z JA<|bD (sm J G8.bR) Z Z Z jN Z<|Sh.bd h fun Kl Wp h=>E (r:=bl Kl) Z (aK Z Z (by simp) (CK Wp))<|aG aL ec 1 [11,12] Z ?_;refine sr Z fun K6 eE=>O Z<|O Z ?_;cases Vf:(Kl)
  ·replace h:=b_ h Vf;refine aG aL eE 6 [10] Z ?_;cases h;exact aA rk
  ·replace h:=cg h Vf;refine aB aL 1 [32,33] Z ?_;refine bD (aa.av G8.C) Z Z Z xB Z<|E (r:=.agg [J 0,J 0,J 0]) Z (cm Z Oe Z Z Z)<|E (r:=bl (decide (G8.C=(aa.mk 0 0 0)))) Z (u_ (a:=G8.C) (b:=(aa.mk 0 0 0)) Z Z Z)<|aG aL eE 2 [10] Z ?_;cases h;exact aA rk
 ·refine aD<|dZ _ (Y (U [1,2,3,4,5,11] Z) ?_);refine sr Z fun K7 f_=>bD (af.av aQ) Z Z Z eS Z<|jc Z MY<|bD (aa.av G8.C) Z Z Z xB Z<|V [1,2,3,4,5,11,38,40] Z<|Sh.bd h fun r28 ad2 h=>E (r:=bl r28) Z (aK Z Z (by simp) (yO ad2)) ?_;refine aG aL f_ 1 [1,2,3,4,5,11,13] Z ?_;refine az fun K8 gd=>aM aL 2 [1,2,3,4,5,11,43] Z ?_;refine aT Z h (fun h=> ?_) (fun h=> ?_)
  ·refine aM aL 1 [10] Z ?_;cases h;exact aA rk
  ·refine aD<|gd _ (Y (U [1,2,3,4,5,11] Z) ?_);refine sr Z fun zh eC=>O Z<|ah<|eC _ ?_;refine sr Z fun Am eV=>O Z<|O Z<|Sh.bd h fun JW Zb h=>E (r:=.view 0 0 (List.map aa.av JW).length) Z (Ms aa.av gz JW Zb Tf (fun _=>Z) Z Z Z Z Z)<|aG aL eV 1 [1,2,3,4,5,11,14] Z ?_;refine sr Z fun Ae eD=>O Z<|jc Z MY<|bD (aa.av G8.C) Z Z Z xB Z<|V [1,2,3,4,5,11,47,49] Z<|E (r:=.clip (List.map aa.av ([G8.C]:List aa))) Z (bu Z (xo:=[.tmp 49]) Z Z Z (by simp) (by simp) vJ Yv (by decide))<|Sh.bd h fun wh Zc h=> ?_;refine E (r:=.view 1 0 (List.map aa.av wh).length) Z (bV aa.av JW ([G8.C]:List aa) wh Zc Z Tf (fun _=>Z) Z Z Z Z Z Z Z)<|O Z<|ah<|eD _ (Y (aU.ra (fr':=[(1,J bf),(2,sm aa.av gz),(3,sm ak.av dB),(4,J yZ),(5,.pp [sm ai.av aQ.aC] 0),(11,.pp [J G8.C.Key,J G8.C.A,J G8.C.B,sm J G8.bR] 0),(14,.view 0 0 (List.map aa.av wh).length)]) (H':=⟨1,[(0,(3,List.map aa.av wh))],[]⟩) [(0,1)] []) ?_);refine sr Z fun BH e9=>bD (af.av aQ) Z Z Z eS Z<|aB aL 5 [1,2,3,4,5,11,14,52,53,54,55,57] Z ?_;refine Sh.bd h fun r35 Zx h=>E (r:=bl r35) Z (S6 Z (ys:=[af.av aQ,J bf,.view 0 0 (List.map aa.av wh).length,sm ak.av dB,J (dz (yZ+1))]) (xs:=[af.av aQ,J bf,sm aa.av wh,sm ak.av dB,J (dz (yZ+1))]) Z (aU.eo (fr':=cQ 0 [af.av aQ,J bf,sm aa.av wh,sm ak.av dB,J (dz (yZ+1))])) Z (ih Zx) (by simp))<|aG aL e9 1 [1,2,3,4,5,11,14,15] Z ?_;refine az fun Fh h_=>aM aL 2 [1,2,3,4,5,11,14,60] Z ?_;refine aT Z h (fun h=> ?_) (fun h=> ?_)
   ·refine sr Z fun G9 ic=>O Z<|ah<|ic _ (Y (aU.eo (fr':=[(10,bl false)])) ?_);cases h;exact aA rk
   ·refine aD<|h_ _ (Y (U [1,2,3,4,5,11,14] Z) ?_);refine sr Z fun IS iZ=>O Z<|O Z<|E Z (aX aa.av gz Z Z vJ)<|V [1,3,4,5,11,14,61,63] Z<|jc Z MY<|bD (aa.av G8.C) Z Z Z xB Z ?_;refine Sh.bd h fun yx Dn h=>E (r:=aa.av yx) Z (aK Z Z (by simp) (x6 Dn))<|V [1,3,4,5,14,61,63,66] Z<|Sh.bi h fun x41 k42 aiD akd h=>E (r:=.ref 0 k42 0) Z (dQ aa.av wh aiD akd Z Z Z Z Z vJ Z)<|E Z (p7 aa.av wh yx aiD akd Z Z Z Z Z xB Z dt Z)<|ah<|iZ _ (Y (aU.e (fr':=[(1,J bf),(3,sm ak.av dB),(4,J yZ),(5,.pp [sm ai.av aQ.aC] 0),(14,.sl (List.map aa.av (Sh.set wh (Sh.len gz) yx)))]) (H':=.empty) ⟨.k,⟨(sm ak.av dB),Z,.sm⟩,.k,.k,⟨_,Z,.Sv Z Z (by simp[]) (by simp)⟩,trivial⟩) ?_);refine az fun IT gV=>b5 (fl 10 [] []) (by kernel_rfl) (by kernel_rfl) Z ?_;refine bQ (af.av aQ) Z Z Z eS Z<|aS aL 5 [68,69,70,71,72,73] Z ?_;refine aJ Z (fun _=>bA Z Z Z Z)<|Sh.bd h fun yB QZ h=>aJ (r:=J yB) Z (fun _=>aK Z Z (by simp) (yQ QZ))<|Sh.bd h fun DP Q0 h=>aJ (r:=bl DP) Z (fun _=>aK Z Z (by simp) (ih Q0))<|bP [76] Z<|bt Z<|bw ?_;refine gV _ (Y (U [16] Z) ?_);refine aM aL 2 [10] Z ?_;cases h;exact aA rk
theorem Bd:∀(n:Nat) {aQ:af} {bf:Int} {gz:List aa} {dB:List ak} {yZ:Int} {r:Bool},jC n aQ bf gz dB yZ=some r→F1 W0 75 [af.av aQ,J bf,sm aa.av gz,sm ak.av dB,J yZ] (bl r):=by
 intro n
 induction n with
 |zero=>intro _ _ _ _ _ _ h;cases h
 |succ n ih=>intro _ _ _ _ _ _ h;exact Ey.two (zO ih h) (by simp)
theorem CS{aQ bf gz dB yZ r}(h:vg aQ bf gz dB yZ=some r):F1 W0 75 [af.av aQ,J bf,sm aa.av gz,sm ak.av dB,J yZ] (bl r):=Bd _ h


theorem CQ{aQ bf gz dB r}(h:pU aQ bf gz dB=some r):F1 W0 39 [af.av aQ,J bf,sm aa.av gz,sm ak.av dB] (bl r):=by
 refine cB Tryz.func39 Tryz.ntmps39 ?_;unfold pU at h;refine sr Z fun K1 eB=>E (r:=.ref 0 0 0) Z (bI 1 [af.av aQ] Z Z Z (.inl ⟨Z,Z⟩))<|O Z<|ah<|eB _ (Y (aU.eo (fr':=[(1,J bf),(2,sm aa.av gz),(3,sm ak.av dB),(4,.pp [sm ai.av aQ.aC] 0)])) ?_);refine sr Z fun K2 b7=>bD (af.av aQ) Z Z Z eS Z<|Sh.bd h fun r9 Tt h=>E (r:=bl r9) Z (aK Z Z (by simp) (fo Tt))<|aG aL b7 1 [1,2,3,4,9] Z ?_;refine sr Z fun K3 dZ=>O Z<|Sh.bd h fun Ll OV h=>E (r:=bl Ll) Z (aK Z Z (by simp) (FA OV))<|aG aL dZ 1 [1,2,3,4,9,10] Z ?_;refine az fun K4 gB=>aO (fun(p:Bool)=>⟨[(1,J bf),(2,sm aa.av gz),(3,sm ak.av dB),(4,.pp [sm ai.av aQ.aC] 0),(29,bl p)],.empty⟩) (fun p=>dL aQ bf gz dB p=some r) ?_ ?_
 ·rintro v19 h;unfold dL at h;refine aT Z h (fun h=> ?_) (fun h=> ?_)
  ·refine aM aL 1 [8] Z ?_;cases h;exact aA rk
  ·refine aD<|gB _ (Y (U [1,2,3,4] Z) ?_);refine sr Z fun K6 eE=>bD (af.av aQ) Z Z Z eS Z<|aB aL 2 [3,30,31,32] Z ?_;refine O Z<|Sh.bd h fun yA Le h=>E (r:=bl yA) Z (aK Z Z (by simp) (CS Le))<|aG aL eE 1 [11] Z ?_;refine aM aL 2 [8] Z ?_;cases h;exact aA rk
 ·intro K8 gd;refine aW Z<|aB aL 3 [1,2,3,4,10,18] Z ?_;cases Vc:(!r9)
  ·replace h:=b_ h Vc;refine aB aL 3 [1,2,3,4,21] Z ?_;refine O Z ?_;cases Vd:(!Ll)
   ·replace h:=b_ h Vd;refine aB aL 2 [1,2,3,4,22,24] Z ?_;refine O Z ?_;cases Ve:(decide (bf≠0))
    ·replace h:=b_ h Ve;refine aB aL 4 [1,2,3,4,29] Z ?_;refine ah ?_;exact gd false _ h (U [1,2,3,4,29] Z)
    ·replace h:=cg h Ve;refine aB aL 4 [1,2,3,4,29] Z ?_;refine ah ?_;exact gd (decide (bf≠1)) _ h (U [1,2,3,4,29] Z)
   ·replace h:=cg h Vd;refine aB aL 7 [1,2,3,4,29] Z ?_;refine ah ?_;exact gd true _ h (U [1,2,3,4,29] Z)
  ·replace h:=cg h Vc;refine aB aL 11 [1,2,3,4,29] Z ?_;refine ah ?_;exact gd true _ h (U [1,2,3,4,29] Z)

end Wk
