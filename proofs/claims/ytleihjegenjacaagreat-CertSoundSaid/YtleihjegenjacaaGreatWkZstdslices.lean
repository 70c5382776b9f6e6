/- That the functions of a package do what their plain functions say. -/
import Derived.Test.YtleihjegenjacaaGreatWkZFacts
open Go Go.Av Go.Proofs G Go.Sh Go.Av.Sh
set_option linter.unusedVariables false
set_option maxHeartbeats 8000000
set_option maxRecDepth 20000
namespace Wk
theorem lD{W0:World}(hT:dc W0){b7:List Int}{r:Unit}(h:iB b7=some r):qy Tryz.prog (.pinned W0 0) 57 [sm J b7] .empty (.bI (.func 93) [.pp [sm J b7] 0]) .empty:=by
 refine dO Z Tryz.func57 Z (by kernel_rfl) Tryz.ntmps57 (by simp) ?_;unfold iB at h;show ec _ _ _ _ ⟨[(0,sm J b7)],.empty⟩ _;refine sr Z fun K1 c4=>E (r:=.ref 0 0 0) Z (bP 1 [sm J b7] Z Z Z (.inl ⟨Z,Z⟩))<|O Z<|an<|c4 _ (Y (bq.e (fr':=[(1,.pp [sm J b7] 0)]) (H':=.empty) ⟨⟨_,Z,.ee Z Z Z Z (by simp)⟩,trivial⟩) ?_);refine sr Z fun K2 cT=>E (r:=.bI (.func 93) [.pp [sm J b7] 0]) Z (eW Z Z)<|O Z<|aH cT [2] Z ?_;refine aL ?_;obtain rfl:=D h;exact⟨.inr Z,.bI (.func 93) [.pp [sm J b7] 0],Z,bq.e ⟨⟨.bI (.func 93) [.pp [sm J b7] 0],Z,.sm⟩,trivial⟩⟩


theorem yK{W0:World}(hT:dc W0){b7:List Int}{uD:Int}{r:Int}(h:jy b7 uD=some r):dX Tryz.prog W0 63 [sm J b7,J uD] (J r) .empty:=by
 refine aU Tryz.func63 Z (by kernel_rfl) Tryz.ntmps63 (by simp) ?_;unfold jy at h;show ec _ _ _ _ ⟨[(0,sm J b7),(1,J uD)],.empty⟩ _;refine sr Z fun K1 c4=>O Z<|aH c4 [0,1] Z ?_;refine aX (fun(p:Unit)=>⟨[],.empty⟩) (fun p=>mz=some r) ?_ ?_
 ·rintro⟨⟩ h;unfold mz at h;refine sr Z fun K2 cT=>O Z<|an<|cT _ ?_;refine aL ?_;obtain rfl:=D h;exact⟨.inr Z,J (-1),Z,bq.e ⟨.k,trivial⟩⟩
 ·intro K3 eN;refine sr Z fun K4 e_=>O Z<|E Z (bg J b7 Z Z dH)<|O Z<|aH e_ [0,1,7,8] Z ?_;refine aI<|bG (fun(p:Int)=>jA b7 uD p) (fun p=>⟨[(0,sm J b7),(1,J uD),(7,J (Sh.len b7)),(8,J p)],.empty⟩) h (U [0,1,7,8] Z) ?_
  ·rintro v22 o1 h fe;unfold jA at h;refine sr Z fun K5 eV=>E Z (bE Z Z Z)<|an<|eV _ ?_;refine aD fun K6 fN=>a_ Z h (fun h=> ?_) (fun h=> ?_)
   ·refine aM<|fN _ (Y (U [0,1,7,8] Z) ?_);refine aD fun K7 gx=>aI<|sr Z fun K8 gT=>O Z<|O Z<|aH gT [0,1,7,8,5] Z ?_;refine sr Z fun K9 iC=>O Z<|O Z<|O Z<|V [0,1,7,8,5,11,12,13] Z ?_;obtain⟨Kd,OM,h⟩:=ai h;obtain⟨k29,OD,OG⟩:=aV OM;refine E Z (aR J b7 OD OG Z Z Z dH Z)<|aT (J Kd) Z Z Z dS Z<|E (r:=bl (decide (uD=Kd))) Z (dP Z Z Z)<|aH iC [0,1,7,8,5,16] Z ?_;refine a_ Z h (fun h=> ?_) (fun h=> ?_)
    ·refine sr Z fun tR dD=>O Z<|O Z<|aH dD [4] Z ?_;refine aL ?_;replace h:=bp h fe;obtain rfl:=D h;exact⟨.inr Z,J v22,Z,bq.e ⟨.k,trivial⟩⟩
    ·refine aM<|gx _ (Y (U [0,1,7,8] Z) ?_);refine bf Z<|E Z (bK Z Z Z Z)<|O Z<|an ?_;replace h:=bO h;exact⟨_,h,U [0,1,7,8] Z⟩
   ·refine bz ?_;replace h:=bp h fe;exact eN () _ h (U [] Z)
theorem zw{W0:World}(hT:dc W0){b7:List Int}{uD:Int}{r:Int}(h:jy b7 uD=some r):bW Tryz.prog W0 63 [sm J b7,J uD] (J r):=bW.two (yK hT h) (by simp)


theorem wA{W0:World}(hT:dc W0){b7:List Int}{uD:Int}{r:Bool}(h:dG b7 uD=some r):dX Tryz.prog W0 95 [sm J b7,J uD] (bl r) .empty:=by
 refine aU Tryz.func95 Z (by kernel_rfl) Tryz.ntmps95 (by simp) ?_;unfold dG at h;show ec _ _ _ _ ⟨[(0,sm J b7),(1,J uD)],.empty⟩ _;refine sr Z fun K1 c4=>O Z<|aH c4 [0,1] Z ?_;refine sr Z fun K2 cT=>O Z<|O Z ?_;obtain⟨r3,AW,h⟩:=ai h;refine E (r:=J r3) Z (aZ Z Z (by simp) (zw hT AW))<|V [7] Z<|E Z (gI Z Z Z)<|O Z<|aH cT [4] Z ?_;refine aL ?_;obtain rfl:=D h;exact⟨.inr Z,bl (decide ((0:Int)≤r3)),Z,bq.e ⟨.k,trivial⟩⟩
theorem gP{W0:World}(hT:dc W0){b7:List Int}{uD:Int}{r:Bool}(h:dG b7 uD=some r):bW Tryz.prog W0 95 [sm J b7,J uD] (bl r):=bW.two (wA hT h) (by simp)


theorem sX{W0:World}(hT:dc W0){b7:List Int}{r:List Int}(h:pJ b7=some r):dX Tryz.prog W0 37 [sm J b7] (.view 0 0 (List.map J r).length) ⟨1,[(0,(1,List.map J r))],[]⟩:=by
 refine aU Tryz.func37 Z (by kernel_rfl) Tryz.ntmps37 (by simp) ?_;replace h:Sh.app 8 [] b7=some r:=h;show ec _ _ _ _ ⟨[(0,sm J b7)],.empty⟩ _;refine sr Z fun K1 c4=>O Z<|aH c4 [0] Z ?_;refine aD fun K2 cT=>aD fun K3 eN=>Qz (es:=List.map J b7) Z Z Z Z Z Z (by decide) (by decide) Tryz.underlying25 Z (fun b hb=> ?_);refine eN _ (Y (U [0,4] Z) ?_);refine wL Z (fun hc=> ?_) (fun hc=> ?_)
 ·obtain rfl:b7=[]:=by simpa using hb hc
  obtain rfl:r=[]:=by simpa using (Bu h).2
  refine sr Z fun K4 e_=>O Z<|aH e_ [2] Z ?_;refine aL<|⟨.inr Z,aN,Z, ?_⟩;exact aB [] [0] Z Z Z (.fresh (by simp) dt trivial) ⟨⟨_,Z,.nil (by simp)⟩,trivial⟩
 ·refine aM<|cT _ (Y (U [0] Z) ?_);refine sr Z fun K5 eV=>E (r:=.clip []) Z (bB Z (xo:=[]) Z Z Z (by simp) (by simp) dH Bk (by decide))<|O Z<|E (r:=.view 0 0 (List.map J r).length) Z (NT b7 r h AU (fun _=>Z) Z Z Z Z Z)<|O Z<|aH eV [2] Z ?_;refine aL<|⟨.inr Z,.view 0 0 (List.map J r).length,Z, ?_⟩;exact aB [(0,0)] [] Z Z Z (.cons Z Z (.same (by simp)) dt trivial) ⟨⟨_,Z,.view Z⟩,trivial⟩
theorem zu{W0:World}(hT:dc W0){b7:List Int}{r:List Int}(h:pJ b7=some r):bW Tryz.prog W0 37 [sm J b7] (sm J r):=
 (sX hT h).yu (bq.e ⟨⟨_,Z,.dn Z Z (by simp)⟩,trivial⟩) (by simp)


theorem tr{W0:World}(hT:dc W0){qw:List ak}{sH:List ak}{r:Bool}(h:eT qw sH=some r):dX Tryz.prog W0 52 [sm ak.av qw,sm ak.av sH] (bl r) .empty:=by
 refine aU Tryz.func52 Z (by kernel_rfl) Tryz.ntmps52 (by simp) ?_;unfold eT at h;show ec _ _ _ _ ⟨[(0,sm ak.av qw),(1,sm ak.av sH)],.empty⟩ _;refine sr Z fun K1 c4=>O Z<|aH c4 [0,1] Z ?_;refine aD fun K2 cT=>sr Z fun K3 eN=>O Z<|E Z (bg ak.av qw Z Z p7)<|O Z<|V [0,1,7,8] Z<|E Z (bg ak.av sH Z Z p7) ?_;refine E (r:=bl (decide ((Sh.len qw)≠(Sh.len sH)))) Z (fG Z Z Z)<|aH eN [0,1,10] Z ?_;refine a_ Z h (fun h=> ?_) (fun h=> ?_)
 ·refine sr Z fun K4 e_=>O Z<|aH e_ [4] Z ?_;refine aL ?_;obtain rfl:=D h;exact⟨.inr Z,bl false,Z,bq.e ⟨.k,trivial⟩⟩
 ·refine aM<|cT _ (Y (U [0,1] Z) ?_);refine aX (fun(p:Unit)=>⟨[],.empty⟩) (fun p=>gl=some r) ?_ ?_
  ·rintro⟨⟩ h;unfold gl at h;refine sr Z fun K5 eV=>O Z<|an<|eV _ ?_;refine aL ?_;obtain rfl:=D h;exact⟨.inr Z,bl true,Z,bq.e ⟨.k,trivial⟩⟩
  ·intro K6 fN;refine sr Z fun K7 gx=>O Z<|E Z (bg ak.av qw Z Z p7)<|O Z<|aH gx [0,1,12,13] Z ?_;refine aI<|bG (fun(p:Int)=>ew qw sH p) (fun p=>⟨[(0,sm ak.av qw),(1,sm ak.av sH),(12,J (Sh.len qw)),(13,J p)],.empty⟩) h (U [0,1,12,13] Z) ?_
   ·rintro v39 o1 h fe;unfold ew at h;refine sr Z fun K8 gT=>E Z (bE Z Z Z)<|an<|gT _ ?_;refine aD fun K9 iC=>a_ Z h (fun h=> ?_) (fun h=> ?_)
    ·refine aM<|iC _ (Y (U [0,1,12,13] Z) ?_);refine aD fun tR dD=>aI<|sr Z fun xu eR=>O Z<|O Z<|aH eR [0,1,12,13,5] Z ?_;refine aD fun xy eX=>dK (List.replicate 9 (true,false)) (by kernel_rfl) (by kernel_rfl) Z ?_;refine aK Z<|aK Z ?_;obtain⟨Jw,ON,h⟩:=ai h;obtain⟨k50,OF,OI⟩:=aV ON;refine aP Z (fun _=>aR ak.av qw OF OI Z Z Z p7 Z)<|au [0,1,12,13,5,18] Z<|bF (ak.av Jw) Z Z Z Fk Z<|aK Z<|aK Z<|au [0,1,12,13,19,20,21] Z ?_;obtain⟨F2,KH,h⟩:=ai h;obtain⟨k52,KD,Je⟩:=aV KH;refine aP Z (fun _=>aR ak.av sH KD Je Z Z Z p7 Z)<|bF (ak.av F2) Z Z Z Fk Z<|aP (r:=bl (!decide (Jw=F2))) Z (fun _=>DH (a:=Jw) (b:=F2) Z Z Z)<|bS<|eX _ (Y (U [0,1,12,13,24] Z) ?_);refine a_ Z h (fun h=> ?_) (fun h=> ?_)
     ·refine sr Z fun yR fB=>O Z<|aH fB [4] Z ?_;refine aL ?_;replace h:=bp h fe;obtain rfl:=D h;exact⟨.inr Z,bl false,Z,bq.e ⟨.k,trivial⟩⟩
     ·refine aM<|dD _ (Y (U [0,1,12,13] Z) ?_);refine bf Z<|E Z (bK Z Z Z Z)<|O Z<|an ?_;replace h:=bO h;exact⟨_,h,U [0,1,12,13] Z⟩
    ·refine bz ?_;replace h:=bp h fe;exact fN () _ h (U [] Z)
theorem tP{W0:World}(hT:dc W0){qw:List ak}{sH:List ak}{r:Bool}(h:eT qw sH=some r):bW Tryz.prog W0 52 [sm ak.av qw,sm ak.av sH] (bl r):=bW.two (tr hT h) (by simp)


theorem yJ{W0:World}(hT:dc W0){qw:List Int}{sH:List Int}{r:Bool}(h:jx qw sH=some r):dX Tryz.prog W0 88 [sm J qw,sm J sH] (bl r) .empty:=by
 refine aU Tryz.func88 Z (by kernel_rfl) Tryz.ntmps88 (by simp) ?_;unfold jx at h;show ec _ _ _ _ ⟨[(0,sm J qw),(1,sm J sH)],.empty⟩ _;refine sr Z fun K1 c4=>O Z<|aH c4 [0,1] Z ?_;refine aD fun K2 cT=>sr Z fun K3 eN=>O Z<|E Z (bg J qw Z Z dH)<|O Z<|V [0,1,7,8] Z<|E Z (bg J sH Z Z dH) ?_;refine E (r:=bl (decide ((Sh.len qw)≠(Sh.len sH)))) Z (fG Z Z Z)<|aH eN [0,1,10] Z ?_;refine a_ Z h (fun h=> ?_) (fun h=> ?_)
 ·refine sr Z fun K4 e_=>O Z<|aH e_ [4] Z ?_;refine aL ?_;obtain rfl:=D h;exact⟨.inr Z,bl false,Z,bq.e ⟨.k,trivial⟩⟩
 ·refine aM<|cT _ (Y (U [0,1] Z) ?_);refine aX (fun(p:Unit)=>⟨[],.empty⟩) (fun p=>mw=some r) ?_ ?_
  ·rintro⟨⟩ h;unfold mw at h;refine sr Z fun K5 eV=>O Z<|an<|eV _ ?_;refine aL ?_;obtain rfl:=D h;exact⟨.inr Z,bl true,Z,bq.e ⟨.k,trivial⟩⟩
  ·intro K6 fN;refine sr Z fun K7 gx=>O Z<|E Z (bg J qw Z Z dH)<|O Z<|aH gx [0,1,12,13] Z ?_;refine aI<|bG (fun(p:Int)=>gH qw sH p) (fun p=>⟨[(0,sm J qw),(1,sm J sH),(12,J (Sh.len qw)),(13,J p)],.empty⟩) h (U [0,1,12,13] Z) ?_
   ·rintro v39 o1 h fe;unfold gH at h;refine sr Z fun K8 gT=>E Z (bE Z Z Z)<|an<|gT _ ?_;refine aD fun K9 iC=>a_ Z h (fun h=> ?_) (fun h=> ?_)
    ·refine aM<|iC _ (Y (U [0,1,12,13] Z) ?_);refine aD fun tR dD=>aI<|sr Z fun xu eR=>O Z<|O Z<|aH eR [0,1,12,13,5] Z ?_;refine aD fun xy eX=>dK (List.replicate 9 (true,false)) (by kernel_rfl) (by kernel_rfl) Z ?_;refine aK Z<|aK Z ?_;obtain⟨Jw,ON,h⟩:=ai h;obtain⟨k50,OF,OI⟩:=aV ON;refine aP Z (fun _=>aR J qw OF OI Z Z Z dH Z)<|au [0,1,12,13,5,18] Z<|bF (J Jw) Z Z Z dS Z<|aK Z<|aK Z<|au [0,1,12,13,19,20,21] Z ?_;obtain⟨F2,KH,h⟩:=ai h;obtain⟨k52,KD,Je⟩:=aV KH;refine aP Z (fun _=>aR J sH KD Je Z Z Z dH Z)<|bF (J F2) Z Z Z dS Z<|aP (r:=bl (decide (Jw≠F2))) Z (fun _=>fG Z Z Z)<|bS<|eX _ (Y (U [0,1,12,13,24] Z) ?_);refine a_ Z h (fun h=> ?_) (fun h=> ?_)
     ·refine sr Z fun yR fB=>O Z<|aH fB [4] Z ?_;refine aL ?_;replace h:=bp h fe;obtain rfl:=D h;exact⟨.inr Z,bl false,Z,bq.e ⟨.k,trivial⟩⟩
     ·refine aM<|dD _ (Y (U [0,1,12,13] Z) ?_);refine bf Z<|E Z (bK Z Z Z Z)<|O Z<|an ?_;replace h:=bO h;exact⟨_,h,U [0,1,12,13] Z⟩
    ·refine bz ?_;replace h:=bp h fe;exact fN () _ h (U [] Z)
theorem zv{W0:World}(hT:dc W0){qw:List Int}{sH:List Int}{r:Bool}(h:jx qw sH=some r):bW Tryz.prog W0 88 [sm J qw,sm J sH] (bl r):=bW.two (yJ hT h) (by simp)


theorem sD{W0:World}(hT:dc W0){b7:List aa}{uD:aa}{r:Int}(h:e8 b7 uD=some r):dX Tryz.prog W0 214 [sm aa.av b7,aa.av uD] (J r) .empty:=by
 refine aU Tryz.func214 Z (by kernel_rfl) Tryz.ntmps214 (by simp) ?_;unfold e8 at h;show ec _ _ _ _ ⟨[(0,sm aa.av b7),(1,aa.av uD)],.empty⟩ _;refine sr Z fun K1 c4=>E (r:=.ref 0 0 0) Z (bP 3 [aa.av uD] Z Z Z (.inl ⟨Z,Z⟩))<|O Z<|an<|c4 _ (Y (bq.e (fr':=[(0,sm aa.av b7),(3,.pp [J uD.Key,J uD.A,J uD.B] 0)]) (H':=.empty) ⟨⟨(sm aa.av b7),Z,.sm⟩,⟨_,Z,.ee Z Z Z Z (by simp)⟩,trivial⟩) ?_);refine aX (fun(p:Unit)=>⟨[],.empty⟩) (fun p=>fJ=some r) ?_ ?_
 ·rintro⟨⟩ h;unfold fJ at h;refine sr Z fun K2 cT=>O Z<|an<|cT _ ?_;refine aL ?_;obtain rfl:=D h;exact⟨.inr Z,J (-1),Z,bq.e ⟨.k,trivial⟩⟩
 ·intro K3 eN;refine sr Z fun K4 e_=>O Z<|E Z (bg aa.av b7 Z Z Xx)<|O Z<|aH e_ [0,3,7,8] Z ?_;refine aI<|bG (fun(p:Int)=>eF b7 uD p) (fun p=>⟨[(0,sm aa.av b7),(3,.pp [J uD.Key,J uD.A,J uD.B] 0),(7,J (Sh.len b7)),(8,J p)],.empty⟩) h (U [0,3,7,8] Z) ?_
  ·rintro v22 o1 h fe;unfold eF at h;refine sr Z fun K5 eV=>E Z (bE Z Z Z)<|an<|eV _ ?_;refine aD fun K6 fN=>a_ Z h (fun h=> ?_) (fun h=> ?_)
   ·refine aM<|fN _ (Y (U [0,3,7,8] Z) ?_);refine aD fun K7 gx=>aI<|sr Z fun K8 gT=>O Z<|O Z<|aH gT [0,3,7,8,5] Z ?_;refine aD fun K9 iC=>dK (List.replicate 6 (true,false)) (by kernel_rfl) (by kernel_rfl) Z ?_;refine bF (aa.av uD) Z Z Z As Z<|aK Z<|aK Z<|au [0,3,7,8,5,11,12,13] Z ?_;obtain⟨Kd,OM,h⟩:=ai h;obtain⟨k29,OD,OG⟩:=aV OM;refine aP Z (fun _=>aR aa.av b7 OD OG Z Z Z Xx Z)<|bF (aa.av Kd) Z Z Z As Z<|aP (r:=bl (decide (uD=Kd))) Z (fun _=>AL (a:=uD) (b:=Kd) Z Z Z)<|bS<|iC _ (Y (U [0,3,7,8,5,16] Z) ?_);refine a_ Z h (fun h=> ?_) (fun h=> ?_)
    ·refine sr Z fun tR dD=>O Z<|O Z<|aH dD [4] Z ?_;refine aL ?_;replace h:=bp h fe;obtain rfl:=D h;exact⟨.inr Z,J v22,Z,bq.e ⟨.k,trivial⟩⟩
    ·refine aM<|gx _ (Y (U [0,3,7,8] Z) ?_);refine bf Z<|E Z (bK Z Z Z Z)<|O Z<|an ?_;replace h:=bO h;exact⟨_,h,U [0,3,7,8] Z⟩
   ·refine bz ?_;replace h:=bp h fe;exact eN () _ h (U [] Z)
theorem sJ{W0:World}(hT:dc W0){b7:List aa}{uD:aa}{r:Int}(h:e8 b7 uD=some r):bW Tryz.prog W0 214 [sm aa.av b7,aa.av uD] (J r):=bW.two (sD hT h) (by simp)


theorem qW{W0:World}(hT:dc W0){b7:List aa}{uD:aa}{r:Bool}(h:dR b7 uD=some r):dX Tryz.prog W0 213 [sm aa.av b7,aa.av uD] (bl r) .empty:=by
 refine aU Tryz.func213 Z (by kernel_rfl) Tryz.ntmps213 (by simp) ?_;unfold dR at h;show ec _ _ _ _ ⟨[(0,sm aa.av b7),(1,aa.av uD)],.empty⟩ _;refine sr Z fun K1 c4=>E (r:=.ref 0 0 0) Z (bP 3 [aa.av uD] Z Z Z (.inl ⟨Z,Z⟩))<|O Z<|an<|c4 _ (Y (bq.e (fr':=[(0,sm aa.av b7),(3,.pp [J uD.Key,J uD.A,J uD.B] 0)]) (H':=.empty) ⟨⟨(sm aa.av b7),Z,.sm⟩,⟨_,Z,.ee Z Z Z Z (by simp)⟩,trivial⟩) ?_);refine sr Z fun K2 cT=>O Z<|aT (aa.av uD) Z Z Z As Z ?_;obtain⟨r3,AW,h⟩:=ai h;refine E (r:=J r3) Z (aZ Z Z (by simp) (sJ hT AW))<|V [7] Z<|E Z (gI Z Z Z)<|O Z<|aH cT [4] Z ?_;refine aL ?_;obtain rfl:=D h;exact⟨.inr Z,bl (decide ((0:Int)≤r3)),Z,bq.e ⟨.k,trivial⟩⟩
theorem rA{W0:World}(hT:dc W0){b7:List aa}{uD:aa}{r:Bool}(h:dR b7 uD=some r):bW Tryz.prog W0 213 [sm aa.av b7,aa.av uD] (bl r):=bW.two (qW hT h) (by simp)


theorem sC{W0:World}(hT:dc W0){b7:List aa}{r:(List aa)}(h:eu b7=some r):dX Tryz.prog W0 105 [sm aa.av b7] (.clip (List.map aa.av r)) .empty:=by
 refine aU Tryz.func105 Z (by kernel_rfl) Tryz.ntmps105 (by simp) ?_;unfold eu at h;show ec _ _ _ _ ⟨[(0,sm aa.av b7)],.empty⟩ _;refine sr Z fun K1 c4=>O Z<|aH c4 [0] Z ?_;refine sr Z fun K2 cT=>O Z<|O Z<|E Z (bg aa.av b7 Z Z wU)<|V [0,3,5] Z<|O Z<|E Z (bg aa.av b7 Z Z wU) ?_;obtain⟨JW,Zi,h⟩:=ai h;refine E (r:=.clip (List.map aa.av JW)) Z (aaA aa.av b7 JW Zi (fun _=>Z) Z Z (.inl Z) Z Z wU)<|V [8] Z<|O Z<|aH cT [2] Z ?_;refine aL ?_;obtain rfl:=D h;exact⟨.inr Z,.clip (List.map aa.av JW),Z,bq.e ⟨⟨.clip (List.map aa.av JW),Z,.sm⟩,trivial⟩⟩
theorem sI{W0:World}(hT:dc W0){b7:List aa}{r:(List aa)}(h:eu b7=some r):bW Tryz.prog W0 105 [sm aa.av b7] (.clip (List.map aa.av r)):=bW.two (sC hT h) (by simp)

end Wk
