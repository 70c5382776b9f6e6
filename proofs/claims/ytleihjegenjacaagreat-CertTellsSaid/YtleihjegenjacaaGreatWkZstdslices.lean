/- That the functions of a package do what their plain functions say. -/
import Derived.Test.YtleihjegenjacaaGreatWkZFacts
open Go Go.Av Go.Proofs G Go.Sh Go.Av.Sh
set_option linter.unusedVariables false
set_option maxHeartbeats 8000000
set_option maxRecDepth 20000
namespace Wk
variable {W0:World}
theorem mq{b8 r}(h:fB b8=some r):F3 (.pinned W0 0) 57 [sm J b8] .empty (.bS (.func 93) [.pp [sm J b8] 0]) .empty:=by
 refine sJ Tryz.func57 Tryz.ntmps57 ?_;unfold fB at h;refine sr Z fun K1 eB=>E (r:=.ref 0 0 0) Z (bI 1 [sm J b8] Z Z Z (.inl ⟨Z,Z⟩))<|O Z<|ah<|eB _ (Y (aU.eo (fr':=[(1,.pp [sm J b8] 0)])) ?_);refine sr Z fun K2 b7=>E (r:=.bS (.func 93) [.pp [sm J b8] 0]) Z (eR Z Z)<|aG aL b7 1 [2] Z ?_;cases h;exact aA rk


theorem By{b8 BC r}(h:nB b8 BC=some r):F1 W0 63 [sm J b8,J BC] (J r):=by
 refine cB Tryz.func63 Tryz.ntmps63 ?_;unfold nB at h;refine aM aL 1 [0,1] Z ?_;refine aO (fun(p:Unit)=>⟨[],.empty⟩) (fun p=>nT=some r) ?_ ?_
 ·rintro⟨⟩ h;unfold nT at h;refine sr Z fun K2 b7=>O Z<|ah<|b7 _ ?_;cases h;exact aA rk
 ·intro K3 dZ;refine sr Z fun K4 gB=>O Z<|E Z (aX J b8 Z Z bX)<|aG aL gB 1 [0,1,7,8] Z ?_;refine aF<|bq (fun(p:Int)=>jJ b8 BC p) (fun p=>⟨[(0,sm J b8),(1,J BC),(7,J (Sh.len b8)),(8,J p)],.empty⟩) h (U [0,1,7,8] Z) ?_
  ·rintro v22 o1 h dM;unfold jJ at h;refine sr Z fun K5 ec=>E Z (dD Z Z Z)<|ah<|ec _ ?_;refine az fun K6 eE=>aT Z h (fun h=> ?_) (fun h=> ?_)
   ·refine aD<|eE _ (Y (U [0,1,7,8] Z) ?_);refine az fun K7 f_=>aF<|aM aL 2 [0,1,7,8,5] Z ?_;refine sr Z fun K9 gU=>aB aL 3 [0,1,7,8,5,11,12,13] Z ?_;refine Sh.bi h fun HS k29 Hq Hu h=>E Z (aH J b8 Hq Hu Z Z Z bX Z)<|aG aL gU 2 [0,1,7,8,5,16] Z ?_;refine aT Z h (fun h=> ?_) (fun h=> ?_)
    ·refine aM aL 2 [4] Z ?_;replace h:=aZ h dM;cases h;exact aA rk
    ·refine aD<|f_ _ (Y (U [0,1,7,8] Z) ?_);refine aW Z<|E Z (bA Z Z Z Z)<|O Z<|ah ?_;replace h:=bE h;exact⟨_,h,U [0,1,7,8] Z⟩
   ·refine bp ?_;replace h:=aZ h dM;exact dZ () _ h (U [] Z)


theorem gR{b8 BC r}(h:dJ b8 BC=some r):F1 W0 95 [sm J b8,J BC] (bl r):=by
 refine cB Tryz.func95 Tryz.ntmps95 ?_;unfold dJ at h;refine aM aL 1 [0,1] Z ?_;refine sr Z fun K2 b7=>O Z<|O Z<|Sh.bd h fun r3 CA h=>E (r:=J r3) Z (aK Z Z (by simp) (By CA))<|aG aL b7 2 [4] Z ?_;cases h;exact aA rk


theorem uZ{b8 r}(h:jH b8=some r):F2 W0 37 [sm J b8] (.view 0 0 (List.map J r).length) ⟨1,[(0,(1,List.map J r))],[]⟩:=by
 refine kn Tryz.func37 Tryz.ntmps37 ?_;replace h:Sh.app 8 [] b8=some r:=h;refine aM aL 1 [0] Z ?_;refine az fun K2 b7=>az fun K3 dZ=>S_ (es:=List.map J b8) Z Z Z Z Z Z (by decide) (by decide) Tryz.underlying25 Z (fun b hb=> ?_);refine dZ _ (Y (U [0,4] Z) ?_);refine zz Z (fun hc=> ?_) (fun hc=> ?_)
 ·obtain rfl:b8=[]:=by simpa using hb hc
  obtain rfl:r=[]:=by simpa using (Dc h).2
  refine aM aL 1 [2] Z ?_;refine aA<|⟨.inr Z,aV,Z, ?_⟩;exact aU.ra [] [0]
 ·refine aD<|b7 _ (Y (U [0] Z) ?_);refine sr Z fun K5 ec=>E (r:=.clip []) Z (bu Z (xo:=[]) Z Z Z (by simp) (by simp) bX wP (by decide))<|O Z<|E (r:=.view 0 0 (List.map J r).length) Z (P5 b8 r h vK (fun _=>Z) Z Z Z Z Z)<|aG aL ec 1 [2] Z ?_;refine aA<|⟨.inr Z,.view 0 0 (List.map J r).length,Z, ?_⟩;exact aU.ra [(0,0)] []
theorem Bw{b8 r}(h:jH b8=some r):F1 W0 37 [sm J b8] (sm J r):=
 (uZ h).wR (aU.ra [] []) (by simp)


theorem vN{wD zX r}(h:fH wD zX=some r):F1 W0 52 [sm an.av wD,sm an.av zX] (bl r):=by
 refine cB Tryz.func52 Tryz.ntmps52 ?_;unfold fH at h;refine aM aL 1 [0,1] Z ?_;refine az fun K2 b7=>sr Z fun K3 dZ=>O Z<|E Z (aX an.av wD Z Z qA)<|aB aL 1 [0,1,7,8] Z ?_;refine E Z (aX an.av zX Z Z qA)<|aG aL dZ 1 [0,1,10] Z ?_;refine aT Z h (fun h=> ?_) (fun h=> ?_)
 ·refine aM aL 1 [4] Z ?_;cases h;exact aA rk
 ·refine aD<|b7 _ (Y (U [0,1] Z) ?_);refine aO (fun(p:Unit)=>⟨[],.empty⟩) (fun p=>gf=some r) ?_ ?_
  ·rintro⟨⟩ h;unfold gf at h;refine sr Z fun K5 ec=>O Z<|ah<|ec _ ?_;cases h;exact aA rk
  ·intro K6 eE;refine sr Z fun K7 f_=>O Z<|E Z (aX an.av wD Z Z qA)<|aG aL f_ 1 [0,1,12,13] Z ?_;refine aF<|bq (fun(p:Int)=>dS wD zX p) (fun p=>⟨[(0,sm an.av wD),(1,sm an.av zX),(12,J (Sh.len wD)),(13,J p)],.empty⟩) h (U [0,1,12,13] Z) ?_
   ·rintro v39 o1 h dM;unfold dS at h;refine sr Z fun K8 gd=>E Z (dD Z Z Z)<|ah<|gd _ ?_;refine az fun K9 gU=>aT Z h (fun h=> ?_) (fun h=> ?_)
    ·refine aD<|gU _ (Y (U [0,1,12,13] Z) ?_);refine az fun vQ dh=>aF<|aM aL 2 [0,1,12,13,5] Z ?_;refine az fun Am eV=>b5 (fl 9 [] []) (by kernel_rfl) (by kernel_rfl) Z ?_;refine bt Z<|bt Z<|Sh.bi h fun Qm k50 QU QW h=>aJ Z (fun _=>aH an.av wD QU QW Z Z Z qA Z)<|bP [0,1,12,13,5,18] Z<|bQ (an.av Qm) Z Z Z EW Z<|aS aL 2 [0,1,12,13,19,20,21] Z ?_;refine Sh.bi h fun KW k52 M5 Lc h=>aJ Z (fun _=>aH an.av zX M5 Lc Z Z Z qA Z)<|bQ (an.av KW) Z Z Z EW Z<|aJ (r:=bl (!decide (Qm=KW))) Z (fun _=>Fc (a:=Qm) (b:=KW) Z Z Z)<|bw<|eV _ (Y (U [0,1,12,13,24] Z) ?_);refine aT Z h (fun h=> ?_) (fun h=> ?_)
     ·refine aM aL 1 [4] Z ?_;replace h:=aZ h dM;cases h;exact aA rk
     ·refine aD<|dh _ (Y (U [0,1,12,13] Z) ?_);refine aW Z<|E Z (bA Z Z Z Z)<|O Z<|ah ?_;replace h:=bE h;exact⟨_,h,U [0,1,12,13] Z⟩
    ·refine bp ?_;replace h:=aZ h dM;exact eE () _ h (U [] Z)


theorem Bx{wD zX r}(h:nA wD zX=some r):F1 W0 88 [sm J wD,sm J zX] (bl r):=by
 refine cB Tryz.func88 Tryz.ntmps88 ?_;unfold nA at h;refine aM aL 1 [0,1] Z ?_;refine az fun K2 b7=>sr Z fun K3 dZ=>O Z<|E Z (aX J wD Z Z bX)<|aB aL 1 [0,1,7,8] Z ?_;refine E Z (aX J zX Z Z bX)<|aG aL dZ 1 [0,1,10] Z ?_;refine aT Z h (fun h=> ?_) (fun h=> ?_)
 ·refine aM aL 1 [4] Z ?_;cases h;exact aA rk
 ·refine aD<|b7 _ (Y (U [0,1] Z) ?_);refine aO (fun(p:Unit)=>⟨[],.empty⟩) (fun p=>nS=some r) ?_ ?_
  ·rintro⟨⟩ h;unfold nS at h;refine sr Z fun K5 ec=>O Z<|ah<|ec _ ?_;cases h;exact aA rk
  ·intro K6 eE;refine sr Z fun K7 f_=>O Z<|E Z (aX J wD Z Z bX)<|aG aL f_ 1 [0,1,12,13] Z ?_;refine aF<|bq (fun(p:Int)=>gJ wD zX p) (fun p=>⟨[(0,sm J wD),(1,sm J zX),(12,J (Sh.len wD)),(13,J p)],.empty⟩) h (U [0,1,12,13] Z) ?_
   ·rintro v39 o1 h dM;unfold gJ at h;refine sr Z fun K8 gd=>E Z (dD Z Z Z)<|ah<|gd _ ?_;refine az fun K9 gU=>aT Z h (fun h=> ?_) (fun h=> ?_)
    ·refine aD<|gU _ (Y (U [0,1,12,13] Z) ?_);refine az fun vQ dh=>aF<|aM aL 2 [0,1,12,13,5] Z ?_;refine az fun Am eV=>b5 (fl 9 [] []) (by kernel_rfl) (by kernel_rfl) Z ?_;refine bt Z<|bt Z<|Sh.bi h fun Qm k50 QU QW h=>aJ Z (fun _=>aH J wD QU QW Z Z Z bX Z)<|aS aL 3 [0,1,12,13,19,20,21] Z ?_;refine Sh.bi h fun KW k52 M5 Lc h=>aJ Z (fun _=>aH J zX M5 Lc Z Z Z bX Z)<|aS aL 2 [0,1,12,13,24] Z ?_;refine bw<|eV _ (Y (U [0,1,12,13,24] Z) ?_);refine aT Z h (fun h=> ?_) (fun h=> ?_)
     ·refine aM aL 1 [4] Z ?_;replace h:=aZ h dM;cases h;exact aA rk
     ·refine aD<|dh _ (Y (U [0,1,12,13] Z) ?_);refine aW Z<|E Z (bA Z Z Z Z)<|O Z<|ah ?_;replace h:=bE h;exact⟨_,h,U [0,1,12,13] Z⟩
    ·refine bp ?_;replace h:=aZ h dM;exact eE () _ h (U [] Z)


theorem uK{b8 BC r}(h:gi b8 BC=some r):F1 W0 214 [sm aa.av b8,aa.av BC] (J r):=by
 refine cB Tryz.func214 Tryz.ntmps214 ?_;unfold gi at h;refine sr Z fun K1 eB=>E (r:=.ref 0 0 0) Z (bI 3 [aa.av BC] Z Z Z (.inl ⟨Z,Z⟩))<|O Z<|ah<|eB _ (Y (aU.eo (fr':=[(0,sm aa.av b8),(3,.pp [J BC.Key,J BC.A,J BC.B] 0)])) ?_);refine aO (fun(p:Unit)=>⟨[],.empty⟩) (fun p=>fE=some r) ?_ ?_
 ·rintro⟨⟩ h;unfold fE at h;refine sr Z fun K2 b7=>O Z<|ah<|b7 _ ?_;cases h;exact aA rk
 ·intro K3 dZ;refine sr Z fun K4 gB=>O Z<|E Z (aX aa.av b8 Z Z aaM)<|aG aL gB 1 [0,3,7,8] Z ?_;refine aF<|bq (fun(p:Int)=>er b8 BC p) (fun p=>⟨[(0,sm aa.av b8),(3,.pp [J BC.Key,J BC.A,J BC.B] 0),(7,J (Sh.len b8)),(8,J p)],.empty⟩) h (U [0,3,7,8] Z) ?_
  ·rintro v22 o1 h dM;unfold er at h;refine sr Z fun K5 ec=>E Z (dD Z Z Z)<|ah<|ec _ ?_;refine az fun K6 eE=>aT Z h (fun h=> ?_) (fun h=> ?_)
   ·refine aD<|eE _ (Y (U [0,3,7,8] Z) ?_);refine az fun K7 f_=>aF<|aM aL 2 [0,3,7,8,5] Z ?_;refine az fun K9 gU=>b5 (fl 6 [] []) (by kernel_rfl) (by kernel_rfl) Z ?_;refine bQ (aa.av BC) Z Z Z xB Z<|aS aL 2 [0,3,7,8,5,11,12,13] Z ?_;refine Sh.bi h fun HS k29 Hq Hu h=>aJ Z (fun _=>aH aa.av b8 Hq Hu Z Z Z aaM Z)<|bQ (aa.av HS) Z Z Z xB Z<|aJ (r:=bl (decide (BC=HS))) Z (fun _=>u_ (a:=BC) (b:=HS) Z Z Z)<|bw<|gU _ (Y (U [0,3,7,8,5,16] Z) ?_);refine aT Z h (fun h=> ?_) (fun h=> ?_)
    ·refine aM aL 2 [4] Z ?_;replace h:=aZ h dM;cases h;exact aA rk
    ·refine aD<|f_ _ (Y (U [0,3,7,8] Z) ?_);refine aW Z<|E Z (bA Z Z Z Z)<|O Z<|ah ?_;replace h:=bE h;exact⟨_,h,U [0,3,7,8] Z⟩
   ·refine bp ?_;replace h:=aZ h dM;exact dZ () _ h (U [] Z)


theorem tV{b8 BC r}(h:ef b8 BC=some r):F1 W0 213 [sm aa.av b8,aa.av BC] (bl r):=by
 refine cB Tryz.func213 Tryz.ntmps213 ?_;unfold ef at h;refine sr Z fun K1 eB=>E (r:=.ref 0 0 0) Z (bI 3 [aa.av BC] Z Z Z (.inl ⟨Z,Z⟩))<|O Z<|ah<|eB _ (Y (aU.eo (fr':=[(0,sm aa.av b8),(3,.pp [J BC.Key,J BC.A,J BC.B] 0)])) ?_);refine sr Z fun K2 b7=>O Z<|bD (aa.av BC) Z Z Z xB Z<|Sh.bd h fun r3 CA h=>E (r:=J r3) Z (aK Z Z (by simp) (uK CA))<|aG aL b7 2 [4] Z ?_;cases h;exact aA rk


theorem uJ{b8 r}(h:eW b8=some r):F1 W0 105 [sm aa.av b8] (.clip (List.map aa.av r)):=by
 refine cB Tryz.func105 Tryz.ntmps105 ?_;unfold eW at h;refine aM aL 1 [0] Z ?_;refine sr Z fun K2 b7=>O Z<|O Z<|E Z (aX aa.av b8 Z Z vJ)<|V [0,3,5] Z<|O Z<|E Z (aX aa.av b8 Z Z vJ) ?_;refine Sh.bd h fun SH adT h=>E (r:=.clip (List.map aa.av SH)) Z (afm aa.av b8 SH adT (fun _=>Z) Z Z (.inl Z) Z Z vJ)<|aG aL b7 1 [2] Z ?_;cases h;exact aA rk

end Wk
