/- That the functions of a package do what their plain functions say. -/
import Derived.Test.YtleihjegenjacaaGreatWkZFacts
open Go Go.Av Go.Proofs G Go.Sh Go.Av.Sh
set_option linter.unusedVariables false
set_option maxHeartbeats 8000000
set_option maxRecDepth 20000
namespace Wk
variable {W0:World}
theorem zP{self:Int→Option ((List UInt8))}(ih:∀{yw:Int} {r:(List UInt8)},self yw=some r→F1 W0 65 [J yw] (eP r)){yw:Int}{r:(List UInt8)}(h:jE self yw=some r):F2 W0 65 [J yw] (eP r) .empty:=by
 refine kn Tryz.func65 Tryz.ntmps65 ?_;unfold jE at h;refine aM aL 1 [0] Z ?_;refine az fun K2 b7=>aM aL 2 [0,4] Z ?_;refine aT Z h (fun h=> ?_) (fun h=> ?_)
 ·refine sr Z fun K4 gB=>O Z<|E (r:=kA .u8 (IntKind.u8.wrap yw)) Z (xO Z Z Tryz.underlying3 Tryz.underlying5 Z)<|E (r:=.clip (List.map (kA .u8) [IntKind.u8.wrap yw])) Z (bu Z (xo:=[.tmp 6]) Z Z Z (by simp[AV.dH]) (by simp[AV.flat]) Sd S0 (by decide))<|V [7] Z<|E (r:=eP (Sh.str [IntKind.u8.wrap yw])) Z (FP (l:=[IntKind.u8.wrap yw]) Z Z Z Tryz.underlying111 Tryz.underlying5 Tryz.underlying9)<|aG aL gB 1 [2] Z ?_;cases h;exact aA rk
 ·refine aD<|b7 _ (Y (U [0] Z) ?_);refine az fun K5 ec=>b5 (fl 11 [] []) (by kernel_rfl) (by kernel_rfl) Z ?_;refine bt Z<|Sh.bd h fun q10 akU h=>aJ (r:=J q10) Z (fun _=>BI Z Z Z (tv akU).1 (tv akU).2)<|aS aL 1 [0,11] Z ?_;refine aJ (r:=kA .u8 (IntKind.u8.wrap (dz (128+q10)))) Z (fun _=>xO Z Z Tryz.underlying3 Tryz.underlying5 Z)<|aJ (r:=.clip (List.map (kA .u8) [IntKind.u8.wrap (dz (128+q10))])) Z (fun _=>bu Z (xo:=[.tmp 12]) Z Z Z (by simp[AV.dH]) (by simp[AV.flat]) Sd S0 (by decide))<|aJ (r:=eP (Sh.str [IntKind.u8.wrap (dz (128+q10))])) Z (fun _=>FP (l:=[IntKind.u8.wrap (dz (128+q10))]) Z Z Z Tryz.underlying111 Tryz.underlying5 Tryz.underlying9)<|bP [0,14] Z<|bt Z<|Sh.bd h fun q11 akV h=>aJ (r:=J q11) Z (fun _=>R4 Z Z Z (Py akV).1 (Py akV).2)<|Sh.bd h fun Cs Gy h=> ?_;refine aJ (r:=eP Cs) Z (fun _=>aK Z Z (by simp) (ih Gy))<|bP [14,17] Z<|Sh.bd h fun s13 ap4 h=>aJ (r:=eP s13) Z (fun _=>Mt ap4 Z Z Z)<|bt Z<|bw<|ec _ (Y (U [2] Z) ?_);cases h;exact aA rk
theorem Be:∀(n:Nat) {yw:Int} {r:(List UInt8)},nj n yw=some r→F1 W0 65 [J yw] (eP r):=by
 intro n
 induction n with
 |zero=>intro _ _ h;cases h
 |succ n ih=>intro _ _ h;exact Ey.two (zP ih h) (by simp)
theorem w_{yw r}(h:s4 yw=some r):F1 W0 65 [J yw] (eP r):=Be _ h


theorem EL{cK r}(h:sv cK=some r):F1 W0 29 [sm J cK] (.tuple [eP r.1,J r.2]):=by
 refine cB Tryz.func29 Tryz.ntmps29 ?_;unfold sv at h;refine aM aL 2 [0] Z ?_;refine az fun K2 b7=>sr Z fun K3 dZ=>O Z<|E Z (aX J cK Z Z bX)<|aG aL dZ 1 [0,8] Z ?_;refine aT Z h (fun h=> ?_) (fun h=> ?_)
 ·refine aM aL 2 [2,3] Z ?_;refine aA ?_;obtain rfl:=D h;exact⟨.inr Z,.tuple [eP [],J 4],Z,aU.ra [] []⟩
 ·refine aD<|b7 _ (Y (U [0] Z) ?_);refine sr Z fun K5 ec=>O Z<|E Z (aX J cK Z Z bX)<|Sh.bd h fun r38 ad6 h=>E (r:=eP r38) Z (aK Z Z (by simp) (w_ ad6))<|aG aL ec 1 [0,4] Z ?_;refine aO (fun(p:(List UInt8))=>⟨[(4,eP p)],.empty⟩) (fun p=>rX p=some r) ?_ ?_
  ·rintro J7 h;unfold rX at h;refine aM aL 3 [2,3] Z ?_;refine aA ?_;obtain rfl:=D h;exact⟨.inr Z,.tuple [eP J7,J 0],Z,aU.ra [] []⟩
  ·intro K7 f_;refine sr Z fun K8 gd=>O Z<|ah<|gd _ ?_;refine aF<|bq (fun(p:(List UInt8)×Int)=>fC cK p.1 p.2) (fun p=>⟨[(0,sm J cK),(4,eP p.1),(5,J p.2)],.empty⟩) h (U [0,4,5] Z) ?_
   ·rintro⟨GD,i97⟩ o1 h dM;unfold fC at h;refine az fun K9 gU=>sr Z fun vQ dh=>O Z<|O Z<|E Z (aX J cK Z Z bX)<|aG aL dh 1 [0,4,5,15] Z ?_;refine aT Z h (fun h=> ?_) (fun h=> ?_)
    ·refine aD<|gU _ (Y (U [0,4,5] Z) ?_);refine az fun zh eC=>aF<|az fun Am eV=>aO (fun(p:Bool)=>⟨[(0,sm J cK),(4,eP GD),(5,J i97),(29,bl p)],.empty⟩) (fun p=>ov cK GD i97 p=some o1) ?_ ?_
     ·rintro amV h;unfold ov at h;refine aT Z h (fun h=> ?_) (fun h=> ?_)
      ·refine aM aL 2 [2,3] Z ?_;refine aA ?_;replace h:=aZ h dM;obtain rfl:=D h;exact⟨.inr Z,.tuple [eP [],J 1],Z,aU.ra [] []⟩
      ·refine aD<|eV _ (Y (U [0,4,5] Z) ?_);refine aW Z<|aB aL 3 [0,5,30,31,32] Z ?_;refine Sh.bi h fun RT aqp Vv VV h=>E Z (aH J cK Vv VV Z Z Z bX Z)<|aB aL 2 [0,5,30,35] Z ?_;refine Sh.bd h fun PA Wm h=>E (r:=eP PA) Z (aK Z Z (by simp) (w_ Wm))<|Sh.bd h fun afj alM h=>E (r:=eP afj) Z (Mt alM Z Z Z)<|aG aL eC 1 [0,5,4] Z ?_;refine aW Z<|O Z<|E Z (bA Z Z Z Z)<|O Z<|ah ?_;replace h:=bE h;exact⟨_,h,U [0,4,5] Z⟩
     ·intro BH e9;refine aW Z<|O Z<|O Z<|Sh.bi h fun IP aem L9 L_ h=>E Z (aH J cK L9 L_ Z Z Z bX Z)<|aB aL 3 [0,4,5,23] Z ?_;cases aaY:(decide (IP<(-1)))
      ·replace h:=b_ h aaY;refine O Z<|O Z<|Sh.bi h fun NR aqq Vx OS h=>E Z (aH J cK Vx OS Z Z Z bX Z)<|aB aL 3 [0,4,5,29] Z ?_;refine ah ?_;exact e9 (decide ((2147483647:Int)<NR)) _ h (U [0,4,5,29] Z)
      ·replace h:=cg h aaY;refine aB aL 6 [0,4,5,29] Z ?_;refine ah ?_;exact e9 true _ h (U [0,4,5,29] Z)
    ·refine bp ?_;replace h:=aZ h dM;exact f_ GD _ h (U [4] Z)


theorem yR{b8 eN j5 r}(h:lT b8 eN j5=some r):F1 W0 68 [eP b8,J eN,J j5] (.tuple [J r.1,J r.2.1,J r.2.2]):=by
 refine cB Tryz.func68 Tryz.ntmps68 ?_;unfold lT at h;refine aM aL 3 [0,1,2] Z ?_;refine aM aL 2 [0,1,2,9] Z ?_;refine aO (fun(p:Int)=>⟨[(0,eP b8),(1,J eN),(2,J j5),(9,J p)],.empty⟩) (fun p=>eU b8 eN j5 p=some r) ?_ ?_
 ·rintro z_ h;unfold eU at h;refine az fun K3 dZ=>aM aL 4 [0,1,2,9,34] Z ?_;refine aT Z h (fun h=> ?_) (fun h=> ?_)
  ·refine aM aL 3 [6,7,8] Z ?_;refine aA ?_;obtain rfl:=D h;exact⟨.inr Z,.tuple [J 0,J 0,J 2],Z,aU.ra [] []⟩
  ·refine aD<|dZ _ (Y (U [0,1,2,9] Z) ?_);refine az fun K6 eE=>sr Z fun K7 f_=>O Z<|O Z<|E (r:=J (Sh.len b8)) Z (Bz (s:=b8) Z Z Tryz.underlying9)<|aG aL f_ 1 [0,1,2,9,38] Z ?_;refine aT Z h (fun h=> ?_) (fun h=> ?_)
   ·refine aM aL 3 [6,7,8] Z ?_;refine aA ?_;obtain rfl:=D h;exact⟨.inr Z,.tuple [J 0,J 0,J 16],Z,aU.ra [] []⟩
   ·refine aD<|eE _ (Y (U [0,1,2,9] Z) ?_);refine sr Z fun K9 gU=>O Z<|ah<|gU _ ?_;refine aO (fun(p:Int)=>⟨[(0,eP b8),(1,J eN),(2,J j5),(9,J z_),(10,J p)],.empty⟩) (fun p=>ow b8 eN j5 z_ p=some r) ?_ ?_
    ·rintro TH h;unfold ow at h;refine az fun vQ dh=>aO (fun(p:Bool)=>⟨[(9,J z_),(10,J TH),(66,bl p)],.empty⟩) (fun p=>iw z_ TH p=some r) ?_ ?_
     ·rintro v64 h;unfold iw at h;refine aT Z h (fun h=> ?_) (fun h=> ?_)
      ·refine aM aL 3 [6,7,8] Z ?_;refine aA ?_;obtain rfl:=D h;exact⟨.inr Z,.tuple [J 0,J 0,J 2],Z,aU.ra [] []⟩
      ·refine aD<|dh _ (Y (U [9,10] Z) ?_);refine aM aL 6 [6,7,8] Z ?_;refine aA ?_;obtain rfl:=D h;exact⟨.inr Z,.tuple [J TH,J (dz (z_+1)),J 0],Z,aU.ra [] []⟩
     ·intro Ae eD;refine aW Z<|aB aL 3 [0,2,9,10,55] Z ?_;refine O Z ?_;cases ON:(decide (eN<z_))
      ·replace h:=b_ h ON;refine aB aL 10 [9,10,66] Z ?_;refine ah ?_;exact eD (decide (j5<TH)) _ h (U [9,10,66] Z)
      ·replace h:=cg h ON;refine aB aL 2 [2,9,10,56,57,58] Z ?_;refine Sh.bd h fun x67 aqc h=>E (r:=kA .u8 ((x67).toNat:Int)) Z (vI aqc Z Z Z Tryz.underlying9)<|aB aL 2 [2,9,10,61] Z ?_;refine O Z ?_;cases ahw:(decide (((x67).toNat:Int)=0))
       ·replace h:=b_ h ahw;refine aB aL 4 [9,10,66] Z ?_;refine ah ?_;exact eD (decide (j5<TH)) _ h (U [9,10,66] Z)
       ·replace h:=cg h ahw;refine aB aL 4 [9,10,66] Z ?_;refine ah ?_;exact eD true _ h (U [9,10,66] Z)
    ·intro BH e9;refine aM aL 2 [0,1,2,9,10,11] Z ?_;refine aF<|bq (fun(p:Int×Int)=>kg b8 eN j5 z_ p.1 p.2) (fun p=>⟨[(0,eP b8),(1,J eN),(2,J j5),(9,J z_),(10,J p.1),(11,J p.2)],.empty⟩) h (U [0,1,2,9,10,11] Z) ?_
     ·rintro⟨n75,i76⟩ o1 h dM;unfold kg at h;refine az fun FY iQ=>aM aL 3 [0,1,2,9,10,11,42] Z ?_;refine aT Z h (fun h=> ?_) (fun h=> ?_)
      ·refine aD<|iQ _ (Y (U [0,1,2,9,10,11] Z) ?_);refine az fun IS iZ=>aF<|aW Z<|O Z<|E Z (R2 Z Z Z Z)<|aB aL 1 [0,1,2,9,11,46,47] Z ?_;refine O Z<|Sh.bd h fun x80 aqe h=>E (r:=kA .u8 ((x80).toNat:Int)) Z (vI aqe Z Z Z Tryz.underlying9)<|E (r:=J (dz ((x80).toNat:Int))) Z (xO Z Z Tryz.underlying5 Tryz.underlying3 Z)<|V [0,1,2,9,11,46,50] Z<|Sh.bd h fun q81 akW h=>E (r:=J q81) Z (BI Z Z Z (tv akW).1 (tv akW).2)<|aG aL iZ 2 [0,1,2,9,11,10] Z ?_;refine aW Z<|O Z<|E Z (yY Z Z Z Z)<|O Z<|ah ?_;replace h:=bE h;exact⟨_,h,U [0,1,2,9,10,11] Z⟩
      ·refine bp ?_;replace h:=aZ h dM;exact e9 n75 _ h (U [0,1,2,9,10] Z)
 ·intro IT gV;refine aF<|bq (fun(p:Int)=>gw b8 eN j5 p) (fun p=>⟨[(0,eP b8),(1,J eN),(2,J j5),(9,J p)],.empty⟩) h (U [0,1,2,9] Z) ?_
  ·rintro FU o2 h tj;unfold gw at h;refine az fun N5 tT=>aO (fun(p:Bool)=>⟨[(0,eP b8),(1,J eN),(2,J j5),(9,J FU),(28,bl p)],.empty⟩) (fun p=>iy b8 eN j5 FU p=some o2) ?_ ?_
   ·rintro v99 h;unfold iy at h;refine aT Z h (fun h=> ?_) (fun h=> ?_)
    ·refine aD<|tT _ (Y (U [0,1,2,9] Z) ?_);refine aF<|aW Z<|O Z<|E Z (bA Z Z Z Z)<|O Z<|ah ?_;replace h:=bE h;exact⟨_,h,U [0,1,2,9] Z⟩
    ·refine bp ?_;replace h:=aZ h tj;exact gV FU _ h (U [0,1,2,9] Z)
   ·intro Qu uG;refine aW Z<|O Z<|O Z<|E (r:=J (Sh.len b8)) Z (Bz (s:=b8) Z Z Tryz.underlying9)<|V [0,1,2,9,13,15] Z<|E Z (dD Z Z Z)<|O Z ?_;cases aaP:(decide (FU<(Sh.len b8)))
    ·replace h:=b_ h aaP;refine aB aL 11 [0,1,2,9,28] Z ?_;refine ah ?_;exact uG false _ h (U [0,1,2,9,28] Z)
    ·replace h:=cg h aaP;refine aB aL 1 [0,1,2,9,17,18] Z ?_;refine O Z<|Sh.bd h fun Qj alN h=>E (r:=kA .u8 ((Qj).toNat:Int)) Z (vI alN Z Z Z Tryz.underlying9)<|aB aL 1 [0,1,2,9,17,18,19,20,21] Z ?_;refine O Z<|O Z ?_;cases aaR:(decide ((128:Int)≤((Qj).toNat:Int)))
     ·replace h:=b_ h aaR;refine aB aL 5 [0,1,2,9,28] Z ?_;refine ah ?_;exact uG false _ h (U [0,1,2,9,28] Z)
     ·replace h:=cg h aaR;refine aB aL 5 [0,1,2,9,28] Z ?_;refine ah ?_;exact uG (decide (FU<(dz (eN+5)))) _ h (U [0,1,2,9,28] Z)


theorem Dz{b8 r}(h:o5 b8=some r):F2 W0 35 [eP b8] (.tuple [.view 0 0 (List.map J r.1).length,J r.2]) ⟨1,[(0,(1,List.map J r.1))],[]⟩:=by
 refine kn Tryz.func35 Tryz.ntmps35 ?_;unfold o5 at h;refine aM aL 2 [0] Z ?_;refine sr Z fun K2 b7=>O Z<|Sh.bd h fun yd M9 h=>E (r:=.tuple [J yd.1,J yd.2.1,J yd.2.2]) Z (aK Z Z (by simp) (yR M9))<|aG aL b7 7 [0,4,5,6] Z ?_;refine az fun K3 dZ=>aM aL 2 [0,4,5,6,19] Z ?_;refine aT Z h (fun h=> ?_) (fun h=> ?_)
 ·refine aM aL 3 [2,3] Z ?_;refine aA ?_;obtain rfl:=D h;exact⟨.inr Z,.tuple [aV,J yd.2.2],Z,aU.ra [] [0]⟩
 ·refine aD<|dZ _ (Y (U [0,4,5] Z) ?_);refine sr Z fun K6 eE=>O Z<|ah<|eE _ ?_;refine aO (fun(p:Int×(List Int))=>⟨[(0,eP b8),(5,J p.1),(7,.view 0 0 (List.map J p.2).length)],⟨1,[(0,(1,List.map J p.2))],[]⟩⟩) (fun p=>ou b8 p.1 p.2=some r) ?_ ?_
  ·rintro⟨agD,J1⟩ h;unfold ou at h;refine az fun K7 f_=>sr Z fun K8 gd=>O Z<|O Z<|E (r:=J (Sh.len b8)) Z (Bz (s:=b8) Z Z Tryz.underlying9)<|aG aL gd 1 [7,45] Z ?_;refine aT Z h (fun h=> ?_) (fun h=> ?_)
   ·refine sr Z fun K9 gU=>O Z<|O Z<|ah<|gU _ (Y (aU.eo (fr':=[(2,aV),(3,J 2)])) ?_);refine aA ?_;obtain rfl:=D h;exact⟨.inr Z,.tuple [aV,J 2],Z,aU.ra [] [0]⟩
   ·refine aD<|f_ _ (Y (U [7] Z) ?_);refine aM aL 3 [2,3] Z ?_;refine aA ?_;obtain rfl:=D h;exact⟨.inr Z,.tuple [.view 0 0 (List.map J J1).length,J 0],Z,aU.ra [(0,0)] []⟩
  ·intro zh eC;refine sr Z fun Am eV=>O Z<|ah<|eV _ ?_;refine aF<|bq (fun(p:Int×(List Int)×Int)=>iu b8 yd p.1 p.2.1 p.2.2) (fun p=>⟨[(0,eP b8),(4,J yd.1),(5,J p.1),(7,.view 0 0 (List.map J p.2.1).length),(8,J p.2.2)],⟨1,[(0,(1,List.map J p.2.1))],[]⟩⟩) h (aU.ra [] [0]) ?_
   ·rintro⟨YU,DJ,i41⟩ o1 h dM;unfold iu at h;refine az fun Ae eD=>aM aL 3 [0,4,5,7,8,23] Z ?_;refine aT Z h (fun h=> ?_) (fun h=> ?_)
    ·refine aD<|eD _ (Y (U [0,4,5,7,8] Z) ?_);refine az fun Fh h_=>aF<|sr Z fun FY iQ=>O Z<|O Z<|Sh.bd h fun DP Q0 h=>E (r:=.tuple [J DP.1,J DP.2.1,J DP.2.2]) Z (aK Z Z (by simp) (yR Q0)) ?_;refine aG aL iQ 7 [0,4,7,8,9,10,11] Z ?_;refine az fun G9 ic=>aM aL 2 [0,4,7,8,9,10,11,34] Z ?_;refine aT Z h (fun h=> ?_) (fun h=> ?_)
     ·refine sr Z fun IT gV=>O Z<|O Z<|O Z<|ah<|gV _ (Y (aU.eo (fr':=[(2,aV),(3,J DP.2.2)])) ?_);refine aA ?_;replace h:=aZ h dM;obtain rfl:=D h;exact⟨.inr Z,.tuple [aV,J DP.2.2],Z,aU.ra [] [0]⟩
     ·refine aD<|ic _ (Y (U [0,4,7,8,9,10] Z) ?_);refine sr Z fun N5 tT=>aB aL 3 [0,4,8,10,36,38] Z ?_;refine E (r:=.clip (List.map J [dz (DP.1 - 1)])) Z (bu Z (xo:=[.tmp 38]) Z Z Z (by simp[AV.dH]) (by simp[AV.flat]) bX wP (by decide))<|Sh.bd h fun Mh adP h=>E (r:=.view 1 0 (List.map J Mh).length) Z (bV J DJ [dz (DP.1 - 1)] Mh adP Z vK (fun _=>Z) Z Z Z Z Z Z Z)<|O Z<|ah<|tT _ (Y (aU.ra (fr':=[(0,eP b8),(4,J yd.1),(8,J i41),(10,J DP.2.1),(7,.view 0 0 (List.map J Mh).length)]) (H':=⟨1,[(0,(1,List.map J Mh))],[]⟩) [(0,1)] []) ?_);refine aW Z<|aG aL h_ 2 [0,4,8,7,5] Z ?_;refine aW Z<|O Z<|E Z (bA Z Z Z Z)<|O Z<|ah ?_;replace h:=bE h;exact⟨_,h,U [0,4,5,7,8] Z⟩
    ·refine bp ?_;replace h:=aZ h dM;exact eC (YU,DJ) _ h (U [0,5,7] Z)
theorem EK{b8 r}(h:o5 b8=some r):F1 W0 35 [eP b8] (.tuple [sm J r.1,J r.2]):=
 (Dz h).wR (aU.ra [] []) (by simp)

end Wk
