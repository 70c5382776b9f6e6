/- That the functions of a package do what their plain functions say. -/
import Derived.Test.YtleihjegenjacaaGreatWkZFacts
open Go Go.Av Go.Proofs G Go.Sh Go.Av.Sh
set_option linter.unusedVariables false
set_option maxHeartbeats 8000000
set_option maxRecDepth 20000
namespace Wk
theorem Bf{W0:World}(hT:dc W0){dV:List aS}{eU:List aS}{r:Bool}(h:q8 dV eU=some r):dX Tryz.prog W0 44 [sm aS.av dV,sm aS.av eU] (bl r) .empty:=by
 refine aU Tryz.func44 Z (by kernel_rfl) Tryz.ntmps44 (by simp) ?_;unfold q8 at h;show ec _ _ _ _ ⟨[(0,sm aS.av dV),(1,sm aS.av eU)],.empty⟩ _;refine sr Z fun K1 c4=>O Z<|aH c4 [0,1] Z ?_;refine aD fun K2 cT=>sr Z fun K3 eN=>O Z<|E Z (bg aS.av dV Z Z Hl)<|O Z<|V [0,1,8,9] Z<|E Z (bg aS.av eU Z Z Hl) ?_;refine E (r:=bl (decide ((Sh.len dV)≠(Sh.len eU)))) Z (fG Z Z Z)<|aH eN [0,1,11] Z ?_;refine a_ Z h (fun h=> ?_) (fun h=> ?_)
 ·refine sr Z fun K4 e_=>O Z<|aH e_ [4] Z ?_;refine aL ?_;obtain rfl:=D h;exact⟨.inr Z,bl false,Z,bq.e ⟨.k,trivial⟩⟩
 ·refine aM<|cT _ (Y (U [0,1] Z) ?_);refine aX (fun(p:Unit)=>⟨[],.empty⟩) (fun p=>rS=some r) ?_ ?_
  ·rintro⟨⟩ h;unfold rS at h;refine sr Z fun K5 eV=>O Z<|an<|eV _ ?_;refine aL ?_;obtain rfl:=D h;exact⟨.inr Z,bl true,Z,bq.e ⟨.k,trivial⟩⟩
  ·intro K6 fN;refine sr Z fun K7 gx=>O Z<|an<|gx _ ?_;refine aI<|bG (fun(p:Int)=>rQ dV eU p) (fun p=>⟨[(0,sm aS.av dV),(1,sm aS.av eU),(5,J p)],.empty⟩) h (U [0,1,5] Z) ?_
   ·rintro nK o1 h fe;unfold rQ at h;refine aD fun K8 gT=>sr Z fun K9 iC=>O Z<|O Z<|E Z (bg aS.av dV Z Z Hl)<|V [0,1,5,12,14] Z<|E Z (bE Z Z Z) ?_;refine aH iC [0,1,5,15] Z ?_;refine a_ Z h (fun h=> ?_) (fun h=> ?_)
    ·refine aM<|gT _ (Y (U [0,1,5] Z) ?_);refine aX (fun(p:Unit)=>⟨[(0,sm aS.av dV),(1,sm aS.av eU),(5,J nK)],.empty⟩) (fun p=>rT nK=some o1) ?_ ?_
     ·rintro⟨⟩ h;unfold rT at h;refine bf Z<|O Z<|E Z (bK Z Z Z Z)<|O Z<|an ?_;replace h:=bO h;exact⟨_,h,U [0,1,5] Z⟩
     ·intro tR dD;refine aI<|aD fun xu eR=>aX (fun(p:Bool)=>⟨[(0,sm aS.av dV),(1,sm aS.av eU),(5,J nK),(43,bl p)],.empty⟩) (fun p=>pF dV eU nK p=some o1) ?_ ?_
      ·rintro Vg h;unfold pF at h;refine a_ Z h (fun h=> ?_) (fun h=> ?_)
       ·refine sr Z fun xy eX=>O Z<|aH eX [4] Z ?_;refine aL ?_;replace h:=bp h fe;obtain rfl:=D h;exact⟨.inr Z,bl false,Z,bq.e ⟨.k,trivial⟩⟩
       ·refine aM<|eR _ (Y (U [0,1,5] Z) ?_);refine sr Z fun yR fB=>O Z<|an<|fB _ ?_;refine aI<|bG (fun(p:Int)=>rR dV eU nK p) (fun p=>⟨[(0,sm aS.av dV),(1,sm aS.av eU),(5,J nK),(6,J p)],.empty⟩) h (U [0,1,5,6] Z) ?_
        ·rintro HX o2 h s5;unfold rR at h;refine aD fun CH gw=>sr Z fun Em iK=>O Z<|O Z<|O Z<|V [0,1,5,6,44,45,46] Z ?_;obtain⟨Lp,TK,h⟩:=ai h;obtain⟨akO,S3,Tj⟩:=aV TK;refine E Z (aR aS.av dV S3 Tj Z Z Z Hl Z)<|bJ Z Hu<|aT (sm J Lp.dY) Z Z Z gj Z<|V [0,1,5,6,44,49] Z<|E Z (bg J Lp.dY Z Z dH)<|E Z (bE Z Z Z)<|aH iK [0,1,5,6,51] Z ?_;refine a_ Z h (fun h=> ?_) (fun h=> ?_)
         ·refine aM<|gw _ (Y (U [0,1,5,6] Z) ?_);refine aD fun F3 jY=>aI<|aD fun G2 lF=>dK (List.replicate 17 (true,false)) (by kernel_rfl) (by kernel_rfl) Z ?_;refine aK Z<|aK Z ?_;obtain⟨Lr,TL,h⟩:=ai h;obtain⟨akQ,S4,Tk⟩:=aV TL;refine aP Z (fun _=>aR aS.av dV S4 Tk Z Z Z Hl Z)<|au [0,1,5,6,56] Z<|b5 Z Hu<|bF (sm J Lr.dY) Z Z Z gj Z<|aK Z<|au [0,1,5,6,58,59] Z ?_;obtain⟨Fp,M4,h⟩:=ai h;obtain⟨agU,MW,MZ⟩:=aV M4;refine aP Z (fun _=>aR J Lr.dY MW MZ Z Z Z dH Z)<|bF (J Fp) Z Z Z dS Z<|aK Z<|au [0,1,5,6,61,62] Z<|aK Z ?_;obtain⟨Ls,TM,h⟩:=ai h;obtain⟨akS,S5,Tl⟩:=aV TM;refine aP Z (fun _=>aR aS.av eU S5 Tl Z Z Z Hl Z)<|b5 Z Hu<|au [0,1,5,6,61,65] Z<|bF (sm J Ls.dY) Z Z Z gj Z<|aK Z ?_;obtain⟨Lt,TN,h⟩:=ai h;obtain⟨akT,S6,Tm⟩:=aV TN;refine aP Z (fun _=>aR J Ls.dY S6 Tm Z Z Z dH Z)<|au [0,1,5,6,61,68] Z<|bF (J Lt) Z Z Z dS Z<|aP (r:=bl (decide (Fp≠Lt))) Z (fun _=>fG Z Z Z)<|bS<|lF _ (Y (U [0,1,5,6,70] Z) ?_);refine a_ Z h (fun h=> ?_) (fun h=> ?_)
          ·refine sr Z fun I8 k9=>O Z<|aH k9 [4] Z ?_;refine aL ?_;replace h:=bp h s5;replace h:=bp h fe;obtain rfl:=D h;exact⟨.inr Z,bl false,Z,bq.e ⟨.k,trivial⟩⟩
          ·refine aM<|jY _ (Y (U [0,1,5,6] Z) ?_);refine bf Z<|O Z<|E Z (bK Z Z Z Z)<|O Z<|an ?_;replace h:=bO h;exact⟨_,h,U [0,1,5,6] Z⟩
         ·refine bz ?_;replace h:=bp h s5;exact dD () _ h (U [0,1,5] Z)
      ·intro LC k_;refine dK (List.replicate 26 (true,false)) (by kernel_rfl) (by kernel_rfl) Z ?_;refine aK Z<|aK Z ?_;obtain⟨GA,TO,h⟩:=ai h;obtain⟨akU,S7,Tn⟩:=aV TO;refine aP Z (fun _=>aR aS.av dV S7 Tn Z Z Z Hl Z)<|au [0,1,5,20] Z<|b5 Z Sw<|bF (aa.av GA.C) Z Z Z As Z<|aK Z<|au [0,1,5,22,23] Z<|aK Z ?_;obtain⟨GB,TP,h⟩:=ai h;obtain⟨akV,S8,To⟩:=aV TP;refine aP Z (fun _=>aR aS.av eU S8 To Z Z Z Hl Z)<|b5 Z Sw<|au [0,1,5,22,26] Z<|bF (aa.av GB.C) Z Z Z As Z<|aP (r:=bl (!decide (GA.C=GB.C))) Z (fun _=>Gy (a:=GA.C) (b:=GB.C) Z Z Z)<|aK Z<|au [0,1,5,29] Z ?_;rcases tf (!decide (GA.C=GB.C)) with BS|BS
       ·rw[BS];replace h:=dN h BS;refine aC Z<|aC Z<|aC Z<|au [0,1,5,29,30,31,32] Z<|aC Z<|aC Z<|aC Z<|au [0,1,5,29,30,31,32,33,34,35] Z ?_;refine aC Z<|aC Z<|aC Z<|au [0,1,5,29,30,31,32,33,34,35,36,37,38] Z<|aC Z<|aC Z<|aC Z<|au [0,1,5,29,30,31,32,33,34,35,36,37,38,39,40,41] Z ?_;refine aC Z<|aK Z<|bS ?_;exact k_ true _ h (U [0,1,5,43] Z)
       ·rw[BS];replace h:=dM h BS;refine aK Z<|aK Z ?_;obtain⟨F0,TQ,h⟩:=ai h;obtain⟨akW,S9,Tp⟩:=aV TQ;refine aP Z (fun _=>aR aS.av dV S9 Tp Z Z Z Hl Z)<|au [0,1,5,29,30,31,32] Z<|b5 Z Hu<|bF (sm J F0.dY) Z Z Z gj Z<|aP Z (fun _=>bg J F0.dY Z Z dH)<|au [0,1,5,29,30,31,32,33,34,35] Z<|aK Z<|aK Z ?_;obtain⟨F1,TR,h⟩:=ai h;obtain⟨akX,S_,Tq⟩:=aV TR;refine aP Z (fun _=>aR aS.av eU S_ Tq Z Z Z Hl Z)<|au [0,1,5,29,30,31,32,33,34,35,36,37,38] Z<|b5 Z Hu<|bF (sm J F1.dY) Z Z Z gj Z<|aP Z (fun _=>bg J F1.dY Z Z dH)<|au [0,1,5,29,30,31,32,33,34,35,36,37,38,39,40,41] Z<|aP (r:=bl (decide ((Sh.len F0.dY)≠(Sh.len F1.dY)))) Z (fun _=>fG Z Z Z)<|aK Z ?_;refine bS ?_;exact k_ (decide ((Sh.len F0.dY)≠(Sh.len F1.dY))) _ h (U [0,1,5,43] Z)
    ·refine bz ?_;replace h:=bp h fe;exact fN () _ h (U [] Z)
theorem Ce{W0:World}(hT:dc W0){dV:List aS}{eU:List aS}{r:Bool}(h:q8 dV eU=some r):bW Tryz.prog W0 44 [sm aS.av dV,sm aS.av eU] (bl r):=bW.two (Bf hT h) (by simp)

end Wk
