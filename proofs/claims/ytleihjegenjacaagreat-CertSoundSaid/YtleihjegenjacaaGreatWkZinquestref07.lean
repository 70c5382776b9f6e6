/- That the functions of a package do what their plain functions say. -/
import Derived.Test.YtleihjegenjacaaGreatWkZFacts
open Go Go.Av Go.Proofs G Go.Sh Go.Av.Sh
set_option linter.unusedVariables false
set_option maxHeartbeats 8000000
set_option maxRecDepth 20000
namespace Wk
theorem AY{W0:World}(hT:dc W0){dV:List Int}{eU:List Int}{r:Bool}(h:qY dV eU=some r):dX Tryz.prog W0 42 [sm J dV,sm J eU] (bl r) .empty:=by
 refine aU Tryz.func42 Z (by kernel_rfl) Tryz.ntmps42 (by simp) ?_;unfold qY at h;show ec _ _ _ _ ⟨[(0,sm J dV),(1,sm J eU)],.empty⟩ _;refine sr Z fun K1 c4=>O Z<|aH c4 [0,1] Z ?_;refine aD fun K2 cT=>sr Z fun K3 eN=>O Z<|E Z (bg J dV Z Z dH)<|O Z<|V [0,1,7,8] Z<|E Z (bg J eU Z Z dH) ?_;refine E (r:=bl (decide ((Sh.len dV)≠(Sh.len eU)))) Z (fG Z Z Z)<|aH eN [0,1,10] Z ?_;refine a_ Z h (fun h=> ?_) (fun h=> ?_)
 ·refine sr Z fun K4 e_=>O Z<|aH e_ [4] Z ?_;refine aL ?_;obtain rfl:=D h;exact⟨.inr Z,bl false,Z,bq.e ⟨.k,trivial⟩⟩
 ·refine aM<|cT _ (Y (U [0,1] Z) ?_);refine aX (fun(p:Unit)=>⟨[],.empty⟩) (fun p=>rK=some r) ?_ ?_
  ·rintro⟨⟩ h;unfold rK at h;refine sr Z fun K5 eV=>O Z<|an<|eV _ ?_;refine aL ?_;obtain rfl:=D h;exact⟨.inr Z,bl true,Z,bq.e ⟨.k,trivial⟩⟩
  ·intro K6 fN;refine sr Z fun K7 gx=>O Z<|an<|gx _ ?_;refine aI<|bG (fun(p:Int)=>rJ dV eU p) (fun p=>⟨[(0,sm J dV),(1,sm J eU),(5,J p)],.empty⟩) h (U [0,1,5] Z) ?_
   ·rintro i39 o1 h fe;unfold rJ at h;refine aD fun K8 gT=>sr Z fun K9 iC=>O Z<|O Z<|E Z (bg J dV Z Z dH)<|V [0,1,5,11,13] Z<|E Z (bE Z Z Z) ?_;refine aH iC [0,1,5,14] Z ?_;refine a_ Z h (fun h=> ?_) (fun h=> ?_)
    ·refine aM<|gT _ (Y (U [0,1,5] Z) ?_);refine aD fun tR dD=>aI<|aD fun xu eR=>dK (List.replicate 9 (true,false)) (by kernel_rfl) (by kernel_rfl) Z ?_;refine aK Z<|aK Z ?_;obtain⟨Jw,ON,h⟩:=ai h;obtain⟨k50,OF,OI⟩:=aV ON;refine aP Z (fun _=>aR J dV OF OI Z Z Z dH Z)<|au [0,1,5,19] Z<|bF (J Jw) Z Z Z dS Z<|aK Z<|aK Z<|au [0,1,5,20,21,22] Z ?_;obtain⟨F2,KH,h⟩:=ai h;obtain⟨k52,KD,Je⟩:=aV KH;refine aP Z (fun _=>aR J eU KD Je Z Z Z dH Z)<|bF (J F2) Z Z Z dS Z<|aP (r:=bl (decide (Jw≠F2))) Z (fun _=>fG Z Z Z)<|bS<|eR _ (Y (U [0,1,5,25] Z) ?_);refine a_ Z h (fun h=> ?_) (fun h=> ?_)
     ·refine sr Z fun xy eX=>O Z<|aH eX [4] Z ?_;refine aL ?_;replace h:=bp h fe;obtain rfl:=D h;exact⟨.inr Z,bl false,Z,bq.e ⟨.k,trivial⟩⟩
     ·refine aM<|dD _ (Y (U [0,1,5] Z) ?_);refine bf Z<|O Z<|E Z (bK Z Z Z Z)<|O Z<|an ?_;replace h:=bO h;exact⟨_,h,U [0,1,5] Z⟩
    ·refine bz ?_;replace h:=bp h fe;exact fN () _ h (U [] Z)
theorem BX{W0:World}(hT:dc W0){dV:List Int}{eU:List Int}{r:Bool}(h:qY dV eU=some r):bW Tryz.prog W0 42 [sm J dV,sm J eU] (bl r):=bW.two (AY hT h) (by simp)

end Wk
