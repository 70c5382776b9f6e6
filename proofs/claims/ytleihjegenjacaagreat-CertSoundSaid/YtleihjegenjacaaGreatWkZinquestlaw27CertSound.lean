/- That a statement does what its plain function says. -/
import Derived.Test.YtleihjegenjacaaGreatWkZinquestlaw27
open Go Go.Av Go.Proofs G Go.Sh Go.Av.Sh
set_option linter.unusedVariables false
set_option maxHeartbeats 8000000
set_option maxRecDepth 20000
namespace Wk
theorem wZ{W0:World}(hT:dc W0){aO:af}{bX:bn}{r:Bool}(h:jK aO bX=some r):dX Tryz.prog W0 4 [af.av aO,bn.av bX] (bl r) .empty:=by
 refine aU Tryz.func4 Z (by kernel_rfl) Tryz.ntmps4 (by simp) ?_;unfold jK at h;show ec _ _ _ _ ⟨[(0,af.av aO),(1,bn.av bX)],.empty⟩ _;refine sr Z fun K1 c4=>E (r:=.ref 0 0 0) Z (bP 1 [af.av aO] Z Z Z (.inl ⟨Z,Z⟩))<|E (r:=.ref 1 0 0) Z (bP 5 [bn.av bX] Z Z Z (.inl ⟨Z,Z⟩))<|O Z<|an<|c4 _ (Y (bq.e (fr':=[(2,.pp [sm ah.av aO.az] 0),(3,.pp [J bX.Level,bl bX.pL,sm J bX.Order,sm aA.av bX.Rows,sm aq.av bX.Tree] 0)]) (H':=.empty) ⟨⟨_,Z,.ee Z Z Z Z (by simp)⟩,⟨_,Z,.ee Z Z Z Z (by simp)⟩,trivial⟩) ?_);refine sr Z fun K2 cT=> ?_;obtain⟨DG,M1,h⟩:=ai h;refine E (r:=bl DG) Z (aZ Z Z (by simp) (AX hT M1))<|O Z<|aH cT [2,3,5] Z ?_;refine aD fun K3 eN=>sr Z fun K4 e_=>O Z<|E (r:=bl (!DG)) Z (cR Z Z)<|aH e_ [2,3,12] Z ?_;refine a_ Z h (fun h=> ?_) (fun h=> ?_)
 ·refine sr Z fun K5 eV=>O Z<|aH eV [4] Z ?_;refine aL ?_;obtain rfl:=D h;exact⟨.inr Z,bl false,Z,bq.e ⟨.k,trivial⟩⟩
 ·refine aM<|eN _ (Y (U [2,3] Z) ?_);refine sr Z fun K6 fN=>aT (af.av aO) Z Z Z gz Z ?_;obtain⟨Bl,ES,h⟩:=ai h;refine E (r:=bl Bl) Z (aZ Z Z (by simp) (Be hT ES))<|O Z<|aH fN [2,3,6] Z ?_;refine sr Z fun K7 gx=>aT (bn.av bX) Z Z Z yM Z ?_;obtain⟨zC,TC,h⟩:=ai h;refine E (r:=bl zC) Z (aZ Z Z (by simp) (Dh hT TC))<|O Z<|aH gx [2,3,6,7] Z ?_;refine aD fun K8 gT=>aX (fun(p:Bool)=>⟨[(2,.pp [sm ah.av aO.az] 0),(3,.pp [J bX.Level,bl bX.pL,sm J bX.Order,sm aA.av bX.Rows,sm aq.av bX.Tree] 0),(28,bl p)],.empty⟩) (fun p=>fc aO bX p=some r) ?_ ?_
  ·rintro v26 h;unfold fc at h;refine a_ Z h (fun h=> ?_) (fun h=> ?_)
   ·refine sr Z fun K9 iC=>O Z<|aH iC [4] Z ?_;refine aL ?_;obtain rfl:=D h;exact⟨.inr Z,bl true,Z,bq.e ⟨.k,trivial⟩⟩
   ·refine aM<|gT _ (Y (U [2,3] Z) ?_);refine aD fun tR dD=>sr Z fun xu eR=>bJ Z BK<|aT (J bX.Level) Z Z Z dS Z<|E (r:=bl (decide (bX.Level=0))) Z (dP Z Z Z)<|aH eR [2,3,31] Z ?_;refine a_ Z h (fun h=> ?_) (fun h=> ?_)
    ·refine sr Z fun xy eX=>aT (af.av aO) Z Z Z gz Z ?_;obtain⟨VE,Zr,h⟩:=ai h;refine E (r:=bl VE) Z (aZ Z Z (by simp) (Dq hT Zr))<|O Z<|aH eX [3,8] Z ?_;refine sr Z fun yR fB=>bJ Z DS<|aT (bl bX.pL) Z Z Z Fj Z<|O Z<|V [35,36] Z<|E (r:=bl (bX.pL==VE)) Z (Kh Z Z Z Tryz.underlying4)<|O Z ?_;refine aH fB [4] Z ?_;refine aL ?_;obtain rfl:=D h;exact⟨.inr Z,bl (bX.pL==VE),Z,bq.e ⟨.k,trivial⟩⟩
    ·refine aM<|dD _ (Y (U [2,3] Z) ?_);refine sr Z fun CH gw=>aT (af.av aO) Z Z Z gz Z<|bJ Z BK<|aT (J bX.Level) Z Z Z dS Z<|V [3,38,40] Z ?_;obtain⟨Qf,TE,h⟩:=ai h;refine E (r:=bl Qf) Z (aZ Z Z (by simp) (Dr hT TE))<|O Z<|aH gw [3,9] Z ?_;refine sr Z fun Em iK=>bJ Z DS<|aT (bl bX.pL) Z Z Z Fj Z<|O Z<|V [3,43,44] Z<|E (r:=bl (bX.pL==Qf)) Z (Kh Z Z Z Tryz.underlying4)<|O Z ?_;rcases tf (bX.pL==Qf) with HM|HM
     ·rw[HM];replace h:=dN h HM;refine bJ Z BK<|V [46,47] Z<|aT (J bX.Level) Z Z Z dS Z<|E (r:=bl (decide (bX.Level=1))) Z (dP Z Z Z)<|O Z<|V [50] Z<|O Z<|an ?_;refine iK _ (Y (U [4] Z) ?_);refine aL ?_;obtain rfl:=D h;exact⟨.inr Z,bl (decide (bX.Level=1)),Z,bq.e ⟨.k,trivial⟩⟩
     ·rw[HM];replace h:=dM h HM;refine cu Z<|V [46,47] Z<|c9 Z Z<|O Z<|V [50] Z<|O Z<|an ?_;refine iK _ (Y (U [4] Z) ?_);refine aL ?_;obtain rfl:=D h;exact⟨.inr Z,bl false,Z,bq.e ⟨.k,trivial⟩⟩
  ·intro F3 jY;refine bf Z<|O Z<|E (r:=bl (!Bl)) Z (cR Z Z)<|O Z<|V [2,3,7,19] Z ?_;rcases tf (!Bl) with BQ|BQ
   ·rw[BQ];replace h:=dN h BQ;refine c9 Z Z<|O Z<|V [2,3,22] Z<|O Z<|c9 Z Z<|V [2,3,23,24,25] Z ?_;refine c9 Z Z<|O Z<|an ?_;exact jY true _ h (U [2,3,28] Z)
   ·rw[BQ];replace h:=dM h BQ;refine O Z<|E (r:=bl (!zC)) Z (cR Z Z)<|O Z<|V [2,3,22] Z<|O Z ?_;rcases tf (!zC) with BR|BR
    ·rw[BR];replace h:=dN h BR;refine c9 Z Z<|V [2,3,23,24,25] Z<|c9 Z Z<|O Z<|an ?_;exact jY true _ h (U [2,3,28] Z)
    ·rw[BR];replace h:=dM h BR;refine aT (af.av aO) Z Z Z gz Z<|aT (bn.av bX) Z Z Z yM Z<|V [2,3,23,24,25] Z ?_;obtain⟨VF,Zs,h⟩:=ai h;refine E (r:=bl VF) Z (aZ Z Z (by simp) (yj hT Zs))<|E (r:=bl (!VF)) Z (cR Z Z)<|O Z<|an ?_;exact jY (!VF) _ h (U [2,3,28] Z)
theorem xC{W0:World}(hT:dc W0){aO:af}{bX:bn}{r:Bool}(h:jK aO bX=some r):bW Tryz.prog W0 4 [af.av aO,bn.av bX] (bl r):=bW.two (wZ hT h) (by simp)

end Wk
