/- That the functions of a package do what their plain functions say. -/
import Derived.Test.YtleihjegenjacaaGreatWkZinquestref09
open Go Go.Av Go.Proofs G Go.Sh Go.Av.Sh
set_option linter.unusedVariables false
set_option maxHeartbeats 8000000
set_option maxRecDepth 20000
namespace Wk
theorem z7{W0:World}(hT:dc W0){aO:af}{Aw:Int}{vm:Int}{r:Bool}(h:kP aO Aw vm=some r):dX Tryz.prog W0 21 [af.av aO,J Aw,J vm] (bl r) .empty:=by
 refine aU Tryz.func21 Z (by kernel_rfl) Tryz.ntmps21 (by simp) ?_;unfold kP at h;show ec _ _ _ _ ⟨[(0,af.av aO),(1,J Aw),(2,J vm)],.empty⟩ _;refine sr Z fun K1 c4=>E (r:=.ref 0 0 0) Z (bP 1 [af.av aO] Z Z Z (.inl ⟨Z,Z⟩))<|O Z<|an<|c4 _ (Y (bq.e (fr':=[(1,J Aw),(2,J vm),(3,.pp [sm ah.av aO.az] 0)]) (H':=.empty) ⟨.k,.k,⟨_,Z,.ee Z Z Z Z (by simp)⟩,trivial⟩) ?_);refine sr Z fun K2 cT=>aT (af.av aO) Z Z Z gz Z<|O Z ?_;obtain⟨r8,Wm,h⟩:=ai h;refine E (r:=bl r8) Z (aZ Z Z (by simp) (Di hT Wm))<|V [2,3,12] Z<|O Z<|aH cT [2,3,7] Z ?_;refine sr Z fun K3 eN=>aT (af.av aO) Z Z Z gz Z ?_;obtain⟨Ny,Tz,h⟩:=ai h;refine E (r:=bl Ny) Z (aZ Z Z (by simp) (j7 hT Tz))<|O Z<|aH eN [2,3,7,8] Z ?_;refine sr Z fun K4 e_=>aT (af.av aO) Z Z Z gz Z ?_;obtain⟨zB,ER,h⟩:=ai h;refine E (r:=sm aa.av zB) Z (aZ Z Z (by simp) (uK hT ER))<|O Z<|aH e_ [2,7,8,9] Z ?_;refine sr Z fun K5 eV=>O Z<|O Z ?_;rcases tf (r8) with BO|BO
 ·rw[BO];replace h:=dN h BO;refine O Z<|V [2,9,18,19] Z<|O Z<|O Z ?_;rcases tf (Ny) with HH|HH
  ·rw[HH];replace h:=dN h HH;refine O Z<|V [2,21,22] Z<|E Z (bg aa.av zB Z Z wU)<|O Z<|E Z (GD Z Z Z)<|V [21,25] Z<|O Z<|O Z ?_;refine aH eV [6] Z ?_;refine aL ?_;obtain rfl:=D h;exact⟨.inr Z,bl (decide ((Sh.len zB)≤vm)),Z,bq.e ⟨.k,trivial⟩⟩
  ·rw[HH];replace h:=dM h HH;refine cu Z<|V [2,21,22] Z<|cr Z Z Z<|V [21,25] Z<|O Z<|O Z ?_;refine aH eV [6] Z ?_;refine aL ?_;obtain rfl:=D h;exact⟨.inr Z,bl false,Z,bq.e ⟨.k,trivial⟩⟩
 ·rw[BO];replace h:=dM h BO;refine cu Z<|V [2,9,18,19] Z<|O Z<|O Z<|cu Z<|V [2,21,22] Z<|c9 Z Z ?_;refine cu Z<|V [21,25] Z<|O Z<|O Z<|aH eV [6] Z ?_;refine aL ?_;obtain rfl:=D h;exact⟨.inr Z,bl false,Z,bq.e ⟨.k,trivial⟩⟩
theorem Be{W0:World}(hT:dc W0){aO:af}{Aw:Int}{vm:Int}{r:Bool}(h:kP aO Aw vm=some r):bW Tryz.prog W0 21 [af.av aO,J Aw,J vm] (bl r):=bW.two (z7 hT h) (by simp)

end Wk
