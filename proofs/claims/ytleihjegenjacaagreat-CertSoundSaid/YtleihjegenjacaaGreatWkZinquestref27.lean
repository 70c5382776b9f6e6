/- That the functions of a package do what their plain functions say. -/
import Derived.Test.YtleihjegenjacaaGreatWkZinquestref07
import Derived.Test.YtleihjegenjacaaGreatWkZinquestref21
import Derived.Test.YtleihjegenjacaaGreatWkZinquestref24
open Go Go.Av Go.Proofs G Go.Sh Go.Av.Sh
set_option linter.unusedVariables false
set_option maxHeartbeats 8000000
set_option maxRecDepth 20000
namespace Wk
theorem Bg{W0:World}(hT:dc W0){dV:bT}{eU:bT}{r:Bool}(h:q9 dV eU=some r):dX Tryz.prog W0 19 [bT.av dV,bT.av eU] (bl r) .empty:=by
 refine aU Tryz.func19 Z (by kernel_rfl) Tryz.ntmps19 (by simp) ?_;unfold q9 at h;show ec _ _ _ _ ⟨[(0,bT.av dV),(1,bT.av eU)],.empty⟩ _;refine sr Z fun K1 c4=>E (r:=.ref 0 0 0) Z (bP 5 [bT.av dV] Z Z Z (.inl ⟨Z,Z⟩))<|E (r:=.ref 1 0 0) Z (bP 5 [bT.av eU] Z Z Z (.inl ⟨Z,Z⟩))<|O Z<|an<|c4 _ (Y (bq.e (fr':=[(2,.pp [J dV.Level,bl dV.pL,sm J dV.Order,sm aQ.av dV.Rows,sm aS.av dV.Tree] 0),(3,.pp [J eU.Level,bl eU.pL,sm J eU.Order,sm aQ.av eU.Rows,sm aS.av eU.Tree] 0)]) (H':=.empty) ⟨⟨_,Z,.ee Z Z Z Z (by simp)⟩,⟨_,Z,.ee Z Z Z Z (by simp)⟩,trivial⟩) ?_);refine sr Z fun K2 cT=>bJ Z Su<|aT (sm J dV.Order) Z Z Z gj Z<|bJ Z Su<|V [2,3,9,10] Z<|aT (sm J eU.Order) Z Z Z gj Z ?_;obtain⟨Ny,Tz,h⟩:=ai h;refine E (r:=bl Ny) Z (aZ Z Z (by simp) (BX hT Tz))<|O Z<|aH cT [2,3,5] Z ?_;refine sr Z fun K3 eN=>bJ Z Kx<|aT (sm aQ.av dV.Rows) Z Z Z WV Z<|bJ Z Kx<|V [2,3,5,14,15] Z<|aT (sm aQ.av eU.Rows) Z Z Z WV Z ?_;obtain⟨zB,ER,h⟩:=ai h;refine E (r:=bl zB) Z (aZ Z Z (by simp) (Cc hT ER))<|O Z<|aH eN [2,3,5,6] Z ?_;refine sr Z fun K4 e_=>bJ Z Ky<|aT (sm aS.av dV.Tree) Z Z Z WW Z<|bJ Z Ky<|V [2,3,5,6,19,20] Z<|aT (sm aS.av eU.Tree) Z Z Z WW Z ?_;obtain⟨Od,QU,h⟩:=ai h;refine E (r:=bl Od) Z (aZ Z Z (by simp) (Ce hT QU))<|O Z<|aH e_ [2,3,5,6,7] Z ?_;refine sr Z fun K5 eV=>bJ Z Sr<|aT (J dV.Level) Z Z Z dS Z<|bJ Z Sr<|V [2,3,5,6,7,24,25] Z<|aT (J eU.Level) Z Z Z dS Z<|E (r:=bl (decide (dV.Level=eU.Level))) Z (dP Z Z Z) ?_;refine O Z<|V [2,3,5,6,7,28] Z ?_;rcases tf (decide (dV.Level=eU.Level)) with BP|BP
 ·rw[BP];replace h:=dN h BP;refine bJ Z Ss<|aT (bl dV.pL) Z Z Z Fj Z<|bJ Z Ss<|V [5,6,7,28,30,31] Z<|aT (bl eU.pL) Z Z Z Fj Z<|E (r:=bl (dV.pL==eU.pL)) Z (Kh Z Z Z Tryz.underlying4)<|O Z<|V [5,6,7,34] Z ?_;refine O Z ?_;rcases tf (dV.pL==eU.pL) with SC|SC
  ·rw[SC];replace h:=dN h SC;refine O Z<|O Z<|V [6,7,37] Z<|O Z ?_;rcases tf (Ny) with SD|SD
   ·rw[SD];replace h:=dN h SD;refine O Z<|O Z<|V [7,40] Z<|O Z ?_;rcases tf (zB) with SE|SE
    ·rw[SE];replace h:=dN h SE;refine O Z<|O Z<|V [43] Z<|O Z<|aH eV [4] Z ?_;refine aL ?_;obtain rfl:=D h;exact⟨.inr Z,bl Od,Z,bq.e ⟨.k,trivial⟩⟩
    ·rw[SE];replace h:=dM h SE;refine cu Z<|O Z<|V [43] Z<|O Z<|aH eV [4] Z ?_;refine aL ?_;obtain rfl:=D h;exact⟨.inr Z,bl false,Z,bq.e ⟨.k,trivial⟩⟩
   ·rw[SD];replace h:=dM h SD;refine cu Z<|O Z<|V [7,40] Z<|O Z<|cu Z<|O Z<|V [43] Z<|O Z ?_;refine aH eV [4] Z ?_;refine aL ?_;obtain rfl:=D h;exact⟨.inr Z,bl false,Z,bq.e ⟨.k,trivial⟩⟩
  ·rw[SC];replace h:=dM h SC;refine cu Z<|O Z<|V [6,7,37] Z<|O Z<|cu Z<|O Z<|V [7,40] Z<|O Z ?_;refine cu Z<|O Z<|V [43] Z<|O Z<|aH eV [4] Z ?_;refine aL ?_;obtain rfl:=D h;exact⟨.inr Z,bl false,Z,bq.e ⟨.k,trivial⟩⟩
 ·rw[BP];replace h:=dM h BP;refine cr Z Z Z<|V [5,6,7,28,30,31] Z<|c9 Z Z<|O Z<|V [5,6,7,34] Z ?_;refine O Z<|cu Z<|O Z<|V [6,7,37] Z<|O Z<|cu Z<|O Z<|V [7,40] Z ?_;refine O Z<|cu Z<|O Z<|V [43] Z<|O Z<|aH eV [4] Z ?_;refine aL ?_;obtain rfl:=D h;exact⟨.inr Z,bl false,Z,bq.e ⟨.k,trivial⟩⟩
theorem Cf{W0:World}(hT:dc W0){dV:bT}{eU:bT}{r:Bool}(h:q9 dV eU=some r):bW Tryz.prog W0 19 [bT.av dV,bT.av eU] (bl r):=bW.two (Bg hT h) (by simp)

end Wk
