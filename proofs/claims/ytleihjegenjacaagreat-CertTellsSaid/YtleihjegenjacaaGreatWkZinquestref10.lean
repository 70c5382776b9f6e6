/- That the functions of a package do what their plain functions say. -/
import Derived.Test.YtleihjegenjacaaGreatWkZFacts
open Go Go.Av Go.Proofs G Go.Sh Go.Av.Sh
set_option linter.unusedVariables false
set_option maxHeartbeats 8000000
set_option maxRecDepth 20000
namespace Wk
variable {W0:World}
theorem zN{Q2 r}(h:qE Q2=some r):F1 W0 180 [J Q2] (bl r):=by
 refine cB Tryz.func180 Tryz.ntmps180 ?_;unfold qE at h;refine aM aL 1 [0] Z ?_;refine sr Z fun K2 b7=>aB aL 3 [0,5] Z ?_;cases hb4:(decide ((0:Int)≤Q2))
 ·replace h:=b_ h hb4;refine aG aL b7 4 [2] Z ?_;cases h;exact aA rk
 ·replace h:=cg h hb4;refine aG aL b7 4 [2] Z ?_;cases h;exact aA rk


theorem w6{Q2 r}(h:lP Q2=some r):F1 W0 181 [J Q2] (u64 r):=by
 refine cB Tryz.func181 Tryz.ntmps181 ?_;unfold lP at h;refine aM aL 1 [0] Z ?_;refine sr Z fun K2 b7=>O Z<|ah<|b7 _ ?_;refine aO (fun(p:(BitVec 64))=>⟨[(3,u64 p)],.empty⟩) (fun p=>qd p=some r) ?_ ?_
 ·rintro n9 h;unfold qd at h;refine aM aL 2 [2] Z ?_;cases h;exact aA rk
 ·intro K4 gB;refine sr Z fun K5 ec=>O Z<|ah<|ec _ ?_;refine aF<|bq (fun(p:(BitVec 64)×Int)=>kM Q2 p.1 p.2) (fun p=>⟨[(0,J Q2),(3,u64 p.1),(4,J p.2)],.empty⟩) h (U [0,3,4] Z) ?_
  ·rintro⟨n12,k13⟩ o1 h dM;unfold kM at h;refine az fun K6 eE=>aM aL 3 [0,3,4,7] Z ?_;refine aT Z h (fun h=> ?_) (fun h=> ?_)
   ·refine aD<|eE _ (Y (U [0,3,4] Z) ?_);refine az fun K8 gd=>aF<|aW Z<|O Z<|O Z<|E (r:=u64 (n12+n12)) Z (LO (a:=n12) (b:=n12) Z Z Z)<|aG aL gd 1 [0,4,3] Z ?_;refine aW Z<|O Z<|E Z (bA Z Z Z Z)<|O Z<|ah ?_;replace h:=bE h;exact⟨_,h,U [0,3,4] Z⟩
   ·refine bp ?_;replace h:=aZ h dM;exact gB n12 _ h (U [3] Z)


theorem uH{b8 OY r}(h:lN b8 OY=some r):F1 W0 166 [u64 b8,J OY] (bl r):=by
 refine cB Tryz.func166 Tryz.ntmps166 ?_;unfold lN at h;refine aM aL 1 [0,1] Z ?_;refine az fun K2 b7=>sr Z fun K3 dZ=>O Z<|Sh.bd h fun r7 hr7 h=>E (r:=bl r7) Z (aK Z Z (by simp) (zN hr7))<|aG aL dZ 1 [0,1,7] Z ?_;refine aT Z h (fun h=> ?_) (fun h=> ?_)
 ·refine aM aL 1 [4] Z ?_;cases h;exact aA rk
 ·refine aD<|b7 _ (Y (U [0,1] Z) ?_);refine sr Z fun K5 ec=>O Z<|O Z<|Sh.bd h fun Cs Gy h=>E (r:=u64 Cs) Z (aK Z Z (by simp) (w6 Gy))<|V [8,10] Z<|Sh.bd h fun q13 apG h=> ?_;refine E (r:=u64 q13) Z (afp apG Z Z Z)<|Sh.bd h fun q14 apH h=>E (r:=u64 q14) Z (afq apH Z Z Z)<|E (r:=bl (decide (q14=1#64))) Z (S7 (a:=q14) (b:=1#64) Z Z Z)<|aG aL ec 1 [4] Z ?_;cases h;exact aA rk


theorem fM{b8 OY r}(h:eL b8 OY=some r):F1 W0 168 [u64 b8,J OY] (u64 r):=by
 refine cB Tryz.func168 Tryz.ntmps168 ?_;unfold eL at h;refine aM aL 1 [0,1] Z ?_;refine sr Z fun K2 b7=>O Z<|O Z<|Sh.bd h fun r7 hr7 h=>E (r:=bl r7) Z (aK Z Z (by simp) (uH hr7))<|aG aL b7 1 [0,1,5] Z ?_;refine az fun K3 dZ=>aO (fun(p:Bool)=>⟨[(0,u64 b8),(1,J OY),(14,bl p)],.empty⟩) (fun p=>mF b8 OY p=some r) ?_ ?_
 ·rintro v13 h;unfold mF at h;refine aT Z h (fun h=> ?_) (fun h=> ?_)
  ·refine aM aL 2 [4] Z ?_;cases h;exact aA rk
  ·refine aD<|dZ _ (Y (U [0,1] Z) ?_);refine sr Z fun K5 ec=>O Z<|O Z<|Sh.bd h fun IF IA h=>E (r:=u64 IF) Z (aK Z Z (by simp) (w6 IA))<|V [16,18] Z<|E (r:=u64 (b8+IF)) Z (LO (a:=b8) (b:=IF) Z Z Z) ?_;refine aG aL ec 1 [4] Z ?_;cases h;exact aA rk
 ·intro K6 eE;refine aW Z<|O Z<|O Z ?_;cases U_:(r7)
  ·replace h:=b_ h U_;refine aB aL 1 [0,1,10,11] Z ?_;refine Sh.bd h fun E9 ad0 h=>E (r:=bl E9) Z (aK Z Z (by simp) (zN ad0))<|aB aL 2 [0,1,14] Z ?_;refine ah ?_;exact eE (!E9) _ h (U [0,1,14] Z)
  ·replace h:=cg h U_;refine aB aL 4 [0,1,14] Z ?_;refine ah ?_;exact eE true _ h (U [0,1,14] Z)

end Wk
