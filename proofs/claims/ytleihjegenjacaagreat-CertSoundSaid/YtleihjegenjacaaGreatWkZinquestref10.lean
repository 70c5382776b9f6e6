/- That the functions of a package do what their plain functions say. -/
import Derived.Test.YtleihjegenjacaaGreatWkZFacts
open Go Go.Av Go.Proofs G Go.Sh Go.Av.Sh
set_option linter.unusedVariables false
set_option maxHeartbeats 8000000
set_option maxRecDepth 20000
namespace Wk
theorem Dk{W0:World}(hT:dc W0){GP:Int}{r:Bool}(h:mB GP=some r):dX Tryz.prog W0 180 [J GP] (bl r) .empty:=by
 refine aU Tryz.func180 Z (by kernel_rfl) Tryz.ntmps180 (by simp) ?_;unfold mB at h;show ec _ _ _ _ ⟨[(0,J GP)],.empty⟩ _;refine sr Z fun K1 c4=>O Z<|aH c4 [0] Z ?_;refine sr Z fun K2 cT=>O Z<|E Z (gI Z Z Z)<|O Z<|V [0,5] Z ?_;rcases tf (decide ((0:Int)≤GP)) with hb4|hb4
 ·rw[hb4];replace h:=dN h hb4;refine O Z<|E Z (GD Z Z Z)<|O Z<|V [8] Z<|O Z<|aH cT [2] Z ?_;refine aL ?_;obtain rfl:=D h;exact⟨.inr Z,bl (decide (GP≤63)),Z,bq.e ⟨.k,trivial⟩⟩
 ·rw[hb4];replace h:=dM h hb4;refine c9 Z Z<|O Z<|V [8] Z<|O Z<|aH cT [2] Z ?_;refine aL ?_;obtain rfl:=D h;exact⟨.inr Z,bl false,Z,bq.e ⟨.k,trivial⟩⟩
theorem w6{W0:World}(hT:dc W0){GP:Int}{r:Bool}(h:mB GP=some r):bW Tryz.prog W0 180 [J GP] (bl r):=bW.two (Dk hT h) (by simp)


theorem zS{W0:World}(hT:dc W0){GP:Int}{r:(BitVec 64)}(h:iT GP=some r):dX Tryz.prog W0 181 [J GP] (u64 r) .empty:=by
 refine aU Tryz.func181 Z (by kernel_rfl) Tryz.ntmps181 (by simp) ?_;unfold iT at h;show ec _ _ _ _ ⟨[(0,J GP)],.empty⟩ _;refine sr Z fun K1 c4=>O Z<|aH c4 [0] Z ?_;refine sr Z fun K2 cT=>O Z<|an<|cT _ ?_;refine aX (fun(p:(BitVec 64))=>⟨[(3,u64 p)],.empty⟩) (fun p=>ov p=some r) ?_ ?_
 ·rintro n9 h;unfold ov at h;refine sr Z fun K3 eN=>O Z<|O Z<|aH eN [2] Z ?_;refine aL ?_;obtain rfl:=D h;exact⟨.inr Z,u64 n9,Z,bq.e ⟨.k,trivial⟩⟩
 ·intro K4 e_;refine sr Z fun K5 eV=>O Z<|an<|eV _ ?_;refine aI<|bG (fun(p:(BitVec 64)×Int)=>kf GP p.1 p.2) (fun p=>⟨[(0,J GP),(3,u64 p.1),(4,J p.2)],.empty⟩) h (U [0,3,4] Z) ?_
  ·rintro⟨n12,k13⟩ o1 h fe;unfold kf at h;refine aD fun K6 fN=>sr Z fun K7 gx=>O Z<|O Z<|E Z (bE Z Z Z)<|aH gx [0,3,4,7] Z ?_;refine a_ Z h (fun h=> ?_) (fun h=> ?_)
   ·refine aM<|fN _ (Y (U [0,3,4] Z) ?_);refine aD fun K8 gT=>aI<|bf Z<|O Z<|O Z<|E (r:=u64 (n12+n12)) Z (JB (a:=n12) (b:=n12) Z Z Z)<|V [0,4,12] Z<|O Z ?_;refine aH gT [0,4,3] Z ?_;refine bf Z<|O Z<|E Z (bK Z Z Z Z)<|O Z<|an ?_;replace h:=bO h;exact⟨_,h,U [0,3,4] Z⟩
   ·refine bz ?_;replace h:=bp h fe;exact e_ n12 _ h (U [3] Z)
theorem uL{W0:World}(hT:dc W0){GP:Int}{r:(BitVec 64)}(h:iT GP=some r):bW Tryz.prog W0 181 [J GP] (u64 r):=bW.two (zS hT h) (by simp)


theorem B2{W0:World}(hT:dc W0){b7:BitVec 64}{Gu:Int}{r:Bool}(h:jg b7 Gu=some r):dX Tryz.prog W0 166 [u64 b7,J Gu] (bl r) .empty:=by
 refine aU Tryz.func166 Z (by kernel_rfl) Tryz.ntmps166 (by simp) ?_;unfold jg at h;show ec _ _ _ _ ⟨[(0,u64 b7),(1,J Gu)],.empty⟩ _;refine sr Z fun K1 c4=>O Z<|aH c4 [0,1] Z ?_;refine aD fun K2 cT=>sr Z fun K3 eN=>O Z ?_;obtain⟨r7,hr7,h⟩:=ai h;refine E (r:=bl r7) Z (aZ Z Z (by simp) (w6 hT hr7))<|E (r:=bl (!r7)) Z (cR Z Z)<|aH eN [0,1,7] Z ?_;refine a_ Z h (fun h=> ?_) (fun h=> ?_)
 ·refine sr Z fun K4 e_=>O Z<|aH e_ [4] Z ?_;refine aL ?_;obtain rfl:=D h;exact⟨.inr Z,bl false,Z,bq.e ⟨.k,trivial⟩⟩
 ·refine aM<|cT _ (Y (U [0,1] Z) ?_);refine sr Z fun K5 eV=>O Z<|O Z ?_;obtain⟨zB,ER,h⟩:=ai h;refine E (r:=u64 zB) Z (aZ Z Z (by simp) (uL hT ER))<|V [8,10] Z ?_;obtain⟨q13,ajG,h⟩:=ai h;refine E (r:=u64 q13) Z (aaD ajG Z Z Z) ?_;obtain⟨q14,ajH,h⟩:=ai h;refine E (r:=u64 q14) Z (aaE ajH Z Z Z)<|E (r:=bl (decide (q14=1#64))) Z (Qw (a:=q14) (b:=1#64) Z Z Z)<|V [13] Z<|O Z<|aH eV [4] Z ?_;refine aL ?_;obtain rfl:=D h;exact⟨.inr Z,bl (decide (q14=1#64)),Z,bq.e ⟨.k,trivial⟩⟩
theorem sG{W0:World}(hT:dc W0){b7:BitVec 64}{Gu:Int}{r:Bool}(h:jg b7 Gu=some r):bW Tryz.prog W0 166 [u64 b7,J Gu] (bl r):=bW.two (B2 hT h) (by simp)


theorem A0{W0:World}(hT:dc W0){b7:BitVec 64}{Gu:Int}{r:(BitVec 64)}(h:eD b7 Gu=some r):dX Tryz.prog W0 168 [u64 b7,J Gu] (u64 r) .empty:=by
 refine aU Tryz.func168 Z (by kernel_rfl) Tryz.ntmps168 (by simp) ?_;unfold eD at h;show ec _ _ _ _ ⟨[(0,u64 b7),(1,J Gu)],.empty⟩ _;refine sr Z fun K1 c4=>O Z<|aH c4 [0,1] Z ?_;refine sr Z fun K2 cT=>O Z<|O Z ?_;obtain⟨r7,hr7,h⟩:=ai h;refine E (r:=bl r7) Z (aZ Z Z (by simp) (sG hT hr7))<|V [0,1,8] Z<|O Z<|aH cT [0,1,5] Z ?_;refine aD fun K3 eN=>aX (fun(p:Bool)=>⟨[(0,u64 b7),(1,J Gu),(14,bl p)],.empty⟩) (fun p=>lH b7 Gu p=some r) ?_ ?_
 ·rintro Yr h;unfold lH at h;refine a_ Z h (fun h=> ?_) (fun h=> ?_)
  ·refine sr Z fun K4 e_=>O Z<|O Z<|aH e_ [4] Z ?_;refine aL ?_;obtain rfl:=D h;exact⟨.inr Z,u64 b7,Z,bq.e ⟨.k,trivial⟩⟩
  ·refine aM<|eN _ (Y (U [0,1] Z) ?_);refine sr Z fun K5 eV=>O Z<|O Z ?_;obtain⟨Bl,ES,h⟩:=ai h;refine E (r:=u64 Bl) Z (aZ Z Z (by simp) (uL hT ES))<|V [16,18] Z<|E (r:=u64 (b7+Bl)) Z (JB (a:=b7) (b:=Bl) Z Z Z)<|O Z<|aH eV [4] Z ?_;refine aL ?_;obtain rfl:=D h;exact⟨.inr Z,u64 (b7+Bl),Z,bq.e ⟨.k,trivial⟩⟩
 ·intro K6 fN;refine bf Z<|O Z<|O Z ?_;rcases tf (r7) with SB|SB
  ·rw[SB];replace h:=dN h SB;refine cu Z<|V [0,1,10,11] Z<|c9 Z Z<|O Z<|an ?_;exact fN true _ h (U [0,1,14] Z)
  ·rw[SB];replace h:=dM h SB;refine O Z<|V [0,1,10,11] Z ?_;obtain⟨zC,TC,h⟩:=ai h;refine E (r:=bl zC) Z (aZ Z Z (by simp) (w6 hT TC))<|E (r:=bl (!zC)) Z (cR Z Z)<|O Z<|an ?_;exact fN (!zC) _ h (U [0,1,14] Z)
theorem fP{W0:World}(hT:dc W0){b7:BitVec 64}{Gu:Int}{r:(BitVec 64)}(h:eD b7 Gu=some r):bW Tryz.prog W0 168 [u64 b7,J Gu] (u64 r):=bW.two (A0 hT h) (by simp)

end Wk
