/- That the functions of a package do what their plain functions say. -/
import Derived.Test.YtmnmbaehidfebaaGreatDoorSh
import Derived.Test.YtmnmbaehidfebaaGreatDoorWkWFacts
open Go Go.Av Go.Proofs
set_option linter.unusedVariables false
set_option maxHeartbeats 8000000
set_option maxRecDepth 20000
namespace Wk
theorem wS{W0:World}(hT:cR W0){jy:BitVec 64}{r:Int}(h:G.iI jy=some r):cN Tryz.prog W0 61 [u64 jy] (i64 r) .empty:=by
 refine aM Tryz.func61 rfl (by kernel_rfl) Tryz.ntmps61 (by simp) ?_;unfold G.iI at h;show aZ _ _ _ _ ⟨[(0,u64 jy)],.empty⟩ _;refine sr rfl fun K1 cJ=>AR.m rfl<|AR.k cJ [0] rfl ?_;refine aF fun K2 cA=>sr rfl fun K3 dR=>AR.m rfl<|AR.op (r:=bl (decide (jy=0#64))) rfl (Ds (a:=jy) (b:=0#64) rfl rfl rfl)<|AR.k dR [0,4] rfl ?_;refine aJ rfl (fun Uz=> ?_) (fun Uz=> ?_)
 ·replace h:=Sh.aU h Uz;refine sr rfl fun K4 eG=>AR.m rfl<|AR.k eG [2] rfl ?_;refine aH ?_;obtain rfl:=Option.some.inj h;refine⟨.inr rfl,i64 64,rfl, ?_⟩;exact an.e ⟨.k,trivial⟩
 ·replace h:=Sh.aT h Uz;refine aI<|cA _ (aZ.aQ (an.kt [0] rfl) ?_);refine sr rfl fun K5 eu=>AR.m rfl<|AR.m rfl<|AR.op (r:=u64 (-jy)) rfl (OB rfl rfl)<|AR.kp [5,7] rfl<|AR.op (r:=u64 (jy&&&(-jy))) rfl (NK (a:=jy) (b:= -jy) rfl rfl rfl)<|AR.op (r:=u64 ((jy&&&(-jy))*285870213051353865#64)) rfl (OA (a:=jy&&&(-jy)) (b:=285870213051353865#64) rfl rfl rfl) ?_;obtain⟨s8,hs8,h⟩:=Sh.aj h;refine AR.op (r:=u64 s8) rfl (ahZ hs8 rfl rfl rfl)<|AR.kp [10] rfl ?_;obtain⟨x9,hx9,h⟩:=Sh.aj h;obtain⟨k10,ai0,UE⟩:=Sh.aO hx9;refine AR.op rfl (J2 ai0 UE rfl rfl aaX hT)<|AR.op (r:=kA .u8 x9) rfl (zS rfl rfl sz5 (VK UE))<|AR.op (r:=i64 (fL x9)) rfl (Qk rfl rfl Tryz.underlying5 Tryz.underlying3 rfl)<|AR.kp [13] rfl<|AR.m rfl<|AR.k eu [2] rfl ?_;refine aH ?_;obtain rfl:=Option.some.inj h;refine⟨.inr rfl,i64 (fL x9),rfl, ?_⟩;exact an.e ⟨.k,trivial⟩
theorem xq{W0:World}(hT:cR W0){jy:BitVec 64}{r:Int}(h:G.iI jy=some r):bJ Tryz.prog W0 61 [u64 jy] (i64 r):=bJ.two (wS hT h) (by simp)

end Wk
