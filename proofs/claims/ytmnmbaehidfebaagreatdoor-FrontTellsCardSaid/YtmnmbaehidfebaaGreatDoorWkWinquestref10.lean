/- That the functions of a package do what their plain functions say. -/
import Derived.Test.YtmnmbaehidfebaaGreatDoorSh
import Derived.Test.YtmnmbaehidfebaaGreatDoorWkWFacts
open Go Go.Av Go.Proofs
set_option linter.unusedVariables false
set_option maxHeartbeats 8000000
set_option maxRecDepth 20000
namespace Wk
theorem BB{W0:World}(hT:cR W0){wD:Int}{r:Bool}(h:G.mJ wD=some r):cN Tryz.prog W0 98 [i64 wD] (bl r) .empty:=by
 refine aM Tryz.func98 rfl (by kernel_rfl) Tryz.ntmps98 (by simp) ?_;unfold G.mJ at h;show aZ _ _ _ _ ⟨[(0,i64 wD)],.empty⟩ _;refine sr rfl fun K1 cJ=>AR.m rfl<|AR.k cJ [0] rfl ?_;refine sr rfl fun K2 cA=>AR.m rfl<|AR.op rfl (dG rfl rfl rfl)<|AR.m rfl<|AR.kp [0,5] rfl ?_;rcases tf (decide ((0:Int)≤wD)) with Uz|Uz
 ·rw[Uz];replace h:=Sh.aU h Uz;refine AR.m rfl<|AR.op rfl (IV rfl rfl rfl)<|AR.m rfl<|AR.kp [8] rfl<|AR.m rfl<|AR.k cA [2] rfl ?_;refine aH ?_;obtain rfl:=Option.some.inj h;refine⟨.inr rfl,bl (decide (wD≤63)),rfl, ?_⟩;exact an.e ⟨.k,trivial⟩
 ·rw[Uz];replace h:=Sh.aT h Uz;refine AR.s2 rfl rfl<|AR.m rfl<|AR.kp [8] rfl<|AR.m rfl<|AR.k cA [2] rfl ?_;refine aH ?_;obtain rfl:=Option.some.inj h;refine⟨.inr rfl,bl false,rfl, ?_⟩;exact an.e ⟨.k,trivial⟩
theorem vF{W0:World}(hT:cR W0){wD:Int}{r:Bool}(h:G.mJ wD=some r):bJ Tryz.prog W0 98 [i64 wD] (bl r):=bJ.two (BB hT h) (by simp)


theorem yz{W0:World}(hT:cR W0){wD:Int}{r:(BitVec 64)}(h:G.iE wD=some r):cN Tryz.prog W0 99 [i64 wD] (u64 r) .empty:=by
 refine aM Tryz.func99 rfl (by kernel_rfl) Tryz.ntmps99 (by simp) ?_;unfold G.iE at h;show aZ _ _ _ _ ⟨[(0,i64 wD)],.empty⟩ _;refine sr rfl fun K1 cJ=>AR.m rfl<|AR.k cJ [0] rfl ?_;refine sr rfl fun K2 cA=>AR.m rfl<|AR.nil<|cA _ ?_;refine aP (fun(p:(BitVec 64))=>(⟨[(3,u64 p)],.empty⟩:St)) (fun(p:(BitVec 64))=>G.kH p=some r) ?_ ?_
 ·rintro n9 h;replace h:G.kH n9=some r:=h;unfold G.kH at h;refine sr rfl fun K3 dR=>AR.m rfl<|AR.m rfl<|AR.k dR [2] rfl ?_;refine aH ?_;obtain rfl:=Option.some.inj h;refine⟨.inr rfl,u64 n9,rfl, ?_⟩;exact an.e ⟨.k,trivial⟩
 ·intro K4 eG;refine sr rfl fun K5 eu=>AR.m rfl<|AR.nil<|eu _ ?_;refine aG<|bu (fun(p:(BitVec 64)×Int)=>G.g_ wD p.1 p.2) (fun(p:(BitVec 64)×Int)=>(⟨[(0,i64 wD),(3,u64 p.1),(4,i64 p.2)],.empty⟩:St)) h (an.kt [0,3,4] rfl) ?_
  ·skip
   rintro⟨Uc,k13⟩ o1 h fE;replace h:G.g_ wD Uc k13=some o1:=h;unfold G.g_ at h;refine aF fun K6 eS=>sr rfl fun K7 fG=>AR.m rfl<|AR.m rfl<|AR.op rfl (a_ rfl rfl rfl)<|AR.k fG [0,3,4,7] rfl ?_;refine aJ rfl (fun m9=> ?_) (fun m9=> ?_)
   ·replace h:=Sh.aU h m9;refine aI<|eS _ (aZ.aQ (an.kt [0,3,4] rfl) ?_);refine aF fun K8 gj=>aG<|aR rfl<|AR.m rfl<|AR.m rfl<|AR.op (r:=u64 (Uc+Uc)) rfl (HV (a:=Uc) (b:=Uc) rfl rfl rfl)<|AR.kp [0,4,12] rfl<|AR.m rfl ?_;refine AR.k gj [0,4,3] rfl ?_;refine aR rfl<|AR.m rfl<|AR.op rfl (bB rfl rfl rfl rfl)<|AR.m rfl<|AR.nil ?_;replace h:=Sh.bF h;exact⟨_,h,an.kt [0,3,4] rfl⟩
   ·replace h:=Sh.aT h m9;refine bp ?_;replace h:=Sh.aV h fE;exact eG Uc _ h (an.kt [3] rfl)
theorem tw{W0:World}(hT:cR W0){wD:Int}{r:(BitVec 64)}(h:G.iE wD=some r):bJ Tryz.prog W0 99 [i64 wD] (u64 r):=bJ.two (yz hT h) (by simp)


theorem Am{W0:World}(hT:cR W0){cC:BitVec 64}{Ah:Int}{r:Bool}(h:G.iR cC Ah=some r):cN Tryz.prog W0 68 [u64 cC,i64 Ah] (bl r) .empty:=by
 refine aM Tryz.func68 rfl (by kernel_rfl) Tryz.ntmps68 (by simp) ?_;unfold G.iR at h;show aZ _ _ _ _ ⟨[(0,u64 cC),(1,i64 Ah)],.empty⟩ _;refine sr rfl fun K1 cJ=>AR.m rfl<|AR.k cJ [0,1] rfl ?_;refine aF fun K2 cA=>sr rfl fun K3 dR=>AR.m rfl ?_;obtain⟨r7,YL,h⟩:=Sh.aj h;refine AR.op (r:=bl r7) rfl (aL rfl rfl (by simp) (vF hT YL))<|AR.op (r:=bl (!r7)) rfl (cg rfl rfl)<|AR.k dR [0,1,7] rfl ?_;refine aJ rfl (fun Li=> ?_) (fun Li=> ?_)
 ·replace h:=Sh.aU h Li;refine sr rfl fun K4 eG=>AR.m rfl<|AR.k eG [4] rfl ?_;refine aH ?_;obtain rfl:=Option.some.inj h;refine⟨.inr rfl,bl false,rfl, ?_⟩;exact an.e ⟨.k,trivial⟩
 ·replace h:=Sh.aT h Li;refine aI<|cA _ (aZ.aQ (an.kt [0,1] rfl) ?_);refine sr rfl fun K5 eu=>AR.m rfl<|AR.m rfl ?_;obtain⟨Ei,EH,h⟩:=Sh.aj h;refine AR.op (r:=u64 Ei) rfl (aL rfl rfl (by simp) (tw hT EH))<|AR.kp [8,10] rfl ?_;obtain⟨q13,ajZ,h⟩:=Sh.aj h;refine AR.op (r:=u64 q13) rfl (ZD ajZ rfl rfl rfl) ?_;obtain⟨q14,aj0,h⟩:=Sh.aj h;refine AR.op (r:=u64 q14) rfl (ZE aj0 rfl rfl rfl)<|AR.op (r:=bl (decide (q14=1#64))) rfl (Ds (a:=q14) (b:=1#64) rfl rfl rfl)<|AR.kp [13] rfl<|AR.m rfl<|AR.k eu [4] rfl ?_;refine aH ?_;obtain rfl:=Option.some.inj h;refine⟨.inr rfl,bl (decide (q14=1#64)),rfl, ?_⟩;exact an.e ⟨.k,trivial⟩
theorem rD{W0:World}(hT:cR W0){cC:BitVec 64}{Ah:Int}{r:Bool}(h:G.iR cC Ah=some r):bJ Tryz.prog W0 68 [u64 cC,i64 Ah] (bl r):=bJ.two (Am hT h) (by simp)


theorem zw{W0:World}(hT:cR W0){cC:BitVec 64}{Ah:Int}{r:(BitVec 64)}(h:G.dS cC Ah=some r):cN Tryz.prog W0 70 [u64 cC,i64 Ah] (u64 r) .empty:=by
 refine aM Tryz.func70 rfl (by kernel_rfl) Tryz.ntmps70 (by simp) ?_;unfold G.dS at h;show aZ _ _ _ _ ⟨[(0,u64 cC),(1,i64 Ah)],.empty⟩ _;refine sr rfl fun K1 cJ=>AR.m rfl<|AR.k cJ [0,1] rfl ?_;refine sr rfl fun K2 cA=>AR.m rfl<|AR.m rfl ?_;obtain⟨r7,YL,h⟩:=Sh.aj h;refine AR.op (r:=bl r7) rfl (aL rfl rfl (by simp) (rD hT YL))<|AR.kp [0,1,8] rfl<|AR.m rfl<|AR.k cA [0,1,5] rfl ?_;refine aF fun K3 dR=>aP (fun(p:Bool)=>(⟨[(0,u64 cC),(1,i64 Ah),(14,bl p)],.empty⟩:St)) (fun(p:Bool)=>G.iS cC Ah p=some r) ?_ ?_
 ·rintro NA h;replace h:G.iS cC Ah NA=some r:=h;unfold G.iS at h;refine aJ rfl (fun m9=> ?_) (fun m9=> ?_)
  ·replace h:=Sh.aU h m9;refine sr rfl fun K4 eG=>AR.m rfl<|AR.m rfl<|AR.k eG [4] rfl ?_;refine aH ?_;obtain rfl:=Option.some.inj h;refine⟨.inr rfl,u64 cC,rfl, ?_⟩;exact an.e ⟨.k,trivial⟩
  ·replace h:=Sh.aT h m9;refine aI<|dR _ (aZ.aQ (an.kt [0,1] rfl) ?_);refine sr rfl fun K5 eu=>AR.m rfl<|AR.m rfl ?_;obtain⟨xY,Bw,h⟩:=Sh.aj h;refine AR.op (r:=u64 xY) rfl (aL rfl rfl (by simp) (tw hT Bw))<|AR.kp [16,18] rfl<|AR.op (r:=u64 (cC+xY)) rfl (HV (a:=cC) (b:=xY) rfl rfl rfl)<|AR.m rfl<|AR.k eu [4] rfl ?_;refine aH ?_;obtain rfl:=Option.some.inj h;refine⟨.inr rfl,u64 (cC+xY),rfl, ?_⟩;exact an.e ⟨.k,trivial⟩
 ·intro K6 eS;refine aR rfl<|AR.m rfl<|AR.m rfl ?_;rcases tf (r7) with Ab|Ab
  ·rw[Ab];replace h:=Sh.aU h Ab;refine AR.s rfl<|AR.kp [0,1,10,11] rfl<|AR.s2 rfl rfl<|AR.m rfl<|AR.nil ?_;exact eS true _ h (an.kt [0,1,14] rfl)
  ·rw[Ab];replace h:=Sh.aT h Ab;refine AR.m rfl<|AR.kp [0,1,10,11] rfl ?_;obtain⟨E7,M6,h⟩:=Sh.aj h;refine AR.op (r:=bl E7) rfl (aL rfl rfl (by simp) (vF hT M6))<|AR.op (r:=bl (!E7)) rfl (cg rfl rfl)<|AR.m rfl<|AR.nil ?_;exact eS (!E7) _ h (an.kt [0,1,14] rfl)
theorem gq{W0:World}(hT:cR W0){cC:BitVec 64}{Ah:Int}{r:(BitVec 64)}(h:G.dS cC Ah=some r):bJ Tryz.prog W0 70 [u64 cC,i64 Ah] (u64 r):=bJ.two (zw hT h) (by simp)

end Wk
