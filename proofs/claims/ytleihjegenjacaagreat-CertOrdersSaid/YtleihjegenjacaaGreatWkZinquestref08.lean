/- That the functions of a package do what their plain functions say. -/
import Derived.Test.YtleihjegenjacaaGreatSh
import Derived.Test.YtleihjegenjacaaGreatWkZFacts
open Go Go.Av Go.Proofs
set_option linter.unusedVariables false
set_option maxHeartbeats 8000000
set_option maxRecDepth 20000
namespace Wk
theorem u7{W0:World}(hT:dU W0){aV:G.af}{tG:Int}{r:Bool}(h:G.jm aV tG=some r):eF Tryz.prog W0 8 [G.af.av aV,i64 tG] (bl r) .empty:=by
 refine aS Tryz.func8 rfl (by kernel_rfl) Tryz.ntmps8 (by simp) ?_;unfold G.jm at h;show bp _ _ _ _ ⟨[(0,G.af.av aV),(1,i64 tG)],.empty⟩ _;refine sr rfl fun K1 dH=>AR.op (r:=.ref 0 0 0) rfl (bT 1 [G.af.av aV] rfl rfl rfl (.inl ⟨rfl,rfl⟩))<|AR.m rfl<|AR.nil<|dH _ (bp.aQ (aq.e (fr':=[(1,i64 tG),(2,.pp [sm G.ah.av aV.aG] 0)]) (H':=.empty) ⟨.k,⟨_,rfl,.e9 rfl rfl rfl rfl (by simp)⟩,trivial⟩) ?_);refine aC fun K2 dz=>sr rfl fun K3 fG=>AR.f rfl fm<|AR.l (sm G.ah.av aV.aG) rfl rfl rfl mH rfl<|AR.op rfl (aW G.ah.av aV.aG rfl rfl lN)<|AR.kp [1,2,8] rfl<|AR.m rfl ?_;refine AR.op rfl (fE rfl rfl rfl)<|AR.k fG [2,10] rfl ?_;refine aM rfl (fun uY=> ?_) (fun uY=> ?_)
 ·replace h:=Sh.bz h uY;refine sr rfl fun K4 gx=>AR.m rfl<|AR.k gx [4] rfl ?_;refine aF ?_;obtain rfl:=Option.some.inj h;refine⟨.inr rfl,bl false,rfl, ?_⟩;exact aq.e ⟨.k,trivial⟩
 ·replace h:=Sh.bw h uY;refine aJ<|dz _ (bp.aQ (aq.kt [2] rfl) ?_);refine bn (fun(p:Unit)=>(⟨[],.empty⟩:St)) (fun(p:Unit)=>G.iV=some r) ?_ ?_
  ·rintro⟨⟩ h;replace h:G.iV=some r:=h;unfold G.iV at h;refine sr rfl fun K5 gm=>AR.m rfl<|AR.nil<|gm _ ?_;refine aF ?_;obtain rfl:=Option.some.inj h;refine⟨.inr rfl,bl true,rfl, ?_⟩;exact aq.e ⟨.k,trivial⟩
  ·intro K6 iT;refine sr rfl fun K7 jI=>AR.m rfl<|AR.nil<|jI _ ?_;refine aL<|bU (fun(p:Int)=>G.gu aV p) (fun(p:Int)=>(⟨[(2,.pp [sm G.ah.av aV.aG] 0),(5,i64 p)],.empty⟩:St)) h (aq.kt [2,5] rfl) ?_
   ·skip
    rintro i55 o1 h ir;replace h:G.gu aV i55=some o1:=h;unfold G.gu at h;refine aC fun K8 kF=>sr rfl fun K9 kK=>AR.m rfl<|AR.f rfl fm<|AR.l (sm G.ah.av aV.aG) rfl rfl rfl mH rfl<|AR.kp [2,5,11,13] rfl<|AR.op rfl (aW G.ah.av aV.aG rfl rfl lN) ?_;refine AR.op rfl (bO rfl rfl rfl)<|AR.k kK [2,5,15] rfl ?_;refine aM rfl (fun NF=> ?_) (fun NF=> ?_)
    ·replace h:=Sh.bz h NF;refine aJ<|kF _ (bp.aQ (aq.kt [2,5] rfl) ?_);refine aC fun uC eM=>aL<|bn (fun(p:Bool)=>(⟨[(2,.pp [sm G.ah.av aV.aG] 0),(5,i64 i55),(35,bl p)],.empty⟩:St)) (fun(p:Bool)=>G.gv i55 p=some o1) ?_ ?_
     ·rintro Wd h;replace h:G.gv i55 Wd=some o1:=h;unfold G.gv at h;refine aM rfl (fun NI=> ?_) (fun NI=> ?_)
      ·replace h:=Sh.bz h NI;refine sr rfl fun zj iK=>AR.m rfl<|AR.k iK [4] rfl ?_;refine aF ?_;replace h:=Sh.br h ir;obtain rfl:=Option.some.inj h;refine⟨.inr rfl,bl false,rfl, ?_⟩;exact aq.e ⟨.k,trivial⟩
      ·replace h:=Sh.bw h NI;refine aJ<|eM _ (bp.aQ (aq.kt [2,5] rfl) ?_);refine bf rfl<|AR.m rfl<|AR.op rfl (bX rfl rfl rfl rfl)<|AR.m rfl<|AR.nil ?_;replace h:=Sh.cD h;exact⟨_,h,aq.kt [2,5] rfl⟩
     ·intro zk jc;refine bf rfl<|AR.f rfl fm<|AR.l (sm G.ah.av aV.aG) rfl rfl rfl mH rfl<|AR.m rfl<|AR.kp [2,5,19,20] rfl ?_;obtain⟨SV,Vu,h⟩:=Sh.ai h;obtain⟨Yu,Ua,UB⟩:=Sh.bg Vu;refine AR.op rfl (aR G.ah.av aV.aG Ua UB rfl rfl rfl lN rfl)<|AR.f rfl uQ<|AR.l (sm i64 SV.bD) rfl rfl rfl fo rfl<|AR.kp [2,5,23] rfl<|AR.op rfl (aW i64 SV.bD rfl rfl dS)<|AR.op rfl (fE rfl rfl rfl)<|AR.m rfl<|AR.kp [2,5,26] rfl ?_;rcases tf (decide ((20:Int)<(Sh.len SV.bD))) with I9|I9
      ·rw[I9];replace h:=Sh.bz h I9;refine AR.s3 rfl rfl rfl<|AR.kp [2,5,26,27,28,29] rfl<|AR.s3 rfl rfl rfl<|AR.kp [2,5,26,27,28,29,30,31,32] rfl ?_;refine AR.s2 rfl rfl<|AR.m rfl<|AR.nil ?_;exact jc true _ h (aq.kt [2,5,35] rfl)
      ·rw[I9];replace h:=Sh.bw h I9;refine AR.f rfl fm<|AR.l (sm G.ah.av aV.aG) rfl rfl rfl mH rfl<|AR.m rfl<|AR.kp [2,5,26,27,28,29] rfl ?_;obtain⟨SX,Vv,h⟩:=Sh.ai h;obtain⟨Yv,Ub,UC⟩:=Sh.bg Vv;refine AR.op rfl (aR G.ah.av aV.aG Ub UC rfl rfl rfl lN rfl)<|AR.f rfl uR<|AR.l (sm G.aj.av SX.Reads) rfl rfl rfl AO rfl<|AR.kp [2,5,26,27,28,29,30,31,32] rfl<|AR.op rfl (aW G.aj.av SX.Reads rfl rfl sD)<|AR.op rfl (fE rfl rfl rfl)<|AR.m rfl<|AR.nil ?_;exact jc (decide ((20:Int)<(Sh.len SX.Reads))) _ h (aq.kt [2,5,35] rfl)
    ·replace h:=Sh.bw h NF;refine bM ?_;replace h:=Sh.br h ir;exact iT () _ h (aq.kt [] rfl)
theorem vJ{W0:World}(hT:dU W0){aV:G.af}{tG:Int}{r:Bool}(h:G.jm aV tG=some r):cB Tryz.prog W0 8 [G.af.av aV,i64 tG] (bl r):=cB.two (u7 hT h) (by simp)

end Wk
