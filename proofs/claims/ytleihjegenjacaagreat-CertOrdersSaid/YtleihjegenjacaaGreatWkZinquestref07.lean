/- That the functions of a package do what their plain functions say. -/
import Derived.Test.YtleihjegenjacaaGreatSh
import Derived.Test.YtleihjegenjacaaGreatWkZFacts
open Go Go.Av Go.Proofs
set_option linter.unusedVariables false
set_option maxHeartbeats 8000000
set_option maxRecDepth 20000
namespace Wk
theorem uo{W0:World}(hT:dU W0){fc:List Int}{gI:List Int}{r:Bool}(h:G.lF fc gI=some r):eF Tryz.prog W0 42 [sm i64 fc,sm i64 gI] (bl r) .empty:=by
 refine aS Tryz.func42 rfl (by kernel_rfl) Tryz.ntmps42 (by simp) ?_;unfold G.lF at h;show bp _ _ _ _ ⟨[(0,sm i64 fc),(1,sm i64 gI)],.empty⟩ _;refine sr rfl fun K1 dH=>AR.m rfl<|AR.k dH [0,1] rfl ?_;refine aC fun K2 dz=>sr rfl fun K3 fG=>AR.m rfl<|AR.op rfl (aW i64 fc rfl rfl dS)<|AR.m rfl<|AR.kp [0,1,7,8] rfl<|AR.op rfl (aW i64 gI rfl rfl dS) ?_;refine AR.op (r:=bl (decide ((Sh.len fc)≠(Sh.len gI)))) rfl (fe rfl rfl rfl)<|AR.k fG [0,1,10] rfl ?_;refine aM rfl (fun qN=> ?_) (fun qN=> ?_)
 ·replace h:=Sh.bz h qN;refine sr rfl fun K4 gx=>AR.m rfl<|AR.k gx [4] rfl ?_;refine aF ?_;obtain rfl:=Option.some.inj h;refine⟨.inr rfl,bl false,rfl, ?_⟩;exact aq.e ⟨.k,trivial⟩
 ·replace h:=Sh.bw h qN;refine aJ<|dz _ (bp.aQ (aq.kt [0,1] rfl) ?_);refine bn (fun(p:Unit)=>(⟨[],.empty⟩:St)) (fun(p:Unit)=>G.jN=some r) ?_ ?_
  ·rintro⟨⟩ h;replace h:G.jN=some r:=h;unfold G.jN at h;refine sr rfl fun K5 gm=>AR.m rfl<|AR.nil<|gm _ ?_;refine aF ?_;obtain rfl:=Option.some.inj h;refine⟨.inr rfl,bl true,rfl, ?_⟩;exact aq.e ⟨.k,trivial⟩
  ·intro K6 iT;refine sr rfl fun K7 jI=>AR.m rfl<|AR.nil<|jI _ ?_;refine aL<|bU (fun(p:Int)=>G.jM fc gI p) (fun(p:Int)=>(⟨[(0,sm i64 fc),(1,sm i64 gI),(5,i64 p)],.empty⟩:St)) h (aq.kt [0,1,5] rfl) ?_
   ·skip
    rintro i39 o1 h ir;replace h:G.jM fc gI i39=some o1:=h;unfold G.jM at h;refine aC fun K8 kF=>sr rfl fun K9 kK=>AR.m rfl<|AR.m rfl<|AR.op rfl (aW i64 fc rfl rfl dS)<|AR.kp [0,1,5,11,13] rfl<|AR.op rfl (bO rfl rfl rfl) ?_;refine AR.k kK [0,1,5,14] rfl ?_;refine aM rfl (fun z6=> ?_) (fun z6=> ?_)
    ·replace h:=Sh.bz h z6;refine aJ<|kF _ (bp.aQ (aq.kt [0,1,5] rfl) ?_);refine aC fun uC eM=>aL<|aC fun zj iK=>fq (List.replicate 9 (true,false)) (by kernel_rfl) (by kernel_rfl) rfl ?_;refine aA.m rfl<|aA.m rfl ?_;obtain⟨FZ,JW,h⟩:=Sh.ai h;obtain⟨WM,Jp,JD⟩:=Sh.bg JW;refine aA.e_ rfl (fun _=>aR i64 fc Jp JD rfl rfl rfl dS rfl)<|aA.kp [0,1,5,19] rfl<|aA.l (i64 FZ) rfl rfl rfl eA rfl<|aA.m rfl<|aA.m rfl<|aA.kp [0,1,5,20,21,22] rfl ?_;obtain⟨Bs,Ft,h⟩:=Sh.ai h;obtain⟨Tk,Fo,Ed⟩:=Sh.bg Ft;refine aA.e_ rfl (fun _=>aR i64 gI Fo Ed rfl rfl rfl dS rfl)<|aA.l (i64 Bs) rfl rfl rfl eA rfl<|aA.e_ (r:=bl (decide (FZ≠Bs))) rfl (fun _=>fe rfl rfl rfl)<|aA.nil<|iK _ (bp.aQ (aq.kt [0,1,5,25] rfl) ?_);refine aM rfl (fun Ab=> ?_) (fun Ab=> ?_)
     ·replace h:=Sh.bz h Ab;refine sr rfl fun zk jc=>AR.m rfl<|AR.k jc [4] rfl ?_;refine aF ?_;replace h:=Sh.br h ir;obtain rfl:=Option.some.inj h;refine⟨.inr rfl,bl false,rfl, ?_⟩;exact aq.e ⟨.k,trivial⟩
     ·replace h:=Sh.bw h Ab;refine aJ<|eM _ (bp.aQ (aq.kt [0,1,5] rfl) ?_);refine bf rfl<|AR.m rfl<|AR.op rfl (bX rfl rfl rfl rfl)<|AR.m rfl<|AR.nil ?_;replace h:=Sh.cD h;exact⟨_,h,aq.kt [0,1,5] rfl⟩
    ·replace h:=Sh.bw h z6;refine bM ?_;replace h:=Sh.br h ir;exact iT () _ h (aq.kt [] rfl)
theorem u6{W0:World}(hT:dU W0){fc:List Int}{gI:List Int}{r:Bool}(h:G.lF fc gI=some r):cB Tryz.prog W0 42 [sm i64 fc,sm i64 gI] (bl r):=cB.two (uo hT h) (by simp)

end Wk
