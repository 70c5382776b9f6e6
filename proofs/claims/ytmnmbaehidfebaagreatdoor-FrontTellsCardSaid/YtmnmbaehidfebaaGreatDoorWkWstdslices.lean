/- That the functions of a package do what their plain functions say. -/
import Derived.Test.YtmnmbaehidfebaaGreatDoorSh
import Derived.Test.YtmnmbaehidfebaaGreatDoorWkWFacts
import Derived.Test.YtmnmbaehidfebaaGreatDoorWkWstdcmp
open Go Go.Av Go.Proofs
set_option linter.unusedVariables false
set_option maxHeartbeats 8000000
set_option maxRecDepth 20000
namespace Wk
theorem xh{W0:World}(hT:cR W0){cC:List Int}{jw:Int}{r:Int}(h:G.jk cC jw=some r):cN Tryz.prog W0 81 [sm i64 cC,i64 jw] (i64 r) .empty:=by
 refine aM Tryz.func81 rfl (by kernel_rfl) Tryz.ntmps81 (by simp) ?_;unfold G.jk at h;show aZ _ _ _ _ ⟨[(0,sm i64 cC),(1,i64 jw)],.empty⟩ _;refine sr rfl fun K1 cJ=>AR.m rfl<|AR.k cJ [0,1] rfl ?_;refine aP (fun(p:Unit)=>(⟨[],.empty⟩:St)) (fun(p:Unit)=>G.jl=some r) ?_ ?_
 ·rintro⟨⟩ h;replace h:G.jl=some r:=h;unfold G.jl at h;refine sr rfl fun K2 cA=>AR.m rfl<|AR.nil<|cA _ ?_;refine aH ?_;obtain rfl:=Option.some.inj h;refine⟨.inr rfl,i64 (-1),rfl, ?_⟩;exact an.e ⟨.k,trivial⟩
 ·intro K3 dR;refine sr rfl fun K4 eG=>AR.m rfl<|AR.op rfl (aW i64 cC rfl rfl fR)<|AR.m rfl<|AR.k eG [0,1,7,8] rfl ?_;refine aG<|bu (fun(p:Int)=>G.f_ cC jw p) (fun(p:Int)=>(⟨[(0,sm i64 cC),(1,i64 jw),(7,i64 (Sh.len cC)),(8,i64 p)],.empty⟩:St)) h (an.kt [0,1,7,8] rfl) ?_
  ·skip
   rintro v22 o1 h fE;replace h:G.f_ cC jw v22=some o1:=h;unfold G.f_ at h;refine sr rfl fun K5 eu=>AR.op rfl (a_ rfl rfl rfl)<|AR.nil<|eu _ ?_;refine aF fun K6 eS=>aJ rfl (fun yj=> ?_) (fun yj=> ?_)
   ·replace h:=Sh.aU h yj;refine aI<|eS _ (aZ.aQ (an.kt [0,1,7,8] rfl) ?_);refine aF fun K7 fG=>aG<|sr rfl fun K8 gj=>AR.m rfl<|AR.m rfl<|AR.k gj [0,1,7,8,5] rfl ?_;refine sr rfl fun K9 jt=>AR.m rfl<|AR.m rfl<|AR.m rfl<|AR.kp [0,1,7,8,5,11,12,13] rfl ?_;obtain⟨Ct,Gp,h⟩:=Sh.aj h;obtain⟨k29,Gj,Gl⟩:=Sh.aO Gp;refine AR.op rfl (aN i64 cC Gj Gl rfl rfl rfl fR rfl)<|AR.l (i64 Ct) rfl rfl rfl cD rfl<|AR.op (r:=bl (decide (jw=Ct))) rfl (bY rfl rfl rfl)<|AR.k jt [0,1,7,8,5,16] rfl ?_;refine aJ rfl (fun kU=> ?_) (fun kU=> ?_)
    ·replace h:=Sh.aU h kU;refine sr rfl fun tY c8=>AR.m rfl<|AR.m rfl<|AR.k c8 [4] rfl ?_;refine aH ?_;replace h:=Sh.aV h fE;obtain rfl:=Option.some.inj h;refine⟨.inr rfl,i64 v22,rfl, ?_⟩;exact an.e ⟨.k,trivial⟩
    ·replace h:=Sh.aT h kU;refine aI<|fG _ (aZ.aQ (an.kt [0,1,7,8] rfl) ?_);refine aR rfl<|AR.op rfl (bB rfl rfl rfl rfl)<|AR.m rfl<|AR.nil ?_;replace h:=Sh.bF h;exact⟨_,h,an.kt [0,1,7,8] rfl⟩
   ·replace h:=Sh.aT h yj;refine bp ?_;replace h:=Sh.aV h fE;exact dR () _ h (an.kt [] rfl)
theorem xS{W0:World}(hT:cR W0){cC:List Int}{jw:Int}{r:Int}(h:G.jk cC jw=some r):bJ Tryz.prog W0 81 [sm i64 cC,i64 jw] (i64 r):=bJ.two (xh hT h) (by simp)


theorem vc{W0:World}(hT:cR W0){cC:List Int}{jw:Int}{r:Bool}(h:G.cM cC jw=some r):cN Tryz.prog W0 46 [sm i64 cC,i64 jw] (bl r) .empty:=by
 refine aM Tryz.func46 rfl (by kernel_rfl) Tryz.ntmps46 (by simp) ?_;unfold G.cM at h;show aZ _ _ _ _ ⟨[(0,sm i64 cC),(1,i64 jw)],.empty⟩ _;refine sr rfl fun K1 cJ=>AR.m rfl<|AR.k cJ [0,1] rfl ?_;refine sr rfl fun K2 cA=>AR.m rfl<|AR.m rfl ?_;obtain⟨r3,we,h⟩:=Sh.aj h;refine AR.op (r:=i64 r3) rfl (aL rfl rfl (by simp) (xS hT we))<|AR.kp [7] rfl<|AR.op rfl (dG rfl rfl rfl)<|AR.m rfl<|AR.k cA [4] rfl ?_;refine aH ?_;obtain rfl:=Option.some.inj h;refine⟨.inr rfl,bl (decide ((0:Int)≤r3)),rfl, ?_⟩;exact an.e ⟨.k,trivial⟩
theorem e6{W0:World}(hT:cR W0){cC:List Int}{jw:Int}{r:Bool}(h:G.cM cC jw=some r):bJ Tryz.prog W0 46 [sm i64 cC,i64 jw] (bl r):=bJ.two (vc hT h) (by simp)


theorem sA{W0:World}(hT:cR W0){cC:List G.aC}{jw:G.aC}{r:Int}(h:G.e7 cC jw=some r):cN Tryz.prog W0 90 [sm G.aC.av cC,G.aC.av jw] (i64 r) .empty:=by
 refine aM Tryz.func90 rfl (by kernel_rfl) Tryz.ntmps90 (by simp) ?_;unfold G.e7 at h;show aZ _ _ _ _ ⟨[(0,sm G.aC.av cC),(1,G.aC.av jw)],.empty⟩ _;refine sr rfl fun K1 cJ=>AR.op (r:=.ref 0 0 0) rfl (bx 2 [G.aC.av jw] rfl rfl rfl (.inl ⟨rfl,rfl⟩))<|AR.m rfl<|AR.nil<|cJ _ (aZ.aQ (an.e (fr':=[(0,sm G.aC.av cC),(3,.pp [i64 jw.Key,i64 jw.bH] 0)]) (H':=.empty) ⟨⟨(sm G.aC.av cC),rfl,.sm⟩,⟨_,rfl,.cx rfl rfl rfl rfl (by simp)⟩,trivial⟩) ?_);refine aP (fun(p:Unit)=>(⟨[],.empty⟩:St)) (fun(p:Unit)=>G.ek=some r) ?_ ?_
 ·rintro⟨⟩ h;replace h:G.ek=some r:=h;unfold G.ek at h;refine sr rfl fun K2 cA=>AR.m rfl<|AR.nil<|cA _ ?_;refine aH ?_;obtain rfl:=Option.some.inj h;refine⟨.inr rfl,i64 (-1),rfl, ?_⟩;exact an.e ⟨.k,trivial⟩
 ·intro K3 dR;refine sr rfl fun K4 eG=>AR.m rfl<|AR.op rfl (aW G.aC.av cC rfl rfl sL)<|AR.m rfl<|AR.k eG [0,3,7,8] rfl ?_;refine aG<|bu (fun(p:Int)=>G.dr cC jw p) (fun(p:Int)=>(⟨[(0,sm G.aC.av cC),(3,.pp [i64 jw.Key,i64 jw.bH] 0),(7,i64 (Sh.len cC)),(8,i64 p)],.empty⟩:St)) h (an.kt [0,3,7,8] rfl) ?_
  ·skip
   rintro v22 o1 h fE;replace h:G.dr cC jw v22=some o1:=h;unfold G.dr at h;refine sr rfl fun K5 eu=>AR.op rfl (a_ rfl rfl rfl)<|AR.nil<|eu _ ?_;refine aF fun K6 eS=>aJ rfl (fun yj=> ?_) (fun yj=> ?_)
   ·replace h:=Sh.aU h yj;refine aI<|eS _ (aZ.aQ (an.kt [0,3,7,8] rfl) ?_);refine aF fun K7 fG=>aG<|sr rfl fun K8 gj=>AR.m rfl<|AR.m rfl<|AR.k gj [0,3,7,8,5] rfl ?_;refine aF fun K9 jt=>cZ (List.replicate 6 (true,false)) (by kernel_rfl) (by kernel_rfl) rfl ?_;refine aD.l (G.aC.av jw) rfl rfl rfl uY rfl<|aD.m rfl<|aD.m rfl<|aD.kp [0,3,7,8,5,11,12,13] rfl ?_;obtain⟨Ct,Gp,h⟩:=Sh.aj h;obtain⟨k29,Gj,Gl⟩:=Sh.aO Gp;refine aD.dQ rfl (fun _=>aN G.aC.av cC Gj Gl rfl rfl rfl sL rfl)<|aD.l (G.aC.av Ct) rfl rfl rfl uY rfl<|aD.dQ (r:=bl (decide (jw=Ct))) rfl (fun _=>HO (a:=jw) (b:=Ct) rfl rfl rfl)<|aD.nil<|jt _ (aZ.aQ (an.kt [0,3,7,8,5,16] rfl) ?_);refine aJ rfl (fun kU=> ?_) (fun kU=> ?_)
    ·replace h:=Sh.aU h kU;refine sr rfl fun tY c8=>AR.m rfl<|AR.m rfl<|AR.k c8 [4] rfl ?_;refine aH ?_;replace h:=Sh.aV h fE;obtain rfl:=Option.some.inj h;refine⟨.inr rfl,i64 v22,rfl, ?_⟩;exact an.e ⟨.k,trivial⟩
    ·replace h:=Sh.aT h kU;refine aI<|fG _ (aZ.aQ (an.kt [0,3,7,8] rfl) ?_);refine aR rfl<|AR.op rfl (bB rfl rfl rfl rfl)<|AR.m rfl<|AR.nil ?_;replace h:=Sh.bF h;exact⟨_,h,an.kt [0,3,7,8] rfl⟩
   ·replace h:=Sh.aT h yj;refine bp ?_;replace h:=Sh.aV h fE;exact dR () _ h (an.kt [] rfl)
theorem sN{W0:World}(hT:cR W0){cC:List G.aC}{jw:G.aC}{r:Int}(h:G.e7 cC jw=some r):bJ Tryz.prog W0 90 [sm G.aC.av cC,G.aC.av jw] (i64 r):=bJ.two (sA hT h) (by simp)


theorem q_{W0:World}(hT:cR W0){cC:List G.aC}{jw:G.aC}{r:Bool}(h:G.c4 cC jw=some r):cN Tryz.prog W0 55 [sm G.aC.av cC,G.aC.av jw] (bl r) .empty:=by
 refine aM Tryz.func55 rfl (by kernel_rfl) Tryz.ntmps55 (by simp) ?_;unfold G.c4 at h;show aZ _ _ _ _ ⟨[(0,sm G.aC.av cC),(1,G.aC.av jw)],.empty⟩ _;refine sr rfl fun K1 cJ=>AR.op (r:=.ref 0 0 0) rfl (bx 2 [G.aC.av jw] rfl rfl rfl (.inl ⟨rfl,rfl⟩))<|AR.m rfl<|AR.nil<|cJ _ (aZ.aQ (an.e (fr':=[(0,sm G.aC.av cC),(3,.pp [i64 jw.Key,i64 jw.bH] 0)]) (H':=.empty) ⟨⟨(sm G.aC.av cC),rfl,.sm⟩,⟨_,rfl,.cx rfl rfl rfl rfl (by simp)⟩,trivial⟩) ?_);refine sr rfl fun K2 cA=>AR.m rfl<|AR.l (G.aC.av jw) rfl rfl rfl uY rfl ?_;obtain⟨r3,we,h⟩:=Sh.aj h;refine AR.op (r:=i64 r3) rfl (aL rfl rfl (by simp) (sN hT we))<|AR.kp [7] rfl<|AR.op rfl (dG rfl rfl rfl)<|AR.m rfl<|AR.k cA [4] rfl ?_;refine aH ?_;obtain rfl:=Option.some.inj h;refine⟨.inr rfl,bl (decide ((0:Int)≤r3)),rfl, ?_⟩;exact an.e ⟨.k,trivial⟩
theorem m0{W0:World}(hT:cR W0){cC:List G.aC}{jw:G.aC}{r:Bool}(h:G.c4 cC jw=some r):bJ Tryz.prog W0 55 [sm G.aC.av cC,G.aC.av jw] (bl r):=bJ.two (q_ hT h) (by simp)


theorem ri{W0:World}(hT:cR W0){cC:List G.aa}{jw:G.aa}{r:Int}(h:G.eo cC jw=some r):cN Tryz.prog W0 166 [sm G.aa.av cC,G.aa.av jw] (i64 r) .empty:=by
 refine aM Tryz.func166 rfl (by kernel_rfl) Tryz.ntmps166 (by simp) ?_;unfold G.eo at h;show aZ _ _ _ _ ⟨[(0,sm G.aa.av cC),(1,G.aa.av jw)],.empty⟩ _;refine sr rfl fun K1 cJ=>AR.op (r:=.ref 0 0 0) rfl (bx 3 [G.aa.av jw] rfl rfl rfl (.inl ⟨rfl,rfl⟩))<|AR.m rfl<|AR.nil<|cJ _ (aZ.aQ (an.e (fr':=[(0,sm G.aa.av cC),(3,.pp [i64 jw.Key,i64 jw.A,i64 jw.B] 0)]) (H':=.empty) ⟨⟨(sm G.aa.av cC),rfl,.sm⟩,⟨_,rfl,.cx rfl rfl rfl rfl (by simp)⟩,trivial⟩) ?_);refine aP (fun(p:Unit)=>(⟨[],.empty⟩:St)) (fun(p:Unit)=>G.dI=some r) ?_ ?_
 ·rintro⟨⟩ h;replace h:G.dI=some r:=h;unfold G.dI at h;refine sr rfl fun K2 cA=>AR.m rfl<|AR.nil<|cA _ ?_;refine aH ?_;obtain rfl:=Option.some.inj h;refine⟨.inr rfl,i64 (-1),rfl, ?_⟩;exact an.e ⟨.k,trivial⟩
 ·intro K3 dR;refine sr rfl fun K4 eG=>AR.m rfl<|AR.op rfl (aW G.aa.av cC rfl rfl Ww)<|AR.m rfl<|AR.k eG [0,3,7,8] rfl ?_;refine aG<|bu (fun(p:Int)=>G.c7 cC jw p) (fun(p:Int)=>(⟨[(0,sm G.aa.av cC),(3,.pp [i64 jw.Key,i64 jw.A,i64 jw.B] 0),(7,i64 (Sh.len cC)),(8,i64 p)],.empty⟩:St)) h (an.kt [0,3,7,8] rfl) ?_
  ·skip
   rintro v22 o1 h fE;replace h:G.c7 cC jw v22=some o1:=h;unfold G.c7 at h;refine sr rfl fun K5 eu=>AR.op rfl (a_ rfl rfl rfl)<|AR.nil<|eu _ ?_;refine aF fun K6 eS=>aJ rfl (fun yj=> ?_) (fun yj=> ?_)
   ·replace h:=Sh.aU h yj;refine aI<|eS _ (aZ.aQ (an.kt [0,3,7,8] rfl) ?_);refine aF fun K7 fG=>aG<|sr rfl fun K8 gj=>AR.m rfl<|AR.m rfl<|AR.k gj [0,3,7,8,5] rfl ?_;refine aF fun K9 jt=>cZ (List.replicate 6 (true,false)) (by kernel_rfl) (by kernel_rfl) rfl ?_;refine aD.l (G.aa.av jw) rfl rfl rfl ql rfl<|aD.m rfl<|aD.m rfl<|aD.kp [0,3,7,8,5,11,12,13] rfl ?_;obtain⟨Ct,Gp,h⟩:=Sh.aj h;obtain⟨k29,Gj,Gl⟩:=Sh.aO Gp;refine aD.dQ rfl (fun _=>aN G.aa.av cC Gj Gl rfl rfl rfl Ww rfl)<|aD.l (G.aa.av Ct) rfl rfl rfl ql rfl<|aD.dQ (r:=bl (decide (jw=Ct))) rfl (fun _=>uS (a:=jw) (b:=Ct) rfl rfl rfl)<|aD.nil<|jt _ (aZ.aQ (an.kt [0,3,7,8,5,16] rfl) ?_);refine aJ rfl (fun kU=> ?_) (fun kU=> ?_)
    ·replace h:=Sh.aU h kU;refine sr rfl fun tY c8=>AR.m rfl<|AR.m rfl<|AR.k c8 [4] rfl ?_;refine aH ?_;replace h:=Sh.aV h fE;obtain rfl:=Option.some.inj h;refine⟨.inr rfl,i64 v22,rfl, ?_⟩;exact an.e ⟨.k,trivial⟩
    ·replace h:=Sh.aT h kU;refine aI<|fG _ (aZ.aQ (an.kt [0,3,7,8] rfl) ?_);refine aR rfl<|AR.op rfl (bB rfl rfl rfl rfl)<|AR.m rfl<|AR.nil ?_;replace h:=Sh.bF h;exact⟨_,h,an.kt [0,3,7,8] rfl⟩
   ·replace h:=Sh.aT h yj;refine bp ?_;replace h:=Sh.aV h fE;exact dR () _ h (an.kt [] rfl)
theorem rH{W0:World}(hT:cR W0){cC:List G.aa}{jw:G.aa}{r:Int}(h:G.eo cC jw=some r):bJ Tryz.prog W0 166 [sm G.aa.av cC,G.aa.av jw] (i64 r):=bJ.two (ri hT h) (by simp)


theorem qk{W0:World}(hT:cR W0){cC:List G.aa}{jw:G.aa}{r:Bool}(h:G.c6 cC jw=some r):cN Tryz.prog W0 165 [sm G.aa.av cC,G.aa.av jw] (bl r) .empty:=by
 refine aM Tryz.func165 rfl (by kernel_rfl) Tryz.ntmps165 (by simp) ?_;unfold G.c6 at h;show aZ _ _ _ _ ⟨[(0,sm G.aa.av cC),(1,G.aa.av jw)],.empty⟩ _;refine sr rfl fun K1 cJ=>AR.op (r:=.ref 0 0 0) rfl (bx 3 [G.aa.av jw] rfl rfl rfl (.inl ⟨rfl,rfl⟩))<|AR.m rfl<|AR.nil<|cJ _ (aZ.aQ (an.e (fr':=[(0,sm G.aa.av cC),(3,.pp [i64 jw.Key,i64 jw.A,i64 jw.B] 0)]) (H':=.empty) ⟨⟨(sm G.aa.av cC),rfl,.sm⟩,⟨_,rfl,.cx rfl rfl rfl rfl (by simp)⟩,trivial⟩) ?_);refine sr rfl fun K2 cA=>AR.m rfl<|AR.l (G.aa.av jw) rfl rfl rfl ql rfl ?_;obtain⟨r3,we,h⟩:=Sh.aj h;refine AR.op (r:=i64 r3) rfl (aL rfl rfl (by simp) (rH hT we))<|AR.kp [7] rfl<|AR.op rfl (dG rfl rfl rfl)<|AR.m rfl<|AR.k cA [4] rfl ?_;refine aH ?_;obtain rfl:=Option.some.inj h;refine⟨.inr rfl,bl (decide ((0:Int)≤r3)),rfl, ?_⟩;exact an.e ⟨.k,trivial⟩
theorem qt{W0:World}(hT:cR W0){cC:List G.aa}{jw:G.aa}{r:Bool}(h:G.c6 cC jw=some r):bJ Tryz.prog W0 165 [sm G.aa.av cC,G.aa.av jw] (bl r):=bJ.two (qk hT h) (by simp)


end Wk
