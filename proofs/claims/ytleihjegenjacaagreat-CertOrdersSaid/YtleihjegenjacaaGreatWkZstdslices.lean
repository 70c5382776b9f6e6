/- That the functions of a package do what their plain functions say. -/
import Derived.Test.YtleihjegenjacaaGreatSh
import Derived.Test.YtleihjegenjacaaGreatWkZFacts
open Go Go.Av Go.Proofs
set_option linter.unusedVariables false
set_option maxHeartbeats 8000000
set_option maxRecDepth 20000
namespace Wk
theorem iq{W0:World}(hT:dU W0){bN:List Int}{r:Unit}(h:G.ec bN=some r):kQ Tryz.prog (.pinned W0 0) 57 [sm i64 bN] .empty (.aX (.func 93) [.pp [sm i64 bN] 0]) .empty:=by
 refine cU rfl Tryz.func57 rfl (by kernel_rfl) Tryz.ntmps57 (by simp) ?_;unfold G.ec at h;show bp _ _ _ _ ⟨[(0,sm i64 bN)],.empty⟩ _;refine sr rfl fun K1 dH=>AR.op (r:=.ref 0 0 0) rfl (bT 1 [sm i64 bN] rfl rfl rfl (.inl ⟨rfl,rfl⟩))<|AR.m rfl<|AR.nil<|dH _ (bp.aQ (aq.e (fr':=[(1,.pp [sm i64 bN] 0)]) (H':=.empty) ⟨⟨_,rfl,.e9 rfl rfl rfl rfl (by simp)⟩,trivial⟩) ?_);refine sr rfl fun K2 dz=>AR.op (r:=.aX (.func 93) [.pp [sm i64 bN] 0]) rfl (dL rfl rfl)<|AR.m rfl<|AR.k dz [2] rfl ?_;refine aF ?_;obtain rfl:=Option.some.inj h;refine⟨.inr rfl,.aX (.func 93) [.pp [sm i64 bN] 0],rfl, ?_⟩;exact aq.e ⟨⟨.aX (.func 93) [.pp [sm i64 bN] 0],rfl,.sm⟩,trivial⟩


theorem sq{W0:World}(hT:dU W0){bN:List Int}{nR:Int}{r:Int}(h:G.gf bN nR=some r):eF Tryz.prog W0 63 [sm i64 bN,i64 nR] (i64 r) .empty:=by
 refine aS Tryz.func63 rfl (by kernel_rfl) Tryz.ntmps63 (by simp) ?_;unfold G.gf at h;show bp _ _ _ _ ⟨[(0,sm i64 bN),(1,i64 nR)],.empty⟩ _;refine sr rfl fun K1 dH=>AR.m rfl<|AR.k dH [0,1] rfl ?_;refine bn (fun(p:Unit)=>(⟨[],.empty⟩:St)) (fun(p:Unit)=>G.gi=some r) ?_ ?_
 ·rintro⟨⟩ h;replace h:G.gi=some r:=h;unfold G.gi at h;refine sr rfl fun K2 dz=>AR.m rfl<|AR.nil<|dz _ ?_;refine aF ?_;obtain rfl:=Option.some.inj h;refine⟨.inr rfl,i64 (-1),rfl, ?_⟩;exact aq.e ⟨.k,trivial⟩
 ·intro K3 fG;refine sr rfl fun K4 gx=>AR.m rfl<|AR.op rfl (aW i64 bN rfl rfl dS)<|AR.m rfl<|AR.k gx [0,1,7,8] rfl ?_;refine aL<|bU (fun(p:Int)=>G.eU bN nR p) (fun(p:Int)=>(⟨[(0,sm i64 bN),(1,i64 nR),(7,i64 (Sh.len bN)),(8,i64 p)],.empty⟩:St)) h (aq.kt [0,1,7,8] rfl) ?_
  ·skip
   rintro v22 o1 h ir;replace h:G.eU bN nR v22=some o1:=h;unfold G.eU at h;refine sr rfl fun K5 gm=>AR.op rfl (bO rfl rfl rfl)<|AR.nil<|gm _ ?_;refine aC fun K6 iT=>aM rfl (fun Fj=> ?_) (fun Fj=> ?_)
   ·replace h:=Sh.bz h Fj;refine aJ<|iT _ (bp.aQ (aq.kt [0,1,7,8] rfl) ?_);refine aC fun K7 jI=>aL<|sr rfl fun K8 kF=>AR.m rfl<|AR.m rfl<|AR.k kF [0,1,7,8,5] rfl ?_;refine sr rfl fun K9 kK=>AR.m rfl<|AR.m rfl<|AR.m rfl<|AR.kp [0,1,7,8,5,11,12,13] rfl ?_;obtain⟨Lc,Oj,h⟩:=Sh.ai h;obtain⟨XK,NY,N2⟩:=Sh.bg Oj;refine AR.op rfl (aR i64 bN NY N2 rfl rfl rfl dS rfl)<|AR.l (i64 Lc) rfl rfl rfl eA rfl<|AR.op (r:=bl (decide (nR=Lc))) rfl (er rfl rfl rfl)<|AR.k kK [0,1,7,8,5,16] rfl ?_;refine aM rfl (fun tA=> ?_) (fun tA=> ?_)
    ·replace h:=Sh.bz h tA;refine sr rfl fun uC eM=>AR.m rfl<|AR.m rfl<|AR.k eM [4] rfl ?_;refine aF ?_;replace h:=Sh.br h ir;obtain rfl:=Option.some.inj h;refine⟨.inr rfl,i64 v22,rfl, ?_⟩;exact aq.e ⟨.k,trivial⟩
    ·replace h:=Sh.bw h tA;refine aJ<|jI _ (bp.aQ (aq.kt [0,1,7,8] rfl) ?_);refine bf rfl<|AR.op rfl (bX rfl rfl rfl rfl)<|AR.m rfl<|AR.nil ?_;replace h:=Sh.cD h;exact⟨_,h,aq.kt [0,1,7,8] rfl⟩
   ·replace h:=Sh.bw h Fj;refine bM ?_;replace h:=Sh.br h ir;exact fG () _ h (aq.kt [] rfl)
theorem sV{W0:World}(hT:dU W0){bN:List Int}{nR:Int}{r:Int}(h:G.gf bN nR=some r):cB Tryz.prog W0 63 [sm i64 bN,i64 nR] (i64 r):=cB.two (sq hT h) (by simp)


theorem qn{W0:World}(hT:dU W0){bN:List Int}{nR:Int}{r:Bool}(h:G.cS bN nR=some r):eF Tryz.prog W0 95 [sm i64 bN,i64 nR] (bl r) .empty:=by
 refine aS Tryz.func95 rfl (by kernel_rfl) Tryz.ntmps95 (by simp) ?_;unfold G.cS at h;show bp _ _ _ _ ⟨[(0,sm i64 bN),(1,i64 nR)],.empty⟩ _;refine sr rfl fun K1 dH=>AR.m rfl<|AR.k dH [0,1] rfl ?_;refine sr rfl fun K2 dz=>AR.m rfl<|AR.m rfl ?_;obtain⟨r3,u5,h⟩:=Sh.ai h;refine AR.op (r:=i64 r3) rfl (bh rfl rfl (by simp) (sV hT u5))<|AR.kp [7] rfl<|AR.op rfl (iH rfl rfl rfl)<|AR.m rfl<|AR.k dz [4] rfl ?_;refine aF ?_;obtain rfl:=Option.some.inj h;refine⟨.inr rfl,bl (decide ((0:Int)≤r3)),rfl, ?_⟩;exact aq.e ⟨.k,trivial⟩
theorem eZ{W0:World}(hT:dU W0){bN:List Int}{nR:Int}{r:Bool}(h:G.cS bN nR=some r):cB Tryz.prog W0 95 [sm i64 bN,i64 nR] (bl r):=cB.two (qn hT h) (by simp)


theorem mU{W0:World}(hT:dU W0){bN:List Int}{r:List Int}(h:G.iA bN=some r):eF Tryz.prog W0 37 [sm i64 bN] (.view 0 0 (List.map i64 r).length) ⟨1,[(0,(1,List.map i64 r))],[]⟩:=by
 refine aS Tryz.func37 rfl (by kernel_rfl) Tryz.ntmps37 (by simp) ?_;replace h:Sh.app 8 [] bN=some r:=h;show bp _ _ _ _ ⟨[(0,sm i64 bN)],.empty⟩ _;refine sr rfl fun K1 dH=>AR.m rfl<|AR.k dH [0] rfl ?_;refine aC fun K2 dz=>aC fun K3 fG=>Gy (es:=List.map i64 bN) rfl rfl rfl rfl rfl rfl (by decide) (by decide) Tryz.underlying25 rfl (fun b hb=> ?_);refine fG _ (bp.aQ (aq.kt [0,4] rfl) ?_);refine aM rfl (fun hc=> ?_) (fun hc=> ?_)
 ·obtain rfl:bN=[]:=by simpa using hb hc
  obtain rfl:r=[]:=by simpa using (Sh.uI h).2
  refine sr rfl fun K4 gx=>AR.m rfl<|AR.k gx [2] rfl ?_;refine aF<|⟨.inr rfl,aH,rfl, ?_⟩;exact aq.re [] [0] rfl rfl rfl (.fresh (by simp) dt trivial) ⟨⟨_,rfl,.nil (by simp)⟩,trivial⟩
 ·refine aJ<|dz _ (bp.aQ (aq.kt [0] rfl) ?_);refine sr rfl fun K5 gm=>AR.op (r:=.clip []) rfl (aZ rfl (xo:=[]) rfl rfl rfl (by simp) (by simp) dS wN (by decide))<|AR.m rfl<|AR.op (r:=.view 0 0 (List.map i64 r).length) rfl (EN bN r h w_ (fun _=>rfl) rfl rfl rfl rfl rfl)<|AR.m rfl<|AR.k gm [2] rfl ?_;refine aF<|⟨.inr rfl,.view 0 0 (List.map i64 r).length,rfl, ?_⟩;exact aq.re [(0,0)] [] rfl rfl rfl (.cons rfl rfl (.same (by simp)) dt trivial) ⟨⟨_,rfl,.view rfl⟩,trivial⟩
theorem sS{W0:World}(hT:dU W0){bN:List Int}{r:List Int}(h:G.iA bN=some r):cB Tryz.prog W0 37 [sm i64 bN] (sm i64 r):=
 (mU hT h).zS (aq.e ⟨⟨_,rfl,.dP rfl rfl (by simp)⟩,trivial⟩) (by simp)


theorem nu{W0:World}(hT:dU W0){kD:List G.aj}{lU:List G.aj}{r:Bool}(h:G.dJ kD lU=some r):eF Tryz.prog W0 52 [sm G.aj.av kD,sm G.aj.av lU] (bl r) .empty:=by
 refine aS Tryz.func52 rfl (by kernel_rfl) Tryz.ntmps52 (by simp) ?_;unfold G.dJ at h;show bp _ _ _ _ ⟨[(0,sm G.aj.av kD),(1,sm G.aj.av lU)],.empty⟩ _;refine sr rfl fun K1 dH=>AR.m rfl<|AR.k dH [0,1] rfl ?_;refine aC fun K2 dz=>sr rfl fun K3 fG=>AR.m rfl<|AR.op rfl (aW G.aj.av kD rfl rfl sD)<|AR.m rfl<|AR.kp [0,1,7,8] rfl<|AR.op rfl (aW G.aj.av lU rfl rfl sD) ?_;refine AR.op (r:=bl (decide ((Sh.len kD)≠(Sh.len lU)))) rfl (fe rfl rfl rfl)<|AR.k fG [0,1,10] rfl ?_;refine aM rfl (fun qN=> ?_) (fun qN=> ?_)
 ·replace h:=Sh.bz h qN;refine sr rfl fun K4 gx=>AR.m rfl<|AR.k gx [4] rfl ?_;refine aF ?_;obtain rfl:=Option.some.inj h;refine⟨.inr rfl,bl false,rfl, ?_⟩;exact aq.e ⟨.k,trivial⟩
 ·replace h:=Sh.bw h qN;refine aJ<|dz _ (bp.aQ (aq.kt [0,1] rfl) ?_);refine bn (fun(p:Unit)=>(⟨[],.empty⟩:St)) (fun(p:Unit)=>G.dO=some r) ?_ ?_
  ·rintro⟨⟩ h;replace h:G.dO=some r:=h;unfold G.dO at h;refine sr rfl fun K5 gm=>AR.m rfl<|AR.nil<|gm _ ?_;refine aF ?_;obtain rfl:=Option.some.inj h;refine⟨.inr rfl,bl true,rfl, ?_⟩;exact aq.e ⟨.k,trivial⟩
  ·intro K6 iT;refine sr rfl fun K7 jI=>AR.m rfl<|AR.op rfl (aW G.aj.av kD rfl rfl sD)<|AR.m rfl<|AR.k jI [0,1,12,13] rfl ?_;refine aL<|bU (fun(p:Int)=>G.cT kD lU p) (fun(p:Int)=>(⟨[(0,sm G.aj.av kD),(1,sm G.aj.av lU),(12,i64 (Sh.len kD)),(13,i64 p)],.empty⟩:St)) h (aq.kt [0,1,12,13] rfl) ?_
   ·skip
    rintro v39 o1 h ir;replace h:G.cT kD lU v39=some o1:=h;unfold G.cT at h;refine sr rfl fun K8 kF=>AR.op rfl (bO rfl rfl rfl)<|AR.nil<|kF _ ?_;refine aC fun K9 kK=>aM rfl (fun z6=> ?_) (fun z6=> ?_)
    ·replace h:=Sh.bz h z6;refine aJ<|kK _ (bp.aQ (aq.kt [0,1,12,13] rfl) ?_);refine aC fun uC eM=>aL<|sr rfl fun zj iK=>AR.m rfl<|AR.m rfl<|AR.k iK [0,1,12,13,5] rfl ?_;refine aC fun zk jc=>fq (List.replicate 9 (true,false)) (by kernel_rfl) (by kernel_rfl) rfl ?_;refine aA.m rfl<|aA.m rfl ?_;obtain⟨FZ,JW,h⟩:=Sh.ai h;obtain⟨WM,Jp,JD⟩:=Sh.bg JW;refine aA.e_ rfl (fun _=>aR G.aj.av kD Jp JD rfl rfl rfl sD rfl)<|aA.kp [0,1,12,13,5,18] rfl<|aA.l (G.aj.av FZ) rfl rfl rfl Bo rfl<|aA.m rfl<|aA.m rfl<|aA.kp [0,1,12,13,19,20,21] rfl ?_;obtain⟨Bs,Ft,h⟩:=Sh.ai h;obtain⟨Tk,Fo,Ed⟩:=Sh.bg Ft;refine aA.e_ rfl (fun _=>aR G.aj.av lU Fo Ed rfl rfl rfl sD rfl)<|aA.l (G.aj.av Bs) rfl rfl rfl Bo rfl<|aA.e_ (r:=bl (!decide (FZ=Bs))) rfl (fun _=>Bq (a:=FZ) (b:=Bs) rfl rfl rfl)<|aA.nil<|jc _ (bp.aQ (aq.kt [0,1,12,13,24] rfl) ?_);refine aM rfl (fun Ab=> ?_) (fun Ab=> ?_)
     ·replace h:=Sh.bz h Ab;refine sr rfl fun A7 j6=>AR.m rfl<|AR.k j6 [4] rfl ?_;refine aF ?_;replace h:=Sh.br h ir;obtain rfl:=Option.some.inj h;refine⟨.inr rfl,bl false,rfl, ?_⟩;exact aq.e ⟨.k,trivial⟩
     ·replace h:=Sh.bw h Ab;refine aJ<|eM _ (bp.aQ (aq.kt [0,1,12,13] rfl) ?_);refine bf rfl<|AR.op rfl (bX rfl rfl rfl rfl)<|AR.m rfl<|AR.nil ?_;replace h:=Sh.cD h;exact⟨_,h,aq.kt [0,1,12,13] rfl⟩
    ·replace h:=Sh.bw h z6;refine bM ?_;replace h:=Sh.br h ir;exact iT () _ h (aq.kt [] rfl)
theorem nQ{W0:World}(hT:dU W0){kD:List G.aj}{lU:List G.aj}{r:Bool}(h:G.dJ kD lU=some r):cB Tryz.prog W0 52 [sm G.aj.av kD,sm G.aj.av lU] (bl r):=cB.two (nu hT h) (by simp)


theorem sn{W0:World}(hT:dU W0){kD:List Int}{lU:List Int}{r:Bool}(h:G.f_ kD lU=some r):eF Tryz.prog W0 88 [sm i64 kD,sm i64 lU] (bl r) .empty:=by
 refine aS Tryz.func88 rfl (by kernel_rfl) Tryz.ntmps88 (by simp) ?_;unfold G.f_ at h;show bp _ _ _ _ ⟨[(0,sm i64 kD),(1,sm i64 lU)],.empty⟩ _;refine sr rfl fun K1 dH=>AR.m rfl<|AR.k dH [0,1] rfl ?_;refine aC fun K2 dz=>sr rfl fun K3 fG=>AR.m rfl<|AR.op rfl (aW i64 kD rfl rfl dS)<|AR.m rfl<|AR.kp [0,1,7,8] rfl<|AR.op rfl (aW i64 lU rfl rfl dS) ?_;refine AR.op (r:=bl (decide ((Sh.len kD)≠(Sh.len lU)))) rfl (fe rfl rfl rfl)<|AR.k fG [0,1,10] rfl ?_;refine aM rfl (fun qN=> ?_) (fun qN=> ?_)
 ·replace h:=Sh.bz h qN;refine sr rfl fun K4 gx=>AR.m rfl<|AR.k gx [4] rfl ?_;refine aF ?_;obtain rfl:=Option.some.inj h;refine⟨.inr rfl,bl false,rfl, ?_⟩;exact aq.e ⟨.k,trivial⟩
 ·replace h:=Sh.bw h qN;refine aJ<|dz _ (bp.aQ (aq.kt [0,1] rfl) ?_);refine bn (fun(p:Unit)=>(⟨[],.empty⟩:St)) (fun(p:Unit)=>G.gd=some r) ?_ ?_
  ·rintro⟨⟩ h;replace h:G.gd=some r:=h;unfold G.gd at h;refine sr rfl fun K5 gm=>AR.m rfl<|AR.nil<|gm _ ?_;refine aF ?_;obtain rfl:=Option.some.inj h;refine⟨.inr rfl,bl true,rfl, ?_⟩;exact aq.e ⟨.k,trivial⟩
  ·intro K6 iT;refine sr rfl fun K7 jI=>AR.m rfl<|AR.op rfl (aW i64 kD rfl rfl dS)<|AR.m rfl<|AR.k jI [0,1,12,13] rfl ?_;refine aL<|bU (fun(p:Int)=>G.ej kD lU p) (fun(p:Int)=>(⟨[(0,sm i64 kD),(1,sm i64 lU),(12,i64 (Sh.len kD)),(13,i64 p)],.empty⟩:St)) h (aq.kt [0,1,12,13] rfl) ?_
   ·skip
    rintro v39 o1 h ir;replace h:G.ej kD lU v39=some o1:=h;unfold G.ej at h;refine sr rfl fun K8 kF=>AR.op rfl (bO rfl rfl rfl)<|AR.nil<|kF _ ?_;refine aC fun K9 kK=>aM rfl (fun z6=> ?_) (fun z6=> ?_)
    ·replace h:=Sh.bz h z6;refine aJ<|kK _ (bp.aQ (aq.kt [0,1,12,13] rfl) ?_);refine aC fun uC eM=>aL<|sr rfl fun zj iK=>AR.m rfl<|AR.m rfl<|AR.k iK [0,1,12,13,5] rfl ?_;refine aC fun zk jc=>fq (List.replicate 9 (true,false)) (by kernel_rfl) (by kernel_rfl) rfl ?_;refine aA.m rfl<|aA.m rfl ?_;obtain⟨FZ,JW,h⟩:=Sh.ai h;obtain⟨WM,Jp,JD⟩:=Sh.bg JW;refine aA.e_ rfl (fun _=>aR i64 kD Jp JD rfl rfl rfl dS rfl)<|aA.kp [0,1,12,13,5,18] rfl<|aA.l (i64 FZ) rfl rfl rfl eA rfl<|aA.m rfl<|aA.m rfl<|aA.kp [0,1,12,13,19,20,21] rfl ?_;obtain⟨Bs,Ft,h⟩:=Sh.ai h;obtain⟨Tk,Fo,Ed⟩:=Sh.bg Ft;refine aA.e_ rfl (fun _=>aR i64 lU Fo Ed rfl rfl rfl dS rfl)<|aA.l (i64 Bs) rfl rfl rfl eA rfl<|aA.e_ (r:=bl (decide (FZ≠Bs))) rfl (fun _=>fe rfl rfl rfl)<|aA.nil<|jc _ (bp.aQ (aq.kt [0,1,12,13,24] rfl) ?_);refine aM rfl (fun Ab=> ?_) (fun Ab=> ?_)
     ·replace h:=Sh.bz h Ab;refine sr rfl fun A7 j6=>AR.m rfl<|AR.k j6 [4] rfl ?_;refine aF ?_;replace h:=Sh.br h ir;obtain rfl:=Option.some.inj h;refine⟨.inr rfl,bl false,rfl, ?_⟩;exact aq.e ⟨.k,trivial⟩
     ·replace h:=Sh.bw h Ab;refine aJ<|eM _ (bp.aQ (aq.kt [0,1,12,13] rfl) ?_);refine bf rfl<|AR.op rfl (bX rfl rfl rfl rfl)<|AR.m rfl<|AR.nil ?_;replace h:=Sh.cD h;exact⟨_,h,aq.kt [0,1,12,13] rfl⟩
    ·replace h:=Sh.bw h z6;refine bM ?_;replace h:=Sh.br h ir;exact iT () _ h (aq.kt [] rfl)
theorem sU{W0:World}(hT:dU W0){kD:List Int}{lU:List Int}{r:Bool}(h:G.f_ kD lU=some r):cB Tryz.prog W0 88 [sm i64 kD,sm i64 lU] (bl r):=cB.two (sn hT h) (by simp)


theorem mz{W0:World}(hT:dU W0){bN:List G.aa}{nR:G.aa}{r:Int}(h:G.eD bN nR=some r):eF Tryz.prog W0 214 [sm G.aa.av bN,G.aa.av nR] (i64 r) .empty:=by
 refine aS Tryz.func214 rfl (by kernel_rfl) Tryz.ntmps214 (by simp) ?_;unfold G.eD at h;show bp _ _ _ _ ⟨[(0,sm G.aa.av bN),(1,G.aa.av nR)],.empty⟩ _;refine sr rfl fun K1 dH=>AR.op (r:=.ref 0 0 0) rfl (bT 3 [G.aa.av nR] rfl rfl rfl (.inl ⟨rfl,rfl⟩))<|AR.m rfl<|AR.nil<|dH _ (bp.aQ (aq.e (fr':=[(0,sm G.aa.av bN),(3,.pp [i64 nR.Key,i64 nR.A,i64 nR.B] 0)]) (H':=.empty) ⟨⟨(sm G.aa.av bN),rfl,.sm⟩,⟨_,rfl,.e9 rfl rfl rfl rfl (by simp)⟩,trivial⟩) ?_);refine bn (fun(p:Unit)=>(⟨[],.empty⟩:St)) (fun(p:Unit)=>G.ei=some r) ?_ ?_
 ·rintro⟨⟩ h;replace h:G.ei=some r:=h;unfold G.ei at h;refine sr rfl fun K2 dz=>AR.m rfl<|AR.nil<|dz _ ?_;refine aF ?_;obtain rfl:=Option.some.inj h;refine⟨.inr rfl,i64 (-1),rfl, ?_⟩;exact aq.e ⟨.k,trivial⟩
 ·intro K3 fG;refine sr rfl fun K4 gx=>AR.m rfl<|AR.op rfl (aW G.aa.av bN rfl rfl MC)<|AR.m rfl<|AR.k gx [0,3,7,8] rfl ?_;refine aL<|bU (fun(p:Int)=>G.ef bN nR p) (fun(p:Int)=>(⟨[(0,sm G.aa.av bN),(3,.pp [i64 nR.Key,i64 nR.A,i64 nR.B] 0),(7,i64 (Sh.len bN)),(8,i64 p)],.empty⟩:St)) h (aq.kt [0,3,7,8] rfl) ?_
  ·skip
   rintro v22 o1 h ir;replace h:G.ef bN nR v22=some o1:=h;unfold G.ef at h;refine sr rfl fun K5 gm=>AR.op rfl (bO rfl rfl rfl)<|AR.nil<|gm _ ?_;refine aC fun K6 iT=>aM rfl (fun Fj=> ?_) (fun Fj=> ?_)
   ·replace h:=Sh.bz h Fj;refine aJ<|iT _ (bp.aQ (aq.kt [0,3,7,8] rfl) ?_);refine aC fun K7 jI=>aL<|sr rfl fun K8 kF=>AR.m rfl<|AR.m rfl<|AR.k kF [0,3,7,8,5] rfl ?_;refine aC fun K9 kK=>fq (List.replicate 6 (true,false)) (by kernel_rfl) (by kernel_rfl) rfl ?_;refine aA.l (G.aa.av nR) rfl rfl rfl yD rfl<|aA.m rfl<|aA.m rfl<|aA.kp [0,3,7,8,5,11,12,13] rfl ?_;obtain⟨Lc,Oj,h⟩:=Sh.ai h;obtain⟨XK,NY,N2⟩:=Sh.bg Oj;refine aA.e_ rfl (fun _=>aR G.aa.av bN NY N2 rfl rfl rfl MC rfl)<|aA.l (G.aa.av Lc) rfl rfl rfl yD rfl<|aA.e_ (r:=bl (decide (nR=Lc))) rfl (fun _=>ue (a:=nR) (b:=Lc) rfl rfl rfl)<|aA.nil<|kK _ (bp.aQ (aq.kt [0,3,7,8,5,16] rfl) ?_);refine aM rfl (fun tA=> ?_) (fun tA=> ?_)
    ·replace h:=Sh.bz h tA;refine sr rfl fun uC eM=>AR.m rfl<|AR.m rfl<|AR.k eM [4] rfl ?_;refine aF ?_;replace h:=Sh.br h ir;obtain rfl:=Option.some.inj h;refine⟨.inr rfl,i64 v22,rfl, ?_⟩;exact aq.e ⟨.k,trivial⟩
    ·replace h:=Sh.bw h tA;refine aJ<|jI _ (bp.aQ (aq.kt [0,3,7,8] rfl) ?_);refine bf rfl<|AR.op rfl (bX rfl rfl rfl rfl)<|AR.m rfl<|AR.nil ?_;replace h:=Sh.cD h;exact⟨_,h,aq.kt [0,3,7,8] rfl⟩
   ·replace h:=Sh.bw h Fj;refine bM ?_;replace h:=Sh.br h ir;exact fG () _ h (aq.kt [] rfl)
theorem mG{W0:World}(hT:dU W0){bN:List G.aa}{nR:G.aa}{r:Int}(h:G.eD bN nR=some r):cB Tryz.prog W0 214 [sm G.aa.av bN,G.aa.av nR] (i64 r):=cB.two (mz hT h) (by simp)


theorem lB{W0:World}(hT:dU W0){bN:List G.aa}{nR:G.aa}{r:Bool}(h:G.ee bN nR=some r):eF Tryz.prog W0 213 [sm G.aa.av bN,G.aa.av nR] (bl r) .empty:=by
 refine aS Tryz.func213 rfl (by kernel_rfl) Tryz.ntmps213 (by simp) ?_;unfold G.ee at h;show bp _ _ _ _ ⟨[(0,sm G.aa.av bN),(1,G.aa.av nR)],.empty⟩ _;refine sr rfl fun K1 dH=>AR.op (r:=.ref 0 0 0) rfl (bT 3 [G.aa.av nR] rfl rfl rfl (.inl ⟨rfl,rfl⟩))<|AR.m rfl<|AR.nil<|dH _ (bp.aQ (aq.e (fr':=[(0,sm G.aa.av bN),(3,.pp [i64 nR.Key,i64 nR.A,i64 nR.B] 0)]) (H':=.empty) ⟨⟨(sm G.aa.av bN),rfl,.sm⟩,⟨_,rfl,.e9 rfl rfl rfl rfl (by simp)⟩,trivial⟩) ?_);refine sr rfl fun K2 dz=>AR.m rfl<|AR.l (G.aa.av nR) rfl rfl rfl yD rfl ?_;obtain⟨r3,u5,h⟩:=Sh.ai h;refine AR.op (r:=i64 r3) rfl (bh rfl rfl (by simp) (mG hT u5))<|AR.kp [7] rfl<|AR.op rfl (iH rfl rfl rfl)<|AR.m rfl<|AR.k dz [4] rfl ?_;refine aF ?_;obtain rfl:=Option.some.inj h;refine⟨.inr rfl,bl (decide ((0:Int)≤r3)),rfl, ?_⟩;exact aq.e ⟨.k,trivial⟩
theorem lR{W0:World}(hT:dU W0){bN:List G.aa}{nR:G.aa}{r:Bool}(h:G.ee bN nR=some r):cB Tryz.prog W0 213 [sm G.aa.av bN,G.aa.av nR] (bl r):=cB.two (lB hT h) (by simp)


theorem mw{W0:World}(hT:dU W0){bN:List G.aa}{r:(List G.aa)}(h:G.eC bN=some r):eF Tryz.prog W0 105 [sm G.aa.av bN] (.clip (List.map G.aa.av r)) .empty:=by
 refine aS Tryz.func105 rfl (by kernel_rfl) Tryz.ntmps105 (by simp) ?_;unfold G.eC at h;show bp _ _ _ _ ⟨[(0,sm G.aa.av bN)],.empty⟩ _;refine sr rfl fun K1 dH=>AR.m rfl<|AR.k dH [0] rfl ?_;refine sr rfl fun K2 dz=>AR.m rfl<|AR.m rfl<|AR.op rfl (aW G.aa.av bN rfl rfl Ih)<|AR.kp [0,3,5] rfl<|AR.m rfl<|AR.op rfl (aW G.aa.av bN rfl rfl Ih) ?_;obtain⟨BM,N_,h⟩:=Sh.ai h;refine AR.op (r:=.clip (List.map G.aa.av BM)) rfl (ON G.aa.av bN BM N_ (fun _=>rfl) rfl rfl (.inl rfl) rfl rfl Ih)<|AR.kp [8] rfl<|AR.m rfl<|AR.k dz [2] rfl ?_;refine aF ?_;obtain rfl:=Option.some.inj h;refine⟨.inr rfl,.clip (List.map G.aa.av BM),rfl, ?_⟩;exact aq.e ⟨⟨.clip (List.map G.aa.av BM),rfl,.sm⟩,trivial⟩
theorem mF{W0:World}(hT:dU W0){bN:List G.aa}{r:(List G.aa)}(h:G.eC bN=some r):cB Tryz.prog W0 105 [sm G.aa.av bN] (.clip (List.map G.aa.av r)):=cB.two (mw hT h) (by simp)

end Wk
