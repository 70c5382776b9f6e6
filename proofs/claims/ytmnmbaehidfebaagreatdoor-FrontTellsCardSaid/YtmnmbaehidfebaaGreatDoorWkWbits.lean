/- That the functions of a package do what their plain functions say. -/
import Derived.Test.YtmnmbaehidfebaaGreatDoorSh
import Derived.Test.YtmnmbaehidfebaaGreatDoorWkWFacts
import Derived.Test.YtmnmbaehidfebaaGreatDoorWkWstdbits
open Go Go.Av Go.Proofs
set_option linter.unusedVariables false
set_option maxHeartbeats 8000000
set_option maxRecDepth 20000
namespace Wk
theorem Hg{W0:World}(hT:cR W0){eB:List (BitVec 64)}{r:(BitVec 64)}(h:G.nt eB=some r):cN Tryz.prog W0 57 [sm u64 eB] (u64 r) .empty:=by
 refine aM Tryz.func57 rfl (by kernel_rfl) Tryz.ntmps57 (by simp) ?_;unfold G.nt at h;show aZ _ _ _ _ ⟨[(0,sm u64 eB)],.empty⟩ _;refine sr rfl fun K1 cJ=>AR.m rfl<|AR.k cJ [0] rfl ?_;refine sr rfl fun K2 cA=>AR.m rfl<|AR.nil<|cA _ ?_;refine aP (fun(p:(BitVec 64))=>(⟨[(3,u64 p)],.empty⟩:St)) (fun(p:(BitVec 64))=>G.sQ p=some r) ?_ ?_
 ·rintro CU h;replace h:G.sQ CU=some r:=h;unfold G.sQ at h;refine sr rfl fun K3 dR=>AR.m rfl<|AR.m rfl<|AR.k dR [2] rfl ?_;refine aH ?_;obtain rfl:=Option.some.inj h;refine⟨.inr rfl,u64 CU,rfl, ?_⟩;exact an.e ⟨.k,trivial⟩
 ·intro K4 eG;refine sr rfl fun K5 eu=>AR.m rfl<|AR.op rfl (aW u64 eB rfl rfl oD)<|AR.m rfl<|AR.k eu [3,6,7,8] rfl ?_;refine aG<|bu (fun(p:(BitVec 64)×Int)=>G.qN eB p.1 p.2) (fun(p:(BitVec 64)×Int)=>(⟨[(3,u64 p.1),(6,sm u64 eB),(7,i64 (Sh.len eB)),(8,i64 p.2)],.empty⟩:St)) h (an.kt [3,6,7,8] rfl) ?_
  ·skip
   rintro⟨GD,VN⟩ o1 h fE;replace h:G.qN eB GD VN=some o1:=h;unfold G.qN at h;refine sr rfl fun K6 eS=>AR.op rfl (a_ rfl rfl rfl)<|AR.nil<|eS _ ?_;refine aF fun K7 fG=>aJ rfl (fun kU=> ?_) (fun kU=> ?_)
   ·replace h:=Sh.aU h kU;refine aI<|fG _ (aZ.aQ (an.kt [3,6,7,8] rfl) ?_);refine aF fun K8 gj=>aG<|sr rfl fun K9 jt=> ?_;obtain⟨x35,aky,h⟩:=Sh.aj h;obtain⟨k36,aja,ajF⟩:=Sh.aO aky;refine AR.op rfl (aN u64 eB aja ajF rfl rfl rfl oD rfl)<|AR.l (u64 x35) rfl rfl rfl rV rfl<|AR.m rfl<|AR.k jt [3,6,7,8,5] rfl ?_;refine aR rfl<|AR.m rfl<|AR.m rfl<|AR.op (r:=u64 (GD|||x35)) rfl (Qm (a:=GD) (b:=x35) rfl rfl rfl)<|AR.kp [6,7,8,14] rfl<|AR.m rfl<|AR.k gj [6,7,8,3] rfl ?_;refine aR rfl<|AR.op rfl (bB rfl rfl rfl rfl)<|AR.m rfl<|AR.nil ?_;replace h:=Sh.bF h;exact⟨_,h,an.kt [3,6,7,8] rfl⟩
   ·replace h:=Sh.aT h kU;refine bp ?_;replace h:=Sh.aV h fE;exact eG GD _ h (an.kt [3] rfl)
theorem u0{W0:World}(hT:cR W0){eB:List (BitVec 64)}{r:(BitVec 64)}(h:G.nt eB=some r):bJ Tryz.prog W0 57 [sm u64 eB] (u64 r):=bJ.two (Hg hT h) (by simp)


theorem I0{W0:World}(hT:cR W0){bg:BitVec 64}{dz:BitVec 64}{r:Bool}(h:G.vq bg dz=some r):cN Tryz.prog W0 91 [u64 bg,u64 dz] (bl r) .empty:=by
 refine aM Tryz.func91 rfl (by kernel_rfl) Tryz.ntmps91 (by simp) ?_;unfold G.vq at h;show aZ _ _ _ _ ⟨[(0,u64 bg),(1,u64 dz)],.empty⟩ _;refine sr rfl fun K1 cJ=>AR.m rfl<|AR.k cJ [0,1] rfl ?_;refine sr rfl fun K2 cA=>AR.m rfl<|AR.m rfl<|AR.op (r:=u64 (bg&&& ~~~dz)) rfl (Mv (a:=bg) (b:=dz) rfl rfl rfl)<|AR.kp [7] rfl<|AR.op (r:=bl (decide ((bg&&& ~~~dz)=0#64))) rfl (Ds (a:=bg&&& ~~~dz) (b:=0#64) rfl rfl rfl)<|AR.m rfl ?_;refine AR.k cA [4] rfl ?_;refine aH ?_;obtain rfl:=Option.some.inj h;refine⟨.inr rfl,bl (decide ((bg&&& ~~~dz)=0#64)),rfl, ?_⟩;exact an.e ⟨.k,trivial⟩
theorem Kq{W0:World}(hT:cR W0){bg:BitVec 64}{dz:BitVec 64}{r:Bool}(h:G.vq bg dz=some r):bJ Tryz.prog W0 91 [u64 bg,u64 dz] (bl r):=bJ.two (I0 hT h) (by simp)


theorem I4{W0:World}(hT:cR W0){wD:Int}{r:(BitVec 64)}(h:G.vr wD=some r):cN Tryz.prog W0 93 [i64 wD] (u64 r) .empty:=by
 refine aM Tryz.func93 rfl (by kernel_rfl) Tryz.ntmps93 (by simp) ?_;unfold G.vr at h;show aZ _ _ _ _ ⟨[(0,i64 wD)],.empty⟩ _;refine sr rfl fun K1 cJ=>AR.m rfl<|AR.k cJ [0] rfl ?_;refine aF fun K2 cA=>aP (fun(p:Bool)=>(⟨[(0,i64 wD),(8,bl p)],.empty⟩:St)) (fun(p:Bool)=>G.sE wD p=some r) ?_ ?_
 ·rintro v7 h;replace h:G.sE wD v7=some r:=h;unfold G.sE at h;refine aJ rfl (fun Li=> ?_) (fun Li=> ?_)
  ·replace h:=Sh.aU h Li;refine sr rfl fun K3 dR=>AR.m rfl<|AR.k dR [2] rfl ?_;refine aH ?_;obtain rfl:=Option.some.inj h;refine⟨.inr rfl,u64 0#64,rfl, ?_⟩;exact an.e ⟨.k,trivial⟩
  ·replace h:=Sh.aT h Li;refine aI<|cA _ (aZ.aQ (an.kt [0] rfl) ?_);refine sr rfl fun K4 eG=>AR.m rfl ?_;obtain⟨s10,akm,h⟩:=Sh.aj h;refine AR.op (r:=u64 s10) rfl (Xo akm rfl rfl rfl)<|AR.m rfl<|AR.k eG [2] rfl ?_;refine aH ?_;obtain rfl:=Option.some.inj h;refine⟨.inr rfl,u64 s10,rfl, ?_⟩;exact an.e ⟨.k,trivial⟩
 ·intro K5 eu;refine aR rfl<|AR.m rfl<|AR.op rfl (a_ rfl rfl rfl)<|AR.m rfl<|AR.kp [0,5] rfl ?_;rcases tf (decide (wD<0)) with wY|wY
  ·rw[wY];replace h:=Sh.aU h wY;refine AR.s2 rfl rfl<|AR.m rfl<|AR.nil ?_;exact eu true _ h (an.kt [0,8] rfl)
  ·rw[wY];replace h:=Sh.aT h wY;refine AR.m rfl<|AR.op rfl (dG rfl rfl rfl)<|AR.m rfl<|AR.nil ?_;exact eu (decide ((64:Int)≤wD)) _ h (an.kt [0,8] rfl)
theorem Kr{W0:World}(hT:cR W0){wD:Int}{r:(BitVec 64)}(h:G.vr wD=some r):bJ Tryz.prog W0 93 [i64 wD] (u64 r):=bJ.two (I4 hT h) (by simp)


theorem Hi{W0:World}(hT:cR W0){cC:BitVec 64}{Ah:Int}{r:(BitVec 64)}(h:G.p6 cC Ah=some r):cN Tryz.prog W0 60 [u64 cC,i64 Ah] (u64 r) .empty:=by
 refine aM Tryz.func60 rfl (by kernel_rfl) Tryz.ntmps60 (by simp) ?_;unfold G.p6 at h;show aZ _ _ _ _ ⟨[(0,u64 cC),(1,i64 Ah)],.empty⟩ _;refine sr rfl fun K1 cJ=>AR.m rfl<|AR.k cJ [0,1] rfl ?_;refine sr rfl fun K2 cA=>AR.m rfl<|AR.m rfl ?_;obtain⟨r3,we,h⟩:=Sh.aj h;refine AR.op (r:=u64 r3) rfl (aL rfl rfl (by simp) (Kr hT we))<|AR.kp [5,7] rfl<|AR.op (r:=u64 (cC|||r3)) rfl (Qm (a:=cC) (b:=r3) rfl rfl rfl)<|AR.m rfl<|AR.k cA [4] rfl ?_;refine aH ?_;obtain rfl:=Option.some.inj h;refine⟨.inr rfl,u64 (cC|||r3),rfl, ?_⟩;exact an.e ⟨.k,trivial⟩
theorem CB{W0:World}(hT:cR W0){cC:BitVec 64}{Ah:Int}{r:(BitVec 64)}(h:G.p6 cC Ah=some r):bJ Tryz.prog W0 60 [u64 cC,i64 Ah] (u64 r):=bJ.two (Hi hT h) (by simp)


theorem Hh{W0:World}(hT:cR W0){cC:BitVec 64}{r:(List Int)}(h:G.mz cC=some r):cN Tryz.prog W0 31 [u64 cC] (.view 0 0 (List.map i64 r).length) ⟨1,[(0,(1,List.map i64 r))],[]⟩:=by
 refine aM Tryz.func31 rfl (by kernel_rfl) Tryz.ntmps31 (by simp) ?_;unfold G.mz at h;show aZ _ _ _ _ ⟨[(0,u64 cC)],.empty⟩ _;refine sr rfl fun K1 cJ=>AR.m rfl<|AR.k cJ [0] rfl ?_;refine sr rfl fun K2 cA=>AR.m rfl<|AR.nil<|cA _ ?_;refine aP (fun(p:(List Int))=>(⟨[(3,.view 0 0 (List.map i64 p).length)],⟨1,[(0,(1,List.map i64 p))],[]⟩⟩:St)) (fun(p:(List Int))=>G.sR p=some r) ?_ ?_
 ·rintro CU h;replace h:G.sR CU=some r:=h;unfold G.sR at h;refine sr rfl fun K3 dR=>AR.m rfl<|AR.m rfl<|AR.k dR [2] rfl ?_;refine aH ?_;obtain rfl:=Option.some.inj h;refine⟨.inr rfl,.view 0 0 (List.map i64 CU).length,rfl, ?_⟩;exact an.re [(0,0)] [] rfl rfl rfl (.cons rfl rfl (.same (by simp)) dt trivial) ⟨⟨_,rfl,.view rfl⟩,trivial⟩
 ·intro K4 eG;refine aG<|bu (fun(p:(BitVec 64)×(List Int))=>G.ow p.1 p.2) (fun(p:(BitVec 64)×(List Int))=>(⟨[(0,u64 p.1),(3,.view 0 0 (List.map i64 p.2).length)],⟨1,[(0,(1,List.map i64 p.2))],[]⟩⟩:St)) h (an.re [] [0] rfl rfl rfl (.fresh (by simp) dt trivial) ⟨.k,⟨_,rfl,.nil (by simp)⟩,trivial⟩) ?_
  ·skip
   rintro⟨Nu,It⟩ o1 h fE;replace h:G.ow Nu It=some o1:=h;unfold G.ow at h;refine aF fun K5 eu=>sr rfl fun K6 eS=>AR.m rfl<|AR.op (r:=bl (decide (Nu≠0#64))) rfl (HW (a:=Nu) (b:=0#64) rfl rfl rfl)<|AR.k eS [0,3,5] rfl ?_;refine aJ rfl (fun kU=> ?_) (fun kU=> ?_)
   ·replace h:=Sh.aU h kU;refine aI<|eu _ (aZ.aQ (an.kt [0,3] rfl) ?_);refine aF fun K7 fG=>aG<|aR rfl<|AR.m rfl<|AR.m rfl ?_;obtain⟨tX,YH,h⟩:=Sh.aj h;refine AR.op (r:=i64 tX) rfl (aL rfl rfl (by simp) (xq hT YH))<|AR.kp [0,10,12] rfl<|AR.op (r:=.clip (List.map i64 [tX])) rfl (bE rfl (xo:=[.tmp 12]) rfl rfl rfl (by simp[AV.dw]) (by simp[AV.flat]) fR Dk (by decide)) ?_;obtain⟨Iu,Yn,h⟩:=Sh.aj h;refine AR.op (r:=.view 1 0 (List.map i64 Iu).length) rfl (dW i64 It [tX] Iu Yn rfl Jb (fun _=>rfl) rfl rfl rfl rfl rfl rfl rfl)<|AR.m rfl<|AR.nil<|fG _ (aZ.aQ (an.re (fr':=[(0,u64 Nu),(3,.view 0 0 (List.map i64 Iu).length)]) (H':=⟨1,[(0,(1,List.map i64 Iu))],[]⟩) [(0,1)] [] rfl rfl rfl (.cons rfl rfl (.same (by simp)) dt trivial) ⟨.k,⟨_,rfl,.view rfl⟩,trivial⟩) ?_);refine aR rfl<|AR.m rfl<|AR.m rfl<|AR.op (r:=u64 (Nu - 1#64)) rfl (HX (a:=Nu) (b:=1#64) rfl rfl rfl)<|AR.kp [3,6,8] rfl<|AR.op (r:=u64 (Nu&&&(Nu - 1#64))) rfl (NK (a:=Nu) (b:=Nu - 1#64) rfl rfl rfl)<|AR.m rfl<|AR.nil ?_;replace h:=Sh.bF h;exact⟨_,h,an.kt [0,3] rfl⟩
   ·replace h:=Sh.aT h kU;refine bp ?_;replace h:=Sh.aV h fE;exact eG It _ h (an.kt [3] rfl)
theorem u5{W0:World}(hT:cR W0){cC:BitVec 64}{r:(List Int)}(h:G.mz cC=some r):bJ Tryz.prog W0 31 [u64 cC] (sm i64 r):=
 (Hh hT h).uj (an.e ⟨⟨_,rfl,.eV rfl rfl (by simp)⟩,trivial⟩) (by simp)

end Wk
