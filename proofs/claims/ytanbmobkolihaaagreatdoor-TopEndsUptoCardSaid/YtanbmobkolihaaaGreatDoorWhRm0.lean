/- Functions do as their plain ones. -/
import Derived.Test.YtanbmobkolihaaaGreatDoorWhRBase
open List renaming map→ajN
open Nat renaming le_refl→afk
open Array renaming replicate→ajA
open Go.Proofs.Tryz renaming prog→abQ
set_option linter.unusedVariables false
section
open Go Go.Av Go.Proofs G Go.Sh Go.Av.Sh
set_option maxHeartbeats 8000000
set_option maxRecDepth 20000
attribute [local irreducible] eX fG oJ FR IY
namespace Wk
section
open Sg
instance {aT rQ}:bh (qv aT rQ) 103 [dP aT,dP rQ] (fun r=>bl r):=k1 Tryz.func103 21 [1,k [0,1],1,d,1,d,2,G [10] [2,d,1,d,1,d,1,d,2,k [4],x 0] [11,k [4],x 0]]
instance {aT rQ}:bh (qK aT rQ) 67 [dP aT,dP rQ] (fun r=>bl r):=k1 Tryz.func67 8 [1,k [0,1],2,d,1,k [4],x 0]
end
theorem JF{W0:World}(hT:yW W0){aT:List UInt8}{Mi:List UInt8}{r:List (List UInt8)}(h:G.strings_Split aT Mi=some r):oQ abQ W0 68 [dP aT,dP Mi] (sm dP r):=by
 obtain⟨m,hm⟩:=hT.2.1;exact WI auw hm h
instance {aT Mi}:bh (G.strings_Split aT Mi) 68 [dP aT,dP Mi] (fun r=>sm dP r):=⟨fun _ _ hT h=>JF hT h⟩
section
open Sg
instance {aT}:bh (Af aT) 37 [dP aT] (fun r=>.tuple [sm dP r.1,J r.2]):=k1 Tryz.func37 21 [2,k [0],1,d,k [0,6],cd [2,k [2,3],x 0] [k [0],1,d,1,k [0,9],cd [2,k [2,3],x 0] [k [0],1,d,1,k [4],2,d,1,d,1,k [4],1,d,1,k [4,19],cd [2,k [2,3],x 0] [k [4],3,k [2,3],x 0]]]]
end
theorem MT{W0:World}(hT:yW W0){aT:List UInt8}{r:(List (List UInt8))×Int}(h:Af aT=some r):oQ abQ W0 37 [dP aT] (.tuple [sm dP r.1,J r.2]):=bh.ok W0 r hT h
section
open Sg
instance {aT}:bh (C9 aT) 69 [dP aT] (fun r=>.tuple [sm dP r.1,J r.2]):=k1 Tryz.func69 45 [2,k [0],O 0,1,d,1,k [4],1,d,2,k [4,5],n,j [4] (I 0) (fun p:Bool=>[.s 5 [] (bl p)]) [1,d,1,n,L [4,14,15] (I 0) (fun p:Bool×Int=>[.s 5 [] (bl p.1),.s 16 [] (J p.2)]) 0 [1,n,cd [k [4,5,14,15,16],j [4,14,15,16] (I 0) (fun p:Bool=>[.s 5 [] (bl p)]) [d,2,k [4,5,14,15,16,7],j [4,14,15,16,7] (I 0) (fun p:Bool=>[.s 5 [] (bl p)]) [2,G [5,20,21] [1,d,2,x 0] [4,x 0]] [1,n,L [4,14,15,16,7,5] (I 0) (fun p:Int=>[.s 8 [] (J p)]) 0 [2,d,1,k [4,14,15,16,7,5,8,28],cd [k [4,14,15,16,7,5,8],q,j [4,14,15,16,7,5,8] (I 0) (fun p:Bool=>[.s 40 [] (bl p)]) [2,d,2,G [34,35] [5,x 0] [2,d,2,x 0]] [cd [1,k [4,5],x 0] [k [4,14,15,16,7,5,8],3,x 0]]] [x 0]]]] [2,x 0]] [x 0]]] [2,k [4,43],cd [2,k [2,3],x 0] [k [4],3,k [2,3],x 0]]]
instance {aT fQ}:bh (Ir aT fQ) 105 [dP aT,J fQ] (fun r=>.tuple [J r.1,J r.2.1,J r.2.2]):=k1 Tryz.func105 69 [3,k [0,1],q,j [0,1] (I 0) (fun p:Bool=>[.s 19 [] (bl p)]) [3,G [14] [5,x 0] [2,d,2,x 0]] [cd [3,k [4,5,6],x 0] [k [0,1],2,d,1,k [1,7],3,n,j [1,7] (I 0) (fun p:Int×Int×Bool=>[.s 8 [] (J p.1),.s 9 [] (J p.2.1),.s 10 [] (bl p.2.2)]) [1,d,1,k [1,7,8,9,10,24,25],M [1,7,24] (I 0) (fun p:Int×Int×Bool=>[.s 8 [] (J p.1),.s 9 [] (J p.2.1),.s 10 [] (bl p.2.2),.s 25 [] (J p.2.1)]) [] [] (fun q1_:Int×Int×Bool=>[1,n,cd [k [1,7,8,9,10,24,25],j [1,7,24,25] (I 0) (fun p:Int×Bool=>[.s 9 [] (J (bM (q1_.2.1+1))),.s 8 [] (J p.1),.s 10 [] (bl p.2)]) [2,k [1,7,8,9,10,24,25,11],q,j [1,7,8,9,10,24,25,11] (I 0) (fun p:Bool=>[.s 37 [] (bl p)]) [2,d,2,G [31,32] [5,x 0] [2,d,2,x 0]] [cd [x 0] [k [1,7,8,9,10,24,25,11],3,k [1,7,8,9,10,24,25,11],2,k [1,7,8,9,10,24,25,11,41],cd [1,d,2,d,1,d,2,k [1,7,9,24,25,8],3,x 0] [x 0]]]] [2,x 0]] [x 0]])] [q,j [1,8,9,10] (I 0) (fun p:Bool=>[.s 53 [] (bl p)]) [3,k [1,7,8,9,10,53],cd [x 0] [3,G [58] [1,d,3,x 0] [5,x 0]]] [cd [3,k [4,5,6],x 0] [2,k [1,8,9,63],cd [3,k [4,5,6],x 0] [k [1,8,9],7,n,x 0]]]]]]]
instance {aT}:bh (uJ aT) 71 [dP aT] (fun r=>.tuple [J r.1,J r.2]):=k1 Tryz.func71 23 [2,k [0],1,d,7,k [0,4,5,6],q,j [4,6] (I 0) (fun p:Bool=>[.s 20 [] (bl p)]) [3,G [15] [2,d,2,x 0] [5,x 0]] [cd [2,k [2,3],x 0] [k [4,6],4,k [2,3],x 0]]]
instance {wR}:bh (ug wR) 70 [J wR] (fun r=>bl r):=k1 Tryz.func70 9 [1,k [0],3,G [5] [4,k [2],x 0] [4,k [2],x 0]]
instance {aT}:bh (xH aT) 39 [dP aT] (fun r=>.tuple [an.av r.1,J r.2]):=k1 Tryz.func39 90 [h,1,k [0,2],1,d,5,k [2,4,5],2,k [2,4,5,18],cd [d,1,h,1,k [2,3],x 0] [k [2,4],d,h,h,k [2,4,6],j [2,4,6] (I 2) (fun p:an=>[.c 1 [] (an.av p)]) [d,1,n,L [2,4,6,22] (I 2) (fun p:an×Int=>[.s 23 [] (J p.2),.c 1 [] (an.av p.1)]) 2 [1,n,cd [k [2,4,6,22,23],j [2,4,6,22,23] (I 2) (fun p:an=>[.c 1 [] (an.av p)]) [1,d,2,k [2,4,6,22,23,7,8],2,d,1,d,k [2,4,6,22,23,7,31],cd [2,h,x 2] [x 2]] [2,x 2]] [x 2]]] [3,d,1,k [2,4,6,9],2,d,1,k [2,4,6,9,42],cd [1,d,1,k [2,4,6,9],q,j [2,4,6,9] (I 2) (fun p:Bool=>[.s 55 [] (bl p)]) [4,G [47,48] [7,x 2] [1,d,1,d,3,x 2]] [cd [d,h,1,w [2,3] (I 1),x 0] [k [2,4,6,9],j [2,6] (I 2) (fun p:an=>[.c 1 [] (an.av p)]) [1,d,1,k [2,4,6,57,58,59],U 2,k [2,4,6,57,58,59],1,n,ct,k [2,4,6,57,58,59],1,d,3,k [2,4,6,57,58,59,10,11],4,d,1,d,4,h,1,k [2,4,6,57,58,59,5],2,k [2,4,6,57,58,59,5,76],cd [d,1,h,1,w [2,3] (I 1),x 0] [k [2,4,6,57,58,59],2,k [2,4,6,57,58,59],1,n,cf,x 2]] [q,j [2,6] (I 2) (fun p:Bool=>[.s 87 [] (bl p)]) [4,G [82,83] [4,x 2] [4,x 2]] [cd [d,h,1,w [2,3] (I 1),x 0] [k [2,6],1,h,1,w [2,3] (I 1),x 0]]]]]] [k [2,4,6,9],q,j [2,4,6,9] (I 2) (fun p:Bool=>[.s 55 [] (bl p)]) [4,G [47,48] [7,x 2] [1,d,1,d,3,x 2]] [cd [d,h,1,w [2,3] (I 1),x 0] [k [2,4,6,9],j [2,6] (I 2) (fun p:an=>[.c 1 [] (an.av p)]) [1,d,1,k [2,4,6,57,58,59],U 4,k [2,4,6,57,58,59],1,n,ct,k [2,4,6,57,58,59],1,d,3,k [2,4,6,57,58,59,10,11],4,d,1,d,4,h,1,k [2,4,6,57,58,59,5],2,k [2,4,6,57,58,59,5,76],cd [d,1,h,1,w [2,3] (I 1),x 0] [k [2,4,6,57,58,59],2,k [2,4,6,57,58,59],1,n,ct,k [2,4,6,57,58,59],1,d,3,k [2,4,6,57,58,59,10,11],4,d,1,d,4,h,1,k [2,4,6,57,58,59,5],2,k [2,4,6,57,58,59,5,76],cd [d,1,h,1,w [2,3] (I 1),x 0] [k [2,4,6,57,58,59],2,k [2,4,6,57,58,59],1,n,ct,k [2,4,6,57,58,59],1,d,3,k [2,4,6,57,58,59,10,11],4,d,1,d,4,h,1,k [2,4,6,57,58,59,5],2,k [2,4,6,57,58,59,5,76],cd [d,1,h,1,w [2,3] (I 1),x 0] [k [2,4,6,57,58,59],2,k [2,4,6,57,58,59],1,n,cf,x 2]]]] [q,j [2,6] (I 2) (fun p:Bool=>[.s 87 [] (bl p)]) [4,G [82,83] [4,x 2] [4,x 2]] [cd [d,h,1,w [2,3] (I 1),x 0] [k [2,6],1,h,1,w [2,3] (I 1),x 0]]]]]]]]]
end
theorem Lj{W0:World}(hT:yW W0){aT:List UInt8}{r:an×Int}(h:xH aT=some r):oQ abQ W0 39 [dP aT] (.tuple [an.av r.1,J r.2]):=bh.ok W0 r hT h
section
open Sg
instance {xu wU}:bh (qY xu wU) 72 [J xu,J wU] (fun r=>bl r):=k1 Tryz.func72 12 [1,k [0,1],3,G [7] [5,k [4],x 0] [5,k [4],x 0]]
instance {vR}:bh (qX vR) 40 [an.av vR] (fun r=>bl r):=k1 Tryz.func40 33 [h,1,w [1] (If 0 [0]),q,j [1] (I 0) (fun p:Bool=>[.s 12 [] (bl p)]) [2,d,2,G [6,7] [5,x 0] [2,d,2,x 0]] [cd [1,k [2],x 0] [k [1],2,d,1,k [1,16],cd [4,G [19,20] [5,k [2],x 0] [5,k [2],x 0]] [k [1],2,d,1,G [27,28] [2,d,2,k [2],x 0] [5,k [2],x 0]]]]]
end
theorem Ll{W0:World}(hT:yW W0){vR:an}{r:Bool}(h:qX vR=some r):oQ abQ W0 40 [an.av vR] (bl r):=bh.ok W0 r hT h
section
open Sg
instance {DU Nu}:bh (CP DU Nu) 38 [J DU,J Nu] (fun _=>.tuple []):=k1 Tryz.func38 10 [2,k [0,1,5],cd [z] [x 0]]
end
theorem Gc{W0:World}(hT:yW W0){DU:Int}{Nu:Int}{r:Unit}(h:CP DU Nu=some r):oQ abQ W0 38 [J DU,J Nu] (.tuple []):=bh.ok W0 r hT h
theorem akm:zC abQ 109=some ([(0,1),(1,1)],[.int .i64 0,.int .i64 0]):=by kernel_rfl
theorem JU{W0:World}{DU Nu:Int}(he:Nu≠0):KL abQ (.pinned W0 0) 38 [J DU,J Nu] .empty .empty (CE 109 (.agg #[.int .i64 DU,.int .i64 Nu])):=by
 refine zc Z Tryz.func38 Z (by kernel_rfl) Tryz.ntmps38 (by simp) ?_;show iD _ _ _ _ ⟨[(0,J DU),(1,J Nu)],.empty⟩ _;refine jD lD 2 [0,1,5] Z ?_;refine mP Z (fun Tk=> ?_) (fun Tk=>absurd Tk (by simpa using he));refine s9 (R:=CE 109 (.agg #[.int .i64 DU,.int .i64 Nu])) (Hp:=.empty) 4 Z Z Z ?_;refine O Z<|O Z<|E (r:=.agg [J DU,J Nu]) Z (iE Z akm Z Z Z)<|E (r:=.ifc 109 (.agg [J DU,J Nu])) Z (fk Z Z Tryz.underlying109 (fun _ h=>by cases h))<|bH ⟨Z,Qb Z Z Z,fun ch hch=>⟨⟨ch,Z,hch⟩,b8.e trivial⟩⟩
def X9:AV→AV→AV→Prop:=fun b0 b1 b2=>b0.flat.length=1∧(∃i,b1=J i)∧∃j,b2=J j
theorem acr:MB abQ 109 0=some (0,1,false):=by kernel_rfl
theorem acs:MB abQ 109 1=some (1,1,false):=by kernel_rfl
theorem aiT(W:World)(v:Value):(Instr.typeAssert (.iface 109 v) 20 109 true).run abQ W=.ok (.tuple #[v,.bool true]) W:=by kernel_rfl
theorem aiS(W:World):(Instr.typeAssert .nilIface 20 109 true).run abQ W=.ok (.tuple #[.agg #[.int .i64 0,.int .i64 0],.bool false]) W:=by kernel_rfl
theorem MJ{W0:World}{r:(List an)×Int×Int}:On abQ W0 36 (.sl []) (J r.2.1) (J r.2.2) (fun ch=>r.1=[]∧CE 109 (.agg #[.int .i64 r.2.1,.int .i64 r.2.2]) ch) X9 where
 call:=iF Tryz.func36 (by kernel_rfl) rfl
 idle v0 v1 v2 w:=by
  refine callsDIn_of_wpSIn Tryz.func36 Z trivial fun c₀ cs hu=> ?_;apply wpSIn_seq;apply wpSIn_region;simp[wpOpsSIn,go_sem,recoverD,hu,Tryz.ntmps36,Exit.thenS,aiS];apply wpSIn_seq;apply wpSIn_region;simp[wpOpsSIn,go_sem,Exit.thenS,ajA];refine wpSIn_cond (t:=false) (by simp[Act.eval]) ?_;simp only[Bool.false_eq_true,if_false];refine wpSIn_of_wpIn Z (wpIn_skip ?_);have hB:Go.RowKit.Below w.heap.size w (w.alloc (.cells #[.int .i64 0,.int .i64 0] 109)):=(Go.RowKit.Below.refl _ _).alloc (afk _) _;cases c₀
  simp_all [bodyPostS,results,Tryz.results36]
 pan ch C v0 v1 v2 b0 b1 b2 hch hs hI hH hd r0 r1 r2:=by
  obtain⟨MQ,rfl⟩:=hch;obtain⟨Ve,⟨i,rfl⟩,j,rfl⟩:=hs;refine callsDIn_of_wpSIn Tryz.func36 Z trivial fun c₀ cs hu=> ?_;apply wpSIn_seq;apply wpSIn_region;simp[wpOpsSIn,go_sem,recoverD,hu,Tryz.ntmps36,Exit.thenS,aiT];apply wpSIn_seq;apply wpSIn_region;simp[wpOpsSIn,go_sem,Exit.thenS,ajA];refine wpSIn_cond (t:=true) (by simp[Act.eval]) ?_;simp only[if_true];refine wpSIn_of_wpIn Z ?_;obtain⟨C1,g1,g2,g3,g4,g5⟩:=O7 hI (x:=.agg [J r.2.1,J r.2.2]) (v:=.agg #[.int .i64 r.2.1,.int .i64 r.2.2])
   (.agg _ _ Z (fun k v hk=>by match k with|0=>simp at hk;subst hk;rfl|1=>simp at hk;subst hk;rfl|k+2=>simp at hk) (fun k y hk=>by match k with|0=>simp at hk;subst hk;exact .imm _ Z|1=>simp at hk;subst hk;exact .imm _ Z|k+2=>simp at hk))
   rfl 109 2 [.agg [J r.2.1,J r.2.2]] (.inl ⟨rfl,rfl⟩) (by decide)
  have g1':C1.w=C.w.alloc (.cells #[.int .i64 r.2.1,.int .i64 r.2.2] 109):=g1;rw[←g1',←xh];have hH1:C1.H=⟨4,[(0,(1,[b0])),(1,(1,[J i])),(2,(1,[J j])),(3,(2,[.agg [J r.2.1,J r.2.2]]))],[]⟩:=by rw[g4,hH];rfl
  have hnx:C.H.next=3:=by rw[hH]
  rw[hnx] at g5;have hC1d:C1.iu=[]:=g2.iu.trans hd;have hflat:∀x:AV,x.flat.length=1→b0.flat.take 0++x.flat++b0.flat.drop (0+1)=x.flat:=fun x _=>by
   rw[List.drop_eq_nil_of_le (by rw[Ve];exact afk _)];simp
  refine Uv [3] (W0:=.off W0 3 []) (N:=15) (H:=⟨4,[(0,(1,[b0])),(1,(1,[J i])),(2,(1,[J j])),(3,(2,[.agg [J r.2.1,J r.2.2]]))],[]⟩) (frl:=[(0,.ref 0 0 0),(1,.ref 1 0 0),(2,.ref 2 0 0),(3,.ref 3 0 0)])
   (K:=fun _ g=>g=⟨4,[(0,(1,[dy])),(1,(1,[J r.2.1])),(2,(1,[J r.2.2])),(3,(2,[.agg [J r.2.1,J r.2.2]]))],[]⟩)
   [(true,false),(true,false),(true,false),(true,false),(false,true),(false,true),(true,true)] (by kernel_rfl) (by kernel_rfl) rfl ?_ rfl ⟨hH1,g3,rfl,by simp[hC1d],fun q x hx=> ?_⟩ (fun f g C' a' hE hR hK=> ?_)
  ·refine Ka.calm Z ⟨Z,trivial⟩ (fun _ hS=>gK Z Z (hS.get 3) acr (by decide)) ?_;refine Ka.calm (r:=J r.2.1) Z ⟨Z,trivial⟩ (fun _ hS=>cu Z Z (hS.get 3) Z M3 Z) ?_;refine Ka.calm Z ⟨Z,trivial⟩ (fun _ hS=>gK Z Z (hS.get 3) acs (by decide)) ?_;refine Ka.calm (r:=J r.2.2) Z ⟨Z,trivial⟩ (fun _ hS=>cu Z Z (hS.get 3) Z XA Z) ?_;refine Ka.kW Z Z (bX (e':=dy) Z Z Z Z Z Z PC Z (by rw[Ve];exact afk _) (hflat dy Z).symm) ⟨Z,trivial⟩ ?_;refine Ka.kW Z Z (bX (e':=J r.2.1) Z Z Z Z Z Z M3 Z dt Z) ⟨Z,trivial⟩ ?_;exact Ka.last Z Z (bX (e':=J r.2.2) Z Z Z Z Z Z XA Z dt Z) Z
  ·have e0:=r0.ext g2;have e1:=r1.ext g2;have e2:=r2.ext g2;simp only[lk] at hx
   split at hx
   ·rename_i hq;subst hq;cases hx;exact e0
   ·split at hx
    ·rename_i hq;subst hq;cases hx;exact e1
    ·split at hx
     ·rename_i hq;subst hq;cases hx;exact e2
     ·split at hx
      ·rename_i hq;subst hq;cases hx;exact g5
      ·cases hx
  ·subst hK;have hCd:C'.iu=[]:=hE.iu.trans hC1d;obtain⟨C2,q1,q2,q3⟩:=(bE (W0:=.off W0 3 []) (N:=15) (st:=⟨f,⟨4,[(0,(1,[dy])),(1,(1,[J r.2.1])),(2,(1,[J r.2.2])),(3,(2,[.agg [J r.2.1,J r.2.2]]))],[]⟩⟩) (fr':=[]) (H':=qe (.sl []) (J r.2.1) (J r.2.2)) [(0,0),(1,1),(2,2)] [] rfl rfl rfl
    (.cons Z Z (.one .nilsl Z) dt (.cons Z Z (.one (.sm) Z) dt (.cons Z Z (.one (.sm) Z) dt trivial))) trivial) C' a' hR
   have H9:a'.defers=[]:=by rw[hR.defers,hCd];rfl
   have hC2d:C2.iu=[]:=by
    have:=q3.defers;rw[H9] at this;cases hx:C2.iu with
    |nil=>rfl
    |cons a l=>rw[hx] at this;cases this
   refine⟨H9,_,Z,.tuple #[], ?_,⟨_,Z⟩,Z,C2,q1,Vy ((g2.trans hE).mem.trans q2) (by rw[hI.lU,hnx]) (hC2d.trans hd.symm),q3.inv,q3.heap⟩;simp[results,Tryz.results36]
theorem Le{W0:World}(hT:yW W0){aT:List UInt8}{r:(List an)×Int×Int}(h:uz aT=some r):oQ abQ W0 20 [dP aT] (.tuple [sm an.av r.1,J r.2.1,J r.2.2]):=by
 unfold uz at h;refine JY (t6:=10) (frx:=[(0,dP aT),(2,.ref 0 0 0),(3,.ref 1 0 0),(4,.ref 2 0 0)]) (z0:=dy) (z1:=J 0) (z2:=J 0) (c0:=.sl []) (c1:=J r.2.1) (c2:=J r.2.2) (R:=fun ch=>r.1=[]∧CE 109 (.agg #[.int .i64 r.2.1,.int .i64 r.2.2]) ch) (S:=X9) Tryz.func20 Z (by kernel_rfl) Tryz.ntmps20 (by simp) Z Z Z (by decide) Z Z Z Z Z ?_ Z Z Z (fun ds=> ?_) MJ (by simp)
 ·refine E (r:=.ref 0 0 0) Z (f_ 1 [dy] Z ap9 Z (.inl ⟨Z,Z⟩))<|E (r:=.ref 1 0 0) Z (f_ 1 [J 0] Z zr3 Z (.inl ⟨Z,Z⟩))<|E (r:=.ref 2 0 0) Z (f_ 1 [J 0] Z apR Z (.inl ⟨Z,Z⟩)) ?_;exact bH ⟨⟨Z,Z,Z,Z,trivial⟩,Z⟩
 ·refine sr Z fun K3 CX=>O Z ?_;obtain⟨wY,asq,h⟩:=b5 h;refine E (r:=.tuple [sm dP wY.1,J wY.2]) Z (wD Z Z (by simp) (MT hT asq))<|fF lD 4 [2,3,4,15,5] Z ?_;refine E Z (bX (e':=J wY.2) Z Z Z Z Z Z XA Z dt Z)<|Nd CX [2,3,4,5] Z ?_;refine cm fun K4 hK4=> ?_
  by_cases acL:decide (wY.2≠0)=true
  ·replace h:=Tm h acL;obtain rfl:=D h;refine s9 (R:=CE 109 (.agg #[.int .i64 0,.int .i64 wY.2])) (Hp:=⟨3,[(0,(1,[dy])),(1,(1,[J 0])),(2,(1,[J wY.2]))],[]⟩) 1 Z Z Z ?_;refine E (r:=J wY.2) Z (cu Z Z Z Z XA Z)<|bH ⟨Z,KO Z Z (by simp) (JU (by simpa using acL)),fun ch hch=>.inr ⟨⟨ch,Z,Z,hch⟩,⟨dy,J 0,J wY.2,⟨Z,⟨_,Z⟩,_,Z⟩,U [2,3,4] Z⟩,Z⟩⟩
  ·replace h:=Tl h (Bool.eq_false_iff.2 acL);refine iK Z<|E (r:=J wY.2) Z (cu Z Z Z Z XA Z)<|E (r:=.tuple []) Z (wD Z Z (by simp) (Gc hT (by unfold CP;rw[if_neg acL])))<|Nd hK4 [2,3,4,5] Z ?_;refine gB (fun(p:(List an))=>⟨[(2,.ref 0 0 0),(3,.ref 1 0 0),(4,.ref 2 0 0)],⟨4,[(0,(1,[.view 3 0 (ajN an.av p).length])),(1,(1,[J 0])),(2,(1,[J wY.2])),(3,(4,ajN an.av p))],[]⟩⟩) (fun p=>uU p=some r) ?_ ?_
   ·rintro v37 h;unfold uU at h;refine sr Z fun K7 hK7=>E (r:=.view 3 0 (ajN an.av v37).length) Z (cu Z Z Z Z PC Z)<|E Z (bX (e':=.view 3 0 (ajN an.av v37).length) Z Z Z Z Z Z PC Z dt Z)<|E Z (bX (e':=J 0) Z Z Z Z Z Z M3 Z dt Z)<|V [2,3,4] Z<|E Z (bX (e':=J 0) Z Z Z Z Z Z XA Z dt Z)<|bH ?_;refine hK7 _ ?_;refine fJ ?_;obtain rfl:=D h;exact .inl ⟨.inr Z,sm an.av v37,J 0,J 0,bE [(0,0),(1,1),(2,2)] [] Z Z Z (.cons Z Z (.one (.jI Z Z (by simp)) Z) dt (.cons Z Z (.one (.sm) Z) dt (.cons Z Z (.one (.sm) Z) dt trivial))) ⟨⟨_,Z,.ref Z⟩,⟨_,Z,.ref Z⟩,⟨_,Z,.ref Z⟩,trivial⟩,Z⟩
   ·intro K8 hK8;refine sr Z fun K9 Ze=>O Z<|E Z (rR dP wY.1 Z Z YJ)<|iJ lD Ze 1 [2,3,4,18,19,20] Z ?_;refine p5<|B5 (fun(p:(List an)×Int)=>qV wY p.1 p.2) (fun p=>⟨[(2,.ref 0 0 0),(3,.ref 1 0 0),(4,.ref 2 0 0),(18,sm dP wY.1),(19,J (Sh.len wY.1)),(20,J p.2)],⟨4,[(0,(1,[.view 3 0 (ajN an.av p.1).length])),(1,(1,[J 0])),(2,(1,[J wY.2])),(3,(4,ajN an.av p.1))],[]⟩⟩) h (bE [(0,0),(1,1),(2,2)] [3] Z Z Z (.cons Z Z (.one (.nil (by simp)) Z) dt (.cons Z Z (.one (.sm) Z) dt (.cons Z Z (.one (.sm) Z) dt (.fresh (by simp) dt trivial)))) ⟨⟨_,Z,.ref Z⟩,⟨_,Z,.ref Z⟩,⟨_,Z,.ref Z⟩,⟨(sm dP wY.1),Z,.sm⟩,.k,.k,trivial⟩) ?_
    ·rintro⟨ER,v49⟩ o1 h Sq;unfold qV at h;refine sr Z fun K10 Ti=>E Z (Kt Z Z Z)<|bH<|Ti _ ?_;refine cm fun K11 Tj=>oh Z h (fun h=> ?_) (fun h=> ?_)
     ·refine fU<|Tj _ (Y (U [2,3,4,18,19,20] Z) ?_);refine cm fun K12 Zb=>p5<|sr Z fun K13 agJ=>O Z ?_;obtain⟨x57,asv,h⟩:=b5 h;obtain⟨k58,ase,asi⟩:=jo asv;refine E Z (w9 dP wY.1 ase asi Z Z Z YJ Z)<|iJ lD agJ 3 [2,3,4,18,19,20,6,7] Z ?_;refine sr Z fun K14 Zc=>O Z ?_;obtain⟨Kk,asr,h⟩:=b5 h;refine E (r:=.tuple [an.av Kk.1,J Kk.2]) Z (wD Z Z (by simp) (Lj hT asr))<|fF lD 1 [2,3,4,18,19,20,6,25] Z ?_;refine E (r:=an.av Kk.1) Z (qQ Z Z Z)<|E (r:=J Kk.2) Z (qQ Z Z Z)<|E (r:=.ref 4 0 0) Z (f_ 4 [.agg [J 0,J 0,J 0,J 0]] Z V8 (by kernel_rfl) (.inl ⟨Z,Z⟩))<|V [2,3,4,18,19,20,6,28,29,8] Z<|E Z (bX (e':=an.av Kk.1) Z Z Z Z Z Z Gv Z dt Z)<|O Z<|bH<|Zc _ (Y (bE (fr':=[(2,.ref 0 0 0),(3,.ref 1 0 0),(4,.ref 2 0 0),(18,sm dP wY.1),(19,J (Sh.len wY.1)),(20,J v49),(6,J v49),(8,.pp [J Kk.1.Kind,J Kk.1.aI,J Kk.1.Key,J Kk.1.Value] 0),(9,J Kk.2)]) (H':=⟨4,[(0,(1,[.view 3 0 (ajN an.av ER).length])),(1,(1,[J 0])),(2,(1,[J wY.2])),(3,(4,ajN an.av ER))],[]⟩) [(0,0),(1,1),(2,2),(3,3)] [] Z Z Z (.cons Z Z (.one (.view Z) Z) dt (.cons Z Z (.one (.sm) Z) dt (.cons Z Z (.one (.sm) Z) dt (.cons Z Z (.same (by simp)) dt trivial)))) ⟨⟨_,Z,.ref Z⟩,⟨_,Z,.ref Z⟩,⟨_,Z,.ref Z⟩,⟨(sm dP wY.1),Z,.sm⟩,.k,.k,.k,⟨_,Z,.Td Z Z Z Z (by simp)⟩,.k,trivial⟩) ?_);refine cm fun K15 Zd=> ?_
      by_cases acM:decide (Kk.2≠0)=true
      ·replace h:=Tm h acM;replace h:=jm h Sq;obtain rfl:=D h;refine s9 (R:=CE 109 (.agg #[.int .i64 (bM (v49+1)),.int .i64 Kk.2])) (Hp:=⟨4,[(0,(1,[.view 3 0 (ajN an.av ER).length])),(1,(1,[J 0])),(2,(1,[J wY.2])),(3,(4,ajN an.av ER))],[]⟩) 3 Z Z Z ?_;refine O Z<|E Z (oR Z Z Z Z)<|O Z<|bH ⟨Z,KO Z Z (by simp) (JU (by simpa using acM)),fun ch hch=>.inr ⟨⟨ch,Z,Z,hch⟩,⟨(sm an.av ER),J 0,J wY.2,⟨Z,⟨_,Z⟩,_,Z⟩,bE [(0,0),(1,1),(2,2)] [] Z Z Z (.cons Z Z (.one (.jI Z Z (by simp)) Z) dt (.cons Z Z (.one (.sm) Z) dt (.cons Z Z (.one (.sm) Z) dt trivial))) ⟨⟨_,Z,.ref Z⟩,⟨_,Z,.ref Z⟩,⟨_,Z,.ref Z⟩,trivial⟩⟩,Z⟩⟩
      ·replace h:=Tl h (Bool.eq_false_iff.2 acM);refine iK Z<|O Z<|E Z (oR Z Z Z Z)<|O Z<|E (r:=.tuple []) Z (wD Z Z (by simp) (Gc hT (by unfold CP;rw[if_neg acM])))<|Nd Zd [2,3,4,18,19,20,8] Z ?_;refine iK Z<|E (r:=.view 3 0 (ajN an.av ER).length) Z (cu Z Z Z Z PC Z)<|Ho (an.av Kk.1) Z Z Z Gv Z<|E (r:=.clip (ajN an.av ([Kk.1]:List an))) Z (gA Z (xo:=[.tmp 35]) Z Z Z (by simp) (by simp) Qz ajw (by decide))<|V [2,3,4,18,19,20,34,36] Z ?_;obtain⟨l62,asj,h⟩:=b5 h;refine E (r:=.view 4 0 (ajN an.av l62).length) Z (uw an.av ER ([Kk.1]:List an) l62 asj Z acn (fun _=>Z) Z Z Z Z Z Z Z)<|E Z (bX (e':=.view 4 0 (ajN an.av l62).length) Z Z Z Z Z Z PC Z dt Z)<|bH<|Zb _ (Y (bE (fr':=[(2,.ref 0 0 0),(3,.ref 1 0 0),(4,.ref 2 0 0),(18,sm dP wY.1),(19,J (Sh.len wY.1)),(20,J v49)]) (H':=⟨4,[(0,(1,[.view 3 0 (ajN an.av l62).length])),(1,(1,[J 0])),(2,(1,[J wY.2])),(3,(4,ajN an.av l62))],[]⟩) [(0,0),(1,1),(2,2),(3,4)] [] Z Z Z (.cons Z Z (.one (.view Z) Z) dt (.cons Z Z (.one (.sm) Z) dt (.cons Z Z (.one (.sm) Z) dt (.cons Z Z (.same (by simp)) dt trivial)))) ⟨⟨_,Z,.ref Z⟩,⟨_,Z,.ref Z⟩,⟨_,Z,.ref Z⟩,⟨(sm dP wY.1),Z,.sm⟩,.k,.k,trivial⟩) ?_);refine iK Z<|E Z (oR Z Z Z Z)<|O Z<|bH ?_;replace h:=Iq h;exact⟨_,h,U [2,3,4,18,19,20] Z⟩
     ·refine zA ?_;replace h:=jm h Sq;exact hK8 ER _ h (U [2,3,4] Z)
instance {aT}:bh (uz aT) 20 [dP aT] (fun r=>.tuple [sm an.av r.1,J r.2.1,J r.2.2]):=⟨fun _ _ hT h=>Le hT h⟩
end Wk
end
