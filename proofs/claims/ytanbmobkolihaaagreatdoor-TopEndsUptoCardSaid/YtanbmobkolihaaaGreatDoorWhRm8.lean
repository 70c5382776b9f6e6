/- Functions do as their plain ones. -/
import Derived.Test.YtanbmobkolihaaaGreatDoorWhRm5
open Go.Sh renaming len→arA
open Option renaming bind_some→aqQ
open Array renaming replicate→ajA
open Go.Proofs.Tryz renaming prog→abQ
set_option linter.unusedVariables false
section
open Go Go.Av Go.Proofs G Go.Sh Go.Av.Sh
set_option maxHeartbeats 8000000
set_option maxRecDepth 20000
attribute [local irreducible] eX fG oJ FR IY
namespace Wk
section
open Sg
instance {cM}:iO (cL cM) 1 302 [.ref 0 0 0] ⟨1,[(0,(1,[aG.av cM]))],[]⟩ (fun r=>ai.av r.1) (fun r=>⟨1,[(0,(1,[aG.av r.2]))],[]⟩):=k3 Tryz.func302 27 [h,n,4,d,1,k [0,2,9],cd [z] [k [0,2],4,d,1,h,h,w [0,2,3] (If 2 [2]),5,d,2,h,k [2,3],1,h,k [2],x 1]]
end
theorem tF{W0:World}(hT:yW W0){cM:aG}{r:ai×aG}(h:cL cM=some r):Bs abQ (.pinned W0 1) 302 [.ref 0 0 0] ⟨1,[(0,(1,[aG.av cM]))],[]⟩ (ai.av r.1) ⟨1,[(0,(1,[aG.av r.2]))],[]⟩:=iO.ok W0 r hT h
open Sg in
theorem rH:∀(n:Nat) {cM},iO (bG n cM) 1 300 [.ref 0 0 0] ⟨1,[(0,(1,[aG.av cM]))],[]⟩ (fun r=>.tuple [J r.2.1,J r.2.2]) (fun r=>⟨1,[(0,(1,[aG.av r.1]))],[]⟩):=by
 intro n
 induction n with
 |zero=>intros;exact⟨fun _ _ _ h=>by cases h⟩
 |succ n ih=>intros;exact k3 Tryz.func300 30 [2,k [0],1,c [(0,0)] [(0,0)] [] [0],d,d,1,w [0,12] (I 1),cd [2,k [2,3],x 1] [k [0],1,c [(0,0)] [(0,0)] [] [0],5,w [0,4,5] (I 1),1,c [(0,0)] [(0,0)] [] [0],5,w [4,5,6,7] (I 1),5,d,3,k [2,3],x 1]]
theorem qG{W0:World}(hT:yW W0):∀(n:Nat) {cM:aG} {r:aG×Int×Int},bG n cM=some r→Bs abQ (.pinned W0 1) 300 [.ref 0 0 0] ⟨1,[(0,(1,[aG.av cM]))],[]⟩ (.tuple [J r.2.1,J r.2.2]) ⟨1,[(0,(1,[aG.av r.1]))],[]⟩:=by
 intro n;intros;exact(rH n).ok _ _ hT (by assumption)
instance {cM}:iO (Dk cM) 1 300 [.ref 0 0 0] ⟨1,[(0,(1,[aG.av cM]))],[]⟩ (fun r=>.tuple [J r.2.1,J r.2.2]) (fun r=>⟨1,[(0,(1,[aG.av r.1]))],[]⟩):=rH _
section
open Sg
instance {cM}:iO (nG cM) 1 301 [.ref 0 0 0] ⟨1,[(0,(1,[aG.av cM]))],[]⟩ (fun _=>.tuple []) (fun _=>⟨1,[(0,(1,[aG.av cM]))],[]⟩):=k3 Tryz.func301 10 [4,d,1,k [7],cd [z] [x 1]]
end
theorem uO{W0:World}(hT:yW W0){cM:aG}{r:Unit}(h:nG cM=some r):Bs abQ (.pinned W0 1) 301 [.ref 0 0 0] ⟨1,[(0,(1,[aG.av cM]))],[]⟩ (.tuple []) ⟨1,[(0,(1,[aG.av cM]))],[]⟩:=iO.ok W0 r hT h
theorem RP{c:aG}{x:ai}{l:List ai}(h:c.left=x::l):cL c=some (x,⟨l⟩):=by
 unfold cL;have h0:¬(arA c.left)=0:=by simp[h,arA];omega
 have h1:Sh.idx c.left 0=some x:=by simp[h,Sh.idx]
 have h2:Sh.sub c.left 1 (arA c.left)=some l:=by
  rw[h];simp[Sh.sub,arA]
  omega
 rw[if_neg (by simpa using h0),h1,aqQ,h2,aqQ]
theorem Xw:∀(n:Nat) (c:aG) (r:aG×Int×Int),bG n c=some r→r.1.left.length<c.left.length:=by
 intro n
 induction n with
 |zero=>intro c r h;cases h
 |succ n ih=>
  intro c r h;cases hc:c.left with
  |nil=>
   have:cL c=none:=by simp[cL,hc,arA]
   simp[bG,eU,this] at h
  |cons x l=>
   simp only[bG,eU,RP hc,aqQ] at h
   split at h
   ·cases h;simp
   ·obtain⟨r1,h1,h⟩:=b5 h;obtain⟨r2,h2,h⟩:=b5 h;cases h;have:=ih _ _ h1;have:=ih _ _ h2;simp only[List.length_cons] at*
    omega
theorem Xx{W0:World}(hT:yW W0){cM:aG}(h:cM.left=[]):KL abQ (.pinned W0 1) 302 [.ref 0 0 0] ⟨1,[(0,(1,[aG.av cM]))],[]⟩ ⟨1,[(0,(1,[aG.av cM]))],[]⟩:=by
 refine zc Z Tryz.func302 Z (by kernel_rfl) Tryz.ntmps302 (by simp) ?_;show iD _ _ _ _ ⟨[(0,.ref 0 0 0)],⟨1,[(0,(1,[aG.av cM]))],[]⟩⟩ _;refine sr Z fun K1 NF=>E (r:=.ref 1 0 0) Z (f_ 4 [.agg [J 0,J 0,J 0,dy]] Z af7 (by kernel_rfl) (.inl ⟨Z,Z⟩))<|bH<|NF _ ?_;refine cm fun K2 IZ=>sr Z fun K3 CX=>O Z<|E (r:=.ref 0 0 0) Z (og Z Z Z)<|fF lD 1 [0,2,6] Z ?_;refine E (r:=sm ai.av cM.left) Z (cu Z Z Z Z ao8 Z)<|E Z (rR ai.av cM.left Z Z OE)<|iJ lD CX 1 [0,2,9] Z ?_;refine mP Z (fun hb6=> ?_) (fun hb6=> ?_)
 ·refine s9 (R:=Bt) (Hp:=⟨2,[(0,(1,[aG.av cM])),(1,(4,[.agg [J 0,J 0,J 0,dy]]))],[]⟩) 2 Z Z Z ?_
  ·refine E (r:=.agg []) Z (iE Z Yu Z Z Z)<|E Z (fk Z Z Tryz.underlying463 (fun _ h=>by cases h)) ?_;exact bH ⟨Z,KP Z Z,fun ch hch=>⟨⟨ch,Z,hch⟩,bE [(0,0)] [] Z Z Z (.cons Z Z (.one (.sm) Z) dt trivial) trivial⟩⟩
 ·simp[h,arA] at hb6
theorem aa4{W0:World}(hT:yW W0){cM:aG}(h:(0:Int)<arA cM.left):KL abQ (.pinned W0 1) 301 [.ref 0 0 0] ⟨1,[(0,(1,[aG.av cM]))],[]⟩ ⟨1,[(0,(1,[aG.av cM]))],[]⟩:=by
 refine zc Z Tryz.func301 Z (by kernel_rfl) Tryz.ntmps301 (by simp) ?_;show iD _ _ _ _ ⟨[(0,.ref 0 0 0)],⟨1,[(0,(1,[aG.av cM]))],[]⟩⟩ _;refine sr Z fun K1 NF=>O Z<|E (r:=.ref 0 0 0) Z (og Z Z Z)<|fF lD 1 [4] Z ?_;refine E (r:=sm ai.av cM.left) Z (cu Z Z Z Z ao8 Z)<|E Z (rR ai.av cM.left Z Z OE)<|iJ lD NF 1 [7] Z ?_;refine mP Z (fun Tk=> ?_) (fun Tk=> ?_)
 ·refine s9 (R:=Bt) (Hp:=⟨1,[(0,(1,[aG.av cM]))],[]⟩) 2 Z Z Z ?_
  ·refine E (r:=.agg []) Z (iE Z Yu Z Z Z)<|E Z (fk Z Z Tryz.underlying463 (fun _ h=>by cases h)) ?_;exact bH ⟨Z,KP Z Z,fun ch hch=>⟨⟨ch,Z,hch⟩,bE [(0,0)] [] Z Z Z (.cons Z Z (.one (.sm) Z) dt trivial) trivial⟩⟩
 ·rw[decide_eq_true h] at Tk;cases Tk
theorem T9{W0:World}(hT:yW W0):∀(n:Nat) (cM:aG),cM.left.length<n→bG n cM=none→KL abQ (.pinned W0 1) 300 [.ref 0 0 0] ⟨1,[(0,(1,[aG.av cM]))],[]⟩ ⟨1,[(0,(1,[aG.av ⟨[]⟩]))],[]⟩:=by
 intro n
 induction n with
 |zero=>intro c hc;omega
 |succ n ih=>
  intro cM hlen h;refine zc Z Tryz.func300 Z (by kernel_rfl) Tryz.ntmps300 (by simp) ?_;show iD _ _ _ _ ⟨[(0,.ref 0 0 0)],⟨1,[(0,(1,[aG.av cM]))],[]⟩⟩ _;refine jD lD 2 [0] Z ?_;refine cm fun K2 IZ=>cm fun K3 CX=> ?_;cases hc:cM.left with
  |nil=>
   have hc0:cM=⟨[]⟩:=by cases cM;simp_all
   refine s9 (R:=Bt) (Hp:=⟨2,[(0,(1,[aG.av ⟨[]⟩]))],[]⟩) 1 Z Z Z ?_
   ·refine E (r:=.ref 0 0 0) Z (od (.inl Z) Z)<|bH ⟨Z, ?_,fun ch hch=> ?_⟩;subst hc0
    ·exact zz (ok:=bQ) (ys:=[.ref 0 0 0]) (xs:=[.ref 0 0 0]) (r:=.any) (r':=.any) (Hs:=⟨1,[(0,(1,[aG.av ⟨[]⟩]))],[]⟩) (H':=⟨2,[(0,(1,[aG.av ⟨[]⟩]))],[]⟩) (g:=[(0,0)]) (m:=[(0,0)]) (nw:=[]) (p:=1) Z Z (Xx hT Z) {next:=Z,part:=⟨Z,trivial⟩,inj:=Z,lt:=Z,TA:=Z,XZ:=Z,held:=.cons Z Z (.one (.sm) Z) dt trivial,seen:=⟨⟨_,Z,.ref Z⟩,trivial⟩,A5:=Z,Su:=Z,map:=Z,next':=Z,back:=.new 0 Z Z (.one ⟨.sm,trivial⟩) trivial,ec:=.inl ⟨Z,Z⟩,mode:=.inr ⟨fun _ h=>h,Z⟩,ren:=.any _} Z
    ·exact⟨⟨ch,Z,hch⟩,bE [(0,0)] [] Z Z Z (.cons Z Z (.one (.sm) Z) dt trivial) trivial⟩
  |cons x l=>
   have hn:=RP hc;simp only[bG,eU,hn,aqQ] at h;refine iK Z<|O Z<|E (r:=ai.av x) Z (wE (ok:=bQ) (ys:=[.ref 0 0 0]) (xs:=[.ref 0 0 0]) (r':=ai.av x) (Hs:=⟨1,[(0,(1,[aG.av cM]))],[]⟩) (H':=⟨2,[(0,(1,[aG.av ⟨l⟩]))],[]⟩) (g:=[(0,0)]) (m:=[(0,0)]) (nw:=[]) (p:=1) (.func Z Z (tF hT hn).call) (tF hT hn) {next:=Z,part:=⟨Z,trivial⟩,inj:=Z,lt:=Z,TA:=Z,XZ:=Z,held:=.cons Z Z (.one (.sm) Z) dt trivial,seen:=⟨⟨_,Z,.ref Z⟩,trivial⟩,A5:=Z,Su:=Z,map:=Z,next':=Z,back:=.new 0 Z Z (.one ⟨.sm,trivial⟩) trivial,ec:=.inl ⟨Z,Z⟩,mode:=.inr ⟨fun _ h=>h,Z⟩,ren:=.sm} Z)<|E (r:=sm J x.eH) Z (Nj Z Z acv Z)<|V [0,10] Z<|E Z (rR J x.eH Z Z Je)<|E Z (UG Z Z Z)<|bH ?_;refine CX _ (Y (bE (fr':=[(0,.ref 0 0 0),(12,bl (decide ((0:Int)<(arA x.eH))))]) (H':=⟨1,[(0,(1,[aG.av ⟨l⟩]))],[]⟩) [(0,0)] [] Z Z Z (.cons Z Z (.one (.sm) Z) dt trivial) ⟨⟨_,Z,.ref Z⟩,.k,trivial⟩) ?_);refine mP Z (fun agR=> ?_) (fun agR=> ?_)
   ·rw[if_pos agR] at h;cases h
   ·rw[if_neg (by rw[agR];exact Bool.false_ne_true)] at h;refine fU<|IZ _ (Y (U [0] Z) ?_);have hll:l.length<n:=by rw[hc] at hlen;simp at hlen;omega
    refine cm fun K5 MC=> ?_;cases h1:bG n ⟨l⟩ with
    |none=>
     refine s9 (R:=Bt) (Hp:=⟨2,[(0,(1,[aG.av ⟨[]⟩]))],[]⟩) 1 Z Z Z ?_
     ·refine E (r:=.ref 0 0 0) Z (od (.inl Z) Z)<|bH ⟨Z, ?_,fun ch hch=> ?_⟩
      ·exact zz (ok:=bQ) (ys:=[.ref 0 0 0]) (xs:=[.ref 0 0 0]) (r:=.any) (r':=.any) (Hs:=⟨1,[(0,(1,[aG.av ⟨l⟩]))],[]⟩) (H':=⟨2,[(0,(1,[aG.av ⟨[]⟩]))],[]⟩) (g:=[(0,0)]) (m:=[(0,0)]) (nw:=[]) (p:=1) Z Z (ih ⟨l⟩ hll h1) {next:=Z,part:=⟨Z,trivial⟩,inj:=Z,lt:=Z,TA:=Z,XZ:=Z,held:=.cons Z Z (.one (.sm) Z) dt trivial,seen:=⟨⟨_,Z,.ref Z⟩,trivial⟩,A5:=Z,Su:=Z,map:=Z,next':=Z,back:=.new 0 Z Z (.one ⟨.sm,trivial⟩) trivial,ec:=.inl ⟨Z,Z⟩,mode:=.inr ⟨fun _ h=>h,Z⟩,ren:=.any _} Z
      ·exact⟨⟨ch,Z,hch⟩,bE [(0,0)] [] Z Z Z (.cons Z Z (.one (.sm) Z) dt trivial) trivial⟩
    |some J7=>
     rw[h1,aqQ] at h;have amM:=qG hT n h1;refine iK Z<|O Z<|E (r:=.tuple [J J7.2.1,J J7.2.2]) Z (wE (ok:=bQ) (ys:=[.ref 0 0 0]) (xs:=[.ref 0 0 0]) (r':=.tuple [J J7.2.1,J J7.2.2]) (Hs:=⟨1,[(0,(1,[aG.av ⟨l⟩]))],[]⟩) (H':=⟨2,[(0,(1,[aG.av J7.1]))],[]⟩) (g:=[(0,0)]) (m:=[(0,0)]) (nw:=[]) (p:=1) (.func Z Z amM.call) amM {next:=Z,part:=⟨Z,trivial⟩,inj:=Z,lt:=Z,TA:=Z,XZ:=Z,held:=.cons Z Z (.one (.sm) Z) dt trivial,seen:=⟨⟨_,Z,.ref Z⟩,trivial⟩,A5:=Z,Su:=Z,map:=Z,next':=Z,back:=.new 0 Z Z (.one ⟨.sm,trivial⟩) trivial,ec:=.inl ⟨Z,Z⟩,mode:=.inr ⟨fun _ h=>h,Z⟩,ren:=.sm} Z)<|fF lD 1 [0,13] Z ?_;refine E (r:=J J7.2.1) Z (qQ Z Z Z)<|E (r:=J J7.2.2) Z (qQ Z Z Z)<|O Z<|O Z<|bH<|MC _ (Y (bE (fr':=[(0,.ref 0 0 0)]) (H':=⟨1,[(0,(1,[aG.av J7.1]))],[]⟩) [(0,0)] [] Z Z Z (.cons Z Z (.one (.sm) Z) dt trivial) ⟨⟨_,Z,.ref Z⟩,trivial⟩) ?_);refine cm fun K6 X1=> ?_;have h2:bG n J7.1=none:=by
      cases h2:bG n J7.1 with
      |none=>rfl
      |some r=>rw[h2] at h;cases h
     refine s9 (R:=Bt) (Hp:=⟨2,[(0,(1,[aG.av ⟨[]⟩]))],[]⟩) 1 Z Z Z ?_
     ·refine E (r:=.ref 0 0 0) Z (od (.inl Z) Z)<|bH ⟨Z, ?_,fun ch hch=> ?_⟩
      ·exact zz (ok:=bQ) (ys:=[.ref 0 0 0]) (xs:=[.ref 0 0 0]) (r:=.any) (r':=.any) (Hs:=⟨1,[(0,(1,[aG.av J7.1]))],[]⟩) (H':=⟨2,[(0,(1,[aG.av ⟨[]⟩]))],[]⟩) (g:=[(0,0)]) (m:=[(0,0)]) (nw:=[]) (p:=1) Z Z (ih J7.1 (Nat.lt_trans (Xw _ _ _ h1) hll) h2) {next:=Z,part:=⟨Z,trivial⟩,inj:=Z,lt:=Z,TA:=Z,XZ:=Z,held:=.cons Z Z (.one (.sm) Z) dt trivial,seen:=⟨⟨_,Z,.ref Z⟩,trivial⟩,A5:=Z,Su:=Z,map:=Z,next':=Z,back:=.new 0 Z Z (.one ⟨.sm,trivial⟩) trivial,ec:=.inl ⟨Z,Z⟩,mode:=.inr ⟨fun _ h=>h,Z⟩,ren:=.any _} Z
      ·exact⟨⟨ch,Z,hch⟩,bE [(0,0)] [] Z Z Z (.cons Z Z (.one (.sm) Z) dt trivial) trivial⟩
def Code.NZ:Option Code→List Oper
 |some (.seq _ (.cond _ (.region _ l _) _))=>l.toList
 |_=>[]
theorem RQ{W0:World}:On abQ W0 299 (J 0) (J 0) (bl false) where
 call:=iF Tryz.func299 (by kernel_rfl) rfl
 idle v0 v1 v2 w:=by
  refine callsDIn_of_wpSIn Tryz.func299 Z trivial fun c₀ cs hu=> ?_;apply wpSIn_seq;apply wpSIn_region;simp[wpOpsSIn,go_sem,recoverD,hu,Tryz.ntmps299,Exit.thenS];refine wpSIn_cond (t:=false) (by simp[Act.eval,ajA]) ?_;simp only[Bool.false_eq_true,if_false];refine wpSIn_of_wpIn Z (wpIn_skip ?_);cases c₀
  simp_all [bodyPostS,results,Tryz.results299]
  first|done|exact Go.RowKit.Below.refl _ _|skip
 pan ch C v0 v1 v2 b0 b1 b2 hch hs hI hH hd r0 r1 r2:=by
  obtain⟨i,j,t,rfl,rfl,rfl⟩:=hs;obtain⟨u,v,rfl⟩:=hch;refine callsDIn_of_wpSIn Tryz.func299 Z trivial fun c₀ cs hu=> ?_;apply wpSIn_seq;apply wpSIn_region;simp[wpOpsSIn,go_sem,recoverD,hu,Tryz.ntmps299,Exit.thenS];refine wpSIn_cond (t:=true) (by simp[Act.eval,ajA]) ?_;simp only[if_true];refine wpSIn_of_wpIn Z (wpIn_region_lit ?_);have run:AR abQ (.off W0 3 []) (Code.NZ (Tryz.f299.body)).toArray (Code.NZ (Tryz.f299.body)) [(0,.ref 0 0 0),(1,.ref 1 0 0),(2,.ref 2 0 0)] (qe (J i) (J j) (bl t)) (fun _ K=>K=qe (J 0) (J 0) (bl false)):=by
   refine E Z (bX (e':=J 0) Z Z Z Z Z Z M3 Z dt Z)<|E Z (bX (e':=J 0) Z Z Z Z Z Z M3 Z dt Z)<|E Z (bX (e':=bl false) Z Z Z Z Z Z sz4 Z dt Z) ?_;exact bH Z
  obtain⟨f0,K0,hrun,rfl⟩:=run;refine Cy (N:=5) hrun (fun o ho=>List.all_eq_true.1 Z o ho) C _ _ ⟨hH,hI,by simp,by simp[hd],fun q x hx=> ?_⟩ fun C' a' hE hR=> ?_
  ·simp only[lk] at hx
   split at hx
   ·rename_i hq;subst hq;cases hx;exact r0
   ·split at hx
    ·rename_i hq;subst hq;cases hx;exact r1
    ·split at hx
     ·rename_i hq;subst hq;cases hx;exact r2
     ·cases hx
  ·refine⟨by rw[hR.defers,hE.iu,hd];rfl,_,Z,.tuple #[], ?_,⟨_,Z⟩,Z,C',Z,hE,hR.inv,hR.heap⟩;simp[results,Tryz.results299]
theorem Kl{W0:World}(hT:yW W0){uy:List ai}{r:Int×Int×Bool}(h:sG uy=some r):oQ abQ W0 259 [sm ai.av uy] (.tuple [J r.1,J r.2.1,bl r.2.2]):=by
 refine JY (t6:=6) (frx:=[(0,sm ai.av uy),(2,.ref 0 0 0),(3,.ref 1 0 0),(4,.ref 2 0 0)]) (z0:=J 0) (z1:=J 0) (z2:=bl false) Tryz.func259 Z (by kernel_rfl) Tryz.ntmps259 (by simp) Z Z Z (by decide) Z Z Z Z Z ?_ Z Z Z (fun ds=> ?_) (RQ (W0:=W0)) (by simp)
 ·refine E (r:=.ref 0 0 0) Z (f_ 1 [J 0] Z zr3 Z (.inl ⟨Z,Z⟩))<|E (r:=.ref 1 0 0) Z (f_ 1 [J 0] Z zr3 Z (.inl ⟨Z,Z⟩))<|E (r:=.ref 2 0 0) Z (f_ 1 [bl false] Z zr4 Z (.inl ⟨Z,Z⟩)) ?_;exact bH ⟨⟨Z,Z,Z,Z,trivial⟩,Z⟩
 ·refine sr Z fun K3 CX=>O Z<|E (r:=.agg [sm ai.av uy]) Z (iE Z ae4 Z Z Z)<|E (r:=.ref 3 0 0) Z (Oq 1 [.agg [sm ai.av uy]] Z Z Z (.inl ⟨Z,Z⟩))<|iJ lD CX 1 [2,3,4,5] Z ?_;refine cm fun K4 hK4=> ?_;simp only[sG] at h;cases h4:bG (uy.length+1) (aG.mk uy) with
  |none=>
   rw[h4] at h;cases h;refine s9 (R:=Bt) (Hp:=⟨5,[(0,(1,[J 0])),(1,(1,[J 0])),(2,(1,[bl false])),(3,(1,[aG.av ⟨[]⟩]))],[]⟩) 1 Z Z Z ?_
   ·refine E (r:=.ref 3 0 0) Z (od (.inl Z) Z)<|bH ⟨Z, ?_,fun ch hch=> ?_⟩
    ·exact zz (ok:=bQ) (ys:=[.ref 3 0 0]) (xs:=[.ref 0 0 0]) (r:=.any) (r':=.any) (Hs:=⟨4,[(3,(1,[aG.av ⟨uy⟩]))],[]⟩) (g:=[(0,3)]) (m:=[(0,3)]) (nw:=[]) (p:=1) Z Z (T9 hT _ _ (Nat.lt_succ_self _) h4) {next:=Z,part:=⟨Z,trivial⟩,inj:=Z,lt:=Z,TA:=Z,XZ:=Z,held:=.cons Z Z (.one (.sm) Z) dt trivial,seen:=⟨⟨_,Z,.ref Z⟩,trivial⟩,A5:=Z,Su:=Z,map:=Z,next':=Z,back:=.kept Z Z (.kept Z Z (.kept Z Z (.new 0 Z Z (.one ⟨.sm,trivial⟩) trivial))),ec:=.inl ⟨Z,Z⟩,mode:=.inr ⟨fun _ h=>h,Z⟩,ren:=.any _} Z
    ·exact .inr ⟨⟨ch,Z,hch⟩,⟨J 0,J 0,bl false,⟨_,_,_,Z,Z,Z⟩,bE [(0,0),(1,1),(2,2)] [] Z Z Z (.cons Z Z (.one (.sm) Z) dt (.cons Z Z (.one (.sm) Z) dt (.cons Z Z (.one (.sm) Z) dt trivial))) ⟨⟨_,Z,.ref Z⟩,⟨_,Z,.ref Z⟩,⟨_,Z,.ref Z⟩,trivial⟩⟩,Z⟩
  |some r4=>
   have hr4:=qG hT _ h4;rw[h4] at h;replace h:=Option.some.inj h
   dsimp only at h
   refine iK Z<|O Z<|E (r:=.tuple [J r4.2.1,J r4.2.2]) Z (wE (ok:=bQ) (ys:=[.ref 3 0 0]) (xs:=[.ref 0 0 0]) (r':=.tuple [J r4.2.1,J r4.2.2]) (Hs:=⟨4,[(3,(1,[.agg [sm ai.av uy]]))],[]⟩) (H':=⟨5,[(0,(1,[J 0])),(1,(1,[J 0])),(2,(1,[bl false])),(3,(1,[aG.av r4.1]))],[]⟩) (g:=[(0,3)]) (m:=[(0,3)]) (nw:=[]) (p:=1) (.func Z Z hr4.call) hr4 {next:=Z,part:=⟨Z,trivial⟩,inj:=Z,lt:=Z,TA:=Z,XZ:=Z,held:=.cons Z Z (.one (.sm) Z) dt trivial,seen:=⟨⟨_,Z,.ref Z⟩,trivial⟩,A5:=Z,Su:=Z,map:=Z,next':=Z,back:=.kept Z Z (.kept Z Z (.kept Z Z (.new 0 Z Z (.one ⟨.sm,trivial⟩) trivial))),ec:=.inl ⟨Z,Z⟩,mode:=.inr ⟨fun _ h=>h,Z⟩,ren:=.sm} Z)<|fF lD 1 [2,3,4,5,10] Z ?_;refine E (r:=J r4.2.1) Z (qQ Z Z Z)<|E (r:=J r4.2.2) Z (qQ Z Z Z)<|E Z (bX (e':=J r4.2.1) Z Z Z Z Z Z M3 Z dt Z)<|V [2,3,4,5,14] Z<|E Z (bX (e':=J r4.2.2) Z Z Z Z Z Z M3 Z dt Z)<|bH<|hK4 _ (Y (bE (fr':=[(2,.ref 0 0 0),(3,.ref 1 0 0),(4,.ref 2 0 0),(5,.ref 3 0 0)]) (H':=⟨4,[(0,(1,[J r4.2.1])),(1,(1,[J r4.2.2])),(2,(1,[bl false])),(3,(1,[aG.av r4.1]))],[]⟩) [(0,0),(1,1),(2,2),(3,3)] [] Z Z Z (.cons Z Z (.one (.sm) Z) dt (.cons Z Z (.one (.sm) Z) dt (.cons Z Z (.one (.sm) Z) dt (.cons Z Z (.one (.sm) Z) dt trivial)))) ⟨⟨_,Z,.ref Z⟩,⟨_,Z,.ref Z⟩,⟨_,Z,.ref Z⟩,⟨_,Z,.ref Z⟩,trivial⟩) ?_);refine cm fun K5 MC=> ?_
   by_cases he:(0:Int)<arA r4.1.left
   ·rw[if_pos (decide_eq_true he)] at h;subst h;refine s9 (R:=Bt) (Hp:=⟨5,[(0,(1,[J r4.2.1])),(1,(1,[J r4.2.2])),(2,(1,[bl false])),(3,(1,[aG.av r4.1]))],[]⟩) 1 Z Z Z ?_
    ·refine E (r:=.ref 3 0 0) Z (od (.inl Z) Z)<|bH ⟨Z, ?_,fun ch hch=> ?_⟩
     ·exact zz (ok:=bQ) (ys:=[.ref 3 0 0]) (xs:=[.ref 0 0 0]) (r:=.any) (r':=.any) (Hs:=⟨4,[(3,(1,[aG.av r4.1]))],[]⟩) (g:=[(0,3)]) (m:=[(0,3)]) (nw:=[]) (p:=1) Z Z (aa4 hT he) {next:=Z,part:=⟨Z,trivial⟩,inj:=Z,lt:=Z,TA:=Z,XZ:=Z,held:=.cons Z Z (.one (.sm) Z) dt trivial,seen:=⟨⟨_,Z,.ref Z⟩,trivial⟩,A5:=Z,Su:=Z,map:=Z,next':=Z,back:=.kept Z Z (.kept Z Z (.kept Z Z (.new 0 Z Z (.one ⟨.sm,trivial⟩) trivial))),ec:=.inl ⟨Z,Z⟩,mode:=.inr ⟨fun _ h=>h,Z⟩,ren:=.any _} Z
     ·exact .inr ⟨⟨ch,Z,hch⟩,⟨J r4.2.1,J r4.2.2,bl false,⟨_,_,_,Z,Z,Z⟩,bE [(0,0),(1,1),(2,2)] [] Z Z Z (.cons Z Z (.one (.sm) Z) dt (.cons Z Z (.one (.sm) Z) dt (.cons Z Z (.one (.sm) Z) dt trivial))) ⟨⟨_,Z,.ref Z⟩,⟨_,Z,.ref Z⟩,⟨_,Z,.ref Z⟩,trivial⟩⟩,Z⟩
   ·rw[if_neg (by simpa using he)] at h;subst h;have hr6:nG r4.1=some ():=by unfold nG;rw[if_neg (by simpa using he)]
    refine iK Z<|O Z<|E (r:=.tuple []) Z (wE (ok:=bQ) (ys:=[.ref 3 0 0]) (xs:=[.ref 0 0 0]) (r':=.tuple []) (Hs:=⟨4,[(3,(1,[aG.av r4.1]))],[]⟩) (H':=⟨5,[(0,(1,[J r4.2.1])),(1,(1,[J r4.2.2])),(2,(1,[bl false])),(3,(1,[aG.av r4.1]))],[]⟩) (g:=[(0,3)]) (m:=[(0,3)]) (nw:=[]) (p:=1) (.func Z Z (uO hT hr6).call) (uO hT hr6) {next:=Z,part:=⟨Z,trivial⟩,inj:=Z,lt:=Z,TA:=Z,XZ:=Z,held:=.cons Z Z (.one (.sm) Z) dt trivial,seen:=⟨⟨_,Z,.ref Z⟩,trivial⟩,A5:=Z,Su:=Z,map:=Z,next':=Z,back:=.kept Z Z (.kept Z Z (.kept Z Z (.new 0 Z Z (.one ⟨.sm,trivial⟩) trivial))),ec:=.inl ⟨Z,Z⟩,mode:=.inr ⟨fun _ h=>h,Z⟩,ren:=.sm} Z)<|bH<|MC _ (Y (bE (fr':=[(2,.ref 0 0 0),(3,.ref 1 0 0),(4,.ref 2 0 0)]) (H':=⟨3,[(0,(1,[J r4.2.1])),(1,(1,[J r4.2.2])),(2,(1,[bl false]))],[]⟩) [(0,0),(1,1),(2,2)] [] Z Z Z (.cons Z Z (.one (.sm) Z) dt (.cons Z Z (.one (.sm) Z) dt (.cons Z Z (.one (.sm) Z) dt trivial))) ⟨⟨_,Z,.ref Z⟩,⟨_,Z,.ref Z⟩,⟨_,Z,.ref Z⟩,trivial⟩) ?_);refine cm fun K6 X1=>HD [] (some 0) (by kernel_rfl) (by kernel_rfl) Z ?_;refine BZ.fork ?_;refine AF.many 0 [1] (by kernel_rfl) ⟨?_, ?_,trivial⟩
    ·refine bI (r:=J r4.2.1) _ Z Z Z (cu Z Z Z Z M3 Z) ?_;refine AF.many 1 [2] (by kernel_rfl) ⟨?_, ?_,trivial⟩
     ·refine bI (r:=J r4.2.2) _ Z Z Z (cu Z Z Z Z M3 Z) ?_;refine AF.many 2 [] (by kernel_rfl) ⟨?_,trivial⟩
      ·refine bI _ Z Z Z (bX (e':=J r4.2.1) Z Z Z Z Z Z M3 Z dt Z) ?_;refine AF.many 3 [] (by kernel_rfl) ⟨?_,trivial⟩
       ·refine bI _ Z Z Z (bX (e':=J r4.2.2) Z Z Z Z Z Z M3 Z dt Z) ?_;refine AF.many 4 [] (by kernel_rfl) ⟨?_,trivial⟩
        ·refine bI _ Z Z Z (bX (e':=bl true) Z Z Z Z Z Z sz4 Z dt Z) ?_;refine AF.done (by kernel_rfl) ?_;refine X1 _ (Y (U [2,3,4] Z) ?_);exact fJ<|.inl ⟨.inr Z,J r4.2.1,J r4.2.2,bl true,U [2,3,4] Z,Z⟩
     ·refine bI _ Z Z Z (bX (e':=J r4.2.1) Z Z Z Z Z Z M3 Z dt Z) ?_;refine AF.many 1 [] (by kernel_rfl) ⟨?_,trivial⟩
      ·refine bI (r:=J r4.2.2) _ Z Z Z (cu Z Z Z Z M3 Z) ?_;refine AF.many 3 [] (by kernel_rfl) ⟨?_,trivial⟩
       ·refine bI _ Z Z Z (bX (e':=J r4.2.2) Z Z Z Z Z Z M3 Z dt Z) ?_;refine AF.many 4 [] (by kernel_rfl) ⟨?_,trivial⟩
        ·refine bI _ Z Z Z (bX (e':=bl true) Z Z Z Z Z Z sz4 Z dt Z) ?_;refine AF.done (by kernel_rfl) ?_;refine X1 _ (Y (U [2,3,4] Z) ?_);exact fJ<|.inl ⟨.inr Z,J r4.2.1,J r4.2.2,bl true,U [2,3,4] Z,Z⟩
    ·refine bI (r:=J r4.2.2) _ Z Z Z (cu Z Z Z Z M3 Z) ?_;refine AF.many 0 [] (by kernel_rfl) ⟨?_,trivial⟩
     ·refine bI (r:=J r4.2.1) _ Z Z Z (cu Z Z Z Z M3 Z) ?_;refine AF.many 2 [] (by kernel_rfl) ⟨?_,trivial⟩
      ·refine bI _ Z Z Z (bX (e':=J r4.2.1) Z Z Z Z Z Z M3 Z dt Z) ?_;refine AF.many 3 [] (by kernel_rfl) ⟨?_,trivial⟩
       ·refine bI _ Z Z Z (bX (e':=J r4.2.2) Z Z Z Z Z Z M3 Z dt Z) ?_;refine AF.many 4 [] (by kernel_rfl) ⟨?_,trivial⟩
        ·refine bI _ Z Z Z (bX (e':=bl true) Z Z Z Z Z Z sz4 Z dt Z) ?_;refine AF.done (by kernel_rfl) ?_;refine X1 _ (Y (U [2,3,4] Z) ?_);exact fJ<|.inl ⟨.inr Z,J r4.2.1,J r4.2.2,bl true,U [2,3,4] Z,Z⟩
instance {uy}:bh (sG uy) 259 [sm ai.av uy] (fun r=>.tuple [J r.1,J r.2.1,bl r.2.2]):=⟨fun _ _ hT h=>Kl hT h⟩
section
open Sg
instance {cM}:bh (EZ cM) 304 [aa.av cM] (fun r=>aa.av r):=k1 Tryz.func304 10 [h,h,w [1,2] (Mf [(0,1)] 1 [0]),6,d,h,k [2],x 0]
instance {kN jB nP}:bh (lV kN jB nP) 341 [J kN,.pp [sm aJ.av jB.aL] 0,.pp [J nP.Key,J nP.A,J nP.B] 0] (fun r=>bl r):=k1 Tryz.func341 25 [1,k [0,1,2],R (fl 21 [] []),3,G [7] [3,d,3,G [13,14] [3,d,4,d,2,k [4],x 0] [11,k [4],x 0]] [18,k [4],x 0]]
instance {aV cK}:bh (xw aV cK) 305 [af.av aV,aa.av cK] (fun r=>bl r):=k1 Tryz.func305 24 [h,h,1,w [2,3] (If 0 [0,1]),d,1,k [3,5],6,G [12] [3,d,2,G [18] [3,d,2,k [4],x 0] [6,k [4],x 0]] [12,k [4],x 0]]
end
open Sg in
theorem AS:∀(n:Nat) {aV aB c8 DV},iO (gd n aV aB c8 DV) 1 260 [.ref 0 0 0,af.av aV,J aB,sm aa.av c8] ⟨1,[(0,(1,[aG.av DV]))],[]⟩ (fun r=>bl r.2) (fun r=>⟨1,[(0,(1,[aG.av r.1]))],[]⟩):=by
 intro n
 induction n with
 |zero=>intros;exact⟨fun _ _ _ h=>by cases h⟩
 |succ n ih=>intros;exact k3 Tryz.func260 61 [h,1,w [0,2,3,5] (If 1 [1]),1,c [(0,0)] [(0,0)] [] [0],h,h,w [0,2,3,5,9] (If 1 [2]),2,d,1,k [0,2,3,5,9,17],cd [2,d,d,1,G [21,22] [5,d,2,k [8],x 1] [8,k [8],x 1]] [k [0,2,3,5,9],1,d,1,k [0,2,3,5,9],R (fl 10 [] [7,8]),6,d,w [] ⟨[(0,0)],2,[],[],[1]⟩,c [(0,0)] [(0,0)] [] [0],1,w [0,2,3,5,9,10] (I 1),R (fl 11 [] [8,9]),6,d,d,w [] ⟨[(0,0)],2,[],[],[1]⟩,c [(0,0)] [(0,0)] [] [0],1,w [5,9,10,11] (I 1),2,G [10,51,52] [3,G [53,54,55] [3,d,2,k [8],x 1] [6,k [8],x 1]] [9,k [8],x 1]]]
instance {aV aB c8 DV}:iO (qt aV aB c8 DV) 1 260 [.ref 0 0 0,af.av aV,J aB,sm aa.av c8] ⟨1,[(0,(1,[aG.av DV]))],[]⟩ (fun r=>bl r.2) (fun r=>⟨1,[(0,(1,[aG.av r.1]))],[]⟩):=AS _
section
open Sg
instance {aV aB c8 iC}:bh (vr aV aB c8 iC) 218 [af.av aV,J aB,sm aa.av c8,sm ai.av iC] (fun r=>bl r):=k1 Tryz.func218 40 [h,1,w [1,2,3,4] (If 0 [0]),1,d,7,k [1,2,3,4,11],j [1,2,3,4] (I 0) (fun p:Bool=>[.s 32 [] (bl p)]) [3,G [20] [12,x 0] [1,d,3,G [23,24,25] [7,x 0] [3,G [27,28] [4,x 0] [4,x 0]]]] [cd [1,k [8],x 0] [k [1,2,3,4],1,d,h,3,c [(0,0)] [(0,0)] [] [0],1,w [8] (I 0),x 0]]]
end
end Wk
end
